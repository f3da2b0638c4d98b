/- Joined texts: KHead. Conditions: each part names its own. -/
import Derived.Test.YtmbjehnddgcboaaGreatDoorZKAt
import Derived.Test.YtmbjehnddgcboaaGreatDoorZRdH
import Derived.Test.YtmbjehnddgcboaaGreatDoorZValue
import Derived.Test.YtmbjehnddgcboaaGreatDoorZCfg
import Derived.Test.YtmbjehnddgcboaaGreatDoorZCfgM
import Derived.Deep.RegionHeld3
/- The document's head of a container. Conditions: the unit's data read. -/
namespace Go.Proofs.YtmbjehnddgcboaaGreatDoor
open Go.RowKit
set_option linter.unusedVariables false
set_option linter.unusedSimpArgs false

/-- is a unit the head of a container? -/
def headU (k : Int) (d : List Int) : Prop := k = 16 ∧ d.length = 22 ∧ headOk (headD d)
instance (k : Int) (d : List Int) : Decidable (headU k d) := by unfold headU; infer_instance
/-- what head hands back -/
def KHeadP (w : World) (k : Int) (d : List Int) (e : Ending) (w' : World) : Prop :=
  Only [] w w' ∧ ((headU k d ∧ e = .returned (.tuple #[infoV (headD d).W (headD d).H (headD d).F (headD d).c (.slice none 0 0), .int .i64 (headD d).parts, .bool true])) ∨
    (¬ headU k d ∧ ∃ W H F c n, e = .returned (.tuple #[infoV W H F c (.slice none 0 0), .int .i64 n, .bool false])))
abbrev zInfo : Obj := .cells #[.int .i64 0, .int .i64 0, .int .i64 0, .int .i64 0, .int .i64 0, .int .i64 0, .int .i64 0, .int .i64 0, .int .i64 0, .int .i64 0, .int .i64 0, .slice none 0 0] 34

set_option maxRecDepth 100000 in
set_option maxHeartbeats 8000000 in
theorem khead_any {lo hi : Nat} {uk ua ue : Int} {dv : Value} {ud : List Int} {w : World} (hdv : Ints .u8 lo hi w dv ud) (hll : ud.length ≤ 1000000000000) :
    Calls Tryz.prog 41 #[.agg #[.int .i64 uk, dv, .int .i64 ua, .int .i64 ue]] w (KHeadP w uk ud) := by
  suffices key : ∀ Q : Ending → World → Prop, Hid (∀ e w', KHeadP w uk ud e w' → Q e w') → Calls Tryz.prog 41 #[.agg #[.int .i64 uk, dv, .int .i64 ua, .int .i64 ue]] w Q from key _ (Lib.hid fun _ _ h => h)
  intro Q HPost
  obtain ⟨da, dcap, rfl, hdc, hdm, hat, hcl⟩ := hdv.open
  have Hdr := Lib.hid hdv.2
  have Hdv := Lib.hid hdv
  have Hll := Lib.hid hll
  have hlI : (ud.length : Int) ≤ 1000000000000 := by omega
  clear hdv hll
  by_cases hbad : ¬ (uk = 16 ∧ ud.length = 22)
  · have hnot : ¬ headU uk ud := fun h => hbad ⟨h.1, h.2.1⟩
    have Hnot := Lib.hid hnot
    have hways : (uk != 16) = true ∨ ((uk != 16) = false ∧ ((ud.length : Int) != 22) = true) := by
      by_cases h : uk = 16
      · right; refine ⟨by simp [h], ?_⟩
        have : ¬ ud.length = 22 := fun h2 => hbad ⟨h, h2⟩
        rw [bne_iff_ne]; omega
      · left; rw [bne_iff_ne]; exact h
    clear hbad hnot hat hcl
    have HR : Hid (((w.alloc (.cells #[.int .i64 uk, .slice da ud.length dcap, .int .i64 ua, .int .i64 ue] 106)).alloc zInfo).heap[w.heap.size + 1]? = some zInfo) := Lib.hid (heap_alloc_new' (by simp))
    have HO := Lib.hid ((Only.new w (.cells #[.int .i64 uk, .slice da ud.length dcap, .int .i64 ua, .int .i64 ue] 106)).q (Only.new _ zInfo))
    rcases hways with h1 | ⟨h1, h2⟩
    all_goals
      go_enter Tryz.func41, Tryz.ntmps41
      go_wp2_with fail
      obtain ⟨⟨t0, t1, t2, t3, t4, t5⟩, ⟨t6, t7, t8, t9, t10, t11⟩⟩ := cells12 HR.out
      refine bodyPost_ret (v := .tuple #[infoV 0 0 0 cfg0 (.slice none 0 0), .int .i64 0, .bool false]) (by simp [results, Tryz.results41, go_sem, t0, t1, t2, t3, t4, t5, t6, t7, t8, t9, t10, t11, infoV, cfg0]) rfl (HPost.out _ _ ?_)
      exact ⟨HO.out, .inr ⟨Hnot.out, 0, 0, 0, cfg0, 0, rfl⟩⟩
  · have hboth := Decidable.not_not.1 hbad
    obtain ⟨rfl, hul⟩ := hboth
    have HU : Hid (headU 16 ud ↔ headOk (headD ud)) := Lib.hid ⟨fun h => h.2.2, fun h => ⟨rfl, hul, h⟩⟩
    have hcap := hdc
    rw [hul] at hcap
    obtain ⟨db, doff, rfl, hdb1, hdb2⟩ := hat 0 (by omega)
    have hcl := hcl db doff rfl
    have Hul := Lib.hid hul
    have hcm : (dcap : Int) ≤ 9223372036854775807 := by unfold maxLen at hdm; omega
    clear hat hbad hdc hdm
    have hrng : ∀ i, i < 22 → (0 ≤ ud.getD i 0 ∧ ud.getD i 0 ≤ 255) := fun i hi => ints_range Hdr.out (by rw [Hul.out]; exact hi)
    have hx0 := hrng 0 (by omega)
    have hx1 := hrng 1 (by omega)
    have hx2 := hrng 2 (by omega)
    have hx3 := hrng 3 (by omega)
    have hx4 := hrng 4 (by omega)
    have hx5 := hrng 5 (by omega)
    have hx6 := hrng 6 (by omega)
    have hx7 := hrng 7 (by omega)
    have HD : Hid (headD ud = ⟨8 * ud.getD 0 0, 8 * ud.getD 1 0, ud.getD 2 0, ⟨ud.getD 4 0, ud.getD 5 0, ud.getD 6 0, getB ((ud.take 10).drop 8), ud.getD 7 0, getB ((ud.take 14).drop 10), getB ((ud.take 18).drop 14), getB ((ud.take 22).drop 18)⟩, ud.getD 3 0⟩) := Lib.hid rfl
    have HC : ∀ (W : World), Only [] w W → Hid (W.cell? ⟨db, doff, none⟩ = some (.int .u8 (ud.getD 0 0)) ∧ W.cell? ⟨db, doff + 1, none⟩ = some (.int .u8 (ud.getD 1 0)) ∧ W.cell? ⟨db, doff + 2, none⟩ = some (.int .u8 (ud.getD 2 0)) ∧ W.cell? ⟨db, doff + 3, none⟩ = some (.int .u8 (ud.getD 3 0)) ∧ W.cell? ⟨db, doff + 4, none⟩ = some (.int .u8 (ud.getD 4 0)) ∧ W.cell? ⟨db, doff + 5, none⟩ = some (.int .u8 (ud.getD 5 0)) ∧ W.cell? ⟨db, doff + 6, none⟩ = some (.int .u8 (ud.getD 6 0)) ∧ W.cell? ⟨db, doff + 7, none⟩ = some (.int .u8 (ud.getD 7 0))) := fun W o =>
      have h := fun i (hi : i < ud.length) => o.cell (hcl i hi) (by simp)
      Lib.hid ⟨h 0 (by have := Hul.out; omega), h 1 (by have := Hul.out; omega), h 2 (by have := Hul.out; omega), h 3 (by have := Hul.out; omega), h 4 (by have := Hul.out; omega), h 5 (by have := Hul.out; omega), h 6 (by have := Hul.out; omega), h 7 (by have := Hul.out; omega)⟩
    have HCC := Lib.hid HC
    rw [hul] at Hdv
    have hsubs : ∀ (W : World), Only [] w W → Ints .u8 lo hi W (.slice (some ⟨db, doff, none⟩) ud.length dcap) ud := fun W o => by rw [hul]; exact Hdv.out.quiet o
    have Hsub := Lib.hid hsubs
    clear HC hrng hcl hsubs
    generalize ud.getD 0 0 = x0 at *
    generalize ud.getD 1 0 = x1 at *
    generalize ud.getD 2 0 = x2 at *
    generalize ud.getD 3 0 = x3 at *
    generalize ud.getD 4 0 = x4 at *
    generalize ud.getD 5 0 = x5 at *
    generalize ud.getD 6 0 = x6 at *
    generalize ud.getD 7 0 = x7 at *
    have hw0 : IntKind.i64.wrap x0 = x0 := wraps_i64 _ hx0.1 (by omega)
    have hw1 : IntKind.i64.wrap x1 = x1 := wraps_i64 _ hx1.1 (by omega)
    have hw2 : IntKind.i64.wrap x2 = x2 := wraps_i64 _ hx2.1 (by omega)
    have hw3 : IntKind.i64.wrap x3 = x3 := wraps_i64 _ hx3.1 (by omega)
    have hw4 : IntKind.i64.wrap x4 = x4 := wraps_i64 _ hx4.1 (by omega)
    have hw5 : IntKind.i64.wrap x5 = x5 := wraps_i64 _ hx5.1 (by omega)
    have hw6 : IntKind.i64.wrap x6 = x6 := wraps_i64 _ hx6.1 (by omega)
    have hw7 : IntKind.i64.wrap x7 = x7 := wraps_i64 _ hx7.1 (by omega)
    have hm0 : IntKind.i64.wrap (8 * x0) = 8 * x0 := wraps_i64 _ (by omega) (by omega)
    have hm1 : IntKind.i64.wrap (8 * x1) = 8 * x1 := wraps_i64 _ (by omega) (by omega)
    rw [hul]
    clear hul hlI
    go_enter Tryz.func41, Tryz.ntmps41
    go_wp2_with fail
    generalize hW3 : World.alloc _ _ = W3
    have hqU : Only [] w W3 := by rw [← hW3]; exact (Only.new _ _).q (Only.new _ _)
    have rI : W3.heap[w.heap.size + 1]? = some zInfo := by rw [← hW3]; exact heap_alloc_new' (by simp)
    obtain ⟨c0, c1, c2, c3, c4, c5, c6, c7⟩ := (HCC.out W3 hqU).out
    have hdvU := Hsub.out W3 hqU
    have s1 := hdvU.sub (i := 8) (j := 10) (by omega) (by rw [Hul.out]; omega) (dcap - 8) (by omega) (by omega)
    have s2 := hdvU.sub (i := 10) (j := 14) (by omega) (by rw [Hul.out]; omega) (dcap - 10) (by omega) (by omega)
    have s3 := hdvU.sub (i := 14) (j := 18) (by omega) (by rw [Hul.out]; omega) (dcap - 14) (by omega) (by omega)
    have s4 := hdvU.sub (i := 18) (j := 22) (by omega) (by rw [Hul.out]; omega) (dcap - 18) (by omega) (by omega)
    have Hs1 := Lib.hid s1
    have Hs2 := Lib.hid s2
    have Hs3 := Lib.hid s3
    have Hs4 := Lib.hid s4
    have RI := Lib.hid rI
    have HqU := Lib.hid hqU
    have Hl1 : Hid (((ud.take 10).drop 8).length ≤ 6) := Lib.hid (by rw [List.length_drop, List.length_take]; omega)
    have Hl2 : Hid (((ud.take 14).drop 10).length ≤ 6) := Lib.hid (by rw [List.length_drop, List.length_take]; omega)
    have Hl3 : Hid (((ud.take 18).drop 14).length ≤ 6) := Lib.hid (by rw [List.length_drop, List.length_take]; omega)
    have Hl4 : Hid (((ud.take 22).drop 18).length ≤ 6) := Lib.hid (by rw [List.length_drop, List.length_take]; omega)
    have hy1 : ¬ dcap = 8 := by omega
    have hy2 : ¬ dcap = 10 := by omega
    have hy3 : ¬ dcap = 14 := by omega
    have hy4 : ¬ dcap = 18 := by omega
    have hk1 : (10 : Int) ≤ (dcap : Int) := by omega
    have hk2 : (14 : Int) ≤ (dcap : Int) := by omega
    have hk3 : (18 : Int) ≤ (dcap : Int) := by omega
    have hk4 : (22 : Int) ≤ (dcap : Int) := by omega
    have hkn1 : 10 ≤ dcap := by omega
    have hkn2 : 14 ≤ dcap := by omega
    have hkn3 : 18 ≤ dcap := by omega
    have hkn4 : 22 ≤ dcap := by omega
    clear hW3 hqU rI hdvU s1 s2 s3 s4 HCC Hsub
    generalize hg1 : getB ((ud.take 10).drop 8) = g1 at *
    generalize hg2 : getB ((ud.take 14).drop 10) = g2 at *
    generalize hg3 : getB ((ud.take 18).drop 14) = g3 at *
    generalize hg4 : getB ((ud.take 22).drop 18) = g4 at *
    have Hg1 := Lib.hid hg1
    have Hg2 := Lib.hid hg2
    have Hg3 := Lib.hid hg3
    have Hg4 := Lib.hid hg4
    clear hg1 hg2 hg3 hg4
    go_cut [6] from 20 to 48 (fun s6 wx => s6 = .pointer (some ⟨W3.heap.size, 0, none⟩) ∧ wx = (W3.alloc (.cells #[.int .i64 x4, .int .i64 x5, .int .i64 x6, .int .i64 g1, .int .i64 x7, .int .i64 g2, .int .i64 g3, .int .i64 g4] 26)).drew)
    case first =>
      -- <S
      go_region_held3 (fun w' => w'.cell? ⟨db, doff + 4, none⟩ = some (.int .u8 x4) ∧ w'.cell? ⟨db, doff + 5, none⟩ = some (.int .u8 x5) ∧ w'.cell? ⟨db, doff + 6, none⟩ = some (.int .u8 x6) ∧ w'.cell? ⟨db, doff + 7, none⟩ = some (.int .u8 x7))
        (first | (simp [*, World.cell?_alloc_some, World.cell?_setCell_far, frozen?_alloc_cells, frozen_drew, World.frozen?_setCell]) | fail)
        (first
          | (go_at_call 66; refine (value_any (Hs1.out.quiet (by first | exact (Only.refl [] _).drew | exact (Only.new _ _).drew)) Hl1.out).mono ?_; rintro e w' ⟨rfl, rfl⟩; rw [Hg1.out]; clear Hs1)
          | (go_at_call 66; refine (value_any (Hs2.out.quiet (by first | exact (Only.refl [] _).drew | exact (Only.new _ _).drew)) Hl2.out).mono ?_; rintro e w' ⟨rfl, rfl⟩; rw [Hg2.out]; clear Hs2)
          | (go_at_call 66; refine (value_any (Hs3.out.quiet (by first | exact (Only.refl [] _).drew | exact (Only.new _ _).drew)) Hl3.out).mono ?_; rintro e w' ⟨rfl, rfl⟩; rw [Hg3.out]; clear Hs3)
          | (go_at_call 66; refine (value_any (Hs4.out.quiet (by first | exact (Only.refl [] _).drew | exact (Only.new _ _).drew)) Hl4.out).mono ?_; rintro e w' ⟨rfl, rfl⟩; rw [Hg4.out]; clear Hs4)
          | fail)
      all_goals (go_wp2_with fail; go_meet; exact ⟨rfl, rfl⟩)
      -- S>
    case rest =>
      obtain ⟨rfl, rfl⟩ := hcut
      generalize hW4 : World.drew _ = W4
      have hqC : Only [] W3 W4 := by rw [← hW4]; exact (Only.new _ _).drew
      have rC : W4.heap[W3.heap.size]? = some (.cells #[.int .i64 x4, .int .i64 x5, .int .i64 x6, .int .i64 g1, .int .i64 x7, .int .i64 g2, .int .i64 g3, .int .i64 g4] 26 (0, 0)) := by rw [← hW4]; exact heap_alloc_new' rfl
      have e0 : W4.cell? ⟨W3.heap.size, 0, none⟩ = some (.int .i64 x4) := by rw [cell_of_row _ _ _ _ _ _ rC]; rfl
      have e1 : W4.cell? ⟨W3.heap.size, 1, none⟩ = some (.int .i64 x5) := by rw [cell_of_row _ _ _ _ _ _ rC]; rfl
      have e2 : W4.cell? ⟨W3.heap.size, 2, none⟩ = some (.int .i64 x6) := by rw [cell_of_row _ _ _ _ _ _ rC]; rfl
      have e3 : W4.cell? ⟨W3.heap.size, 3, none⟩ = some (.int .i64 g1) := by rw [cell_of_row _ _ _ _ _ _ rC]; rfl
      have e4 : W4.cell? ⟨W3.heap.size, 4, none⟩ = some (.int .i64 x7) := by rw [cell_of_row _ _ _ _ _ _ rC]; rfl
      have e5 : W4.cell? ⟨W3.heap.size, 5, none⟩ = some (.int .i64 g2) := by rw [cell_of_row _ _ _ _ _ _ rC]; rfl
      have e6 : W4.cell? ⟨W3.heap.size, 6, none⟩ = some (.int .i64 g3) := by rw [cell_of_row _ _ _ _ _ _ rC]; rfl
      have e7 : W4.cell? ⟨W3.heap.size, 7, none⟩ = some (.int .i64 g4) := by rw [cell_of_row _ _ _ _ _ _ rC]; rfl
      have d0 := hqC.cell c0 (by simp)
      have d1 := hqC.cell c1 (by simp)
      have d2 := hqC.cell c2 (by simp)
      have d3 := hqC.cell c3 (by simp)
      have HqC := Lib.hid hqC
      have RC := Lib.hid rC
      clear hqC rC hW4 c0 c1 c2 c3 c4 c5 c6 c7 hy1 hy2 hy3 hy4 hk1 hk2 hk3 hk4 Hs1 Hs2 Hs3 Hs4
      go_wp2_with fail
      go_region_held3 (fun w' => (w'.cell? ⟨db, doff, none⟩ = some (.int .u8 x0) ∧ w'.cell? ⟨db, doff + 1, none⟩ = some (.int .u8 x1) ∧ w'.cell? ⟨db, doff + 2, none⟩ = some (.int .u8 x2)) ∧ (w'.cell? ⟨W3.heap.size, 0, none⟩ = some (.int .i64 x4) ∧ w'.cell? ⟨W3.heap.size, 1, none⟩ = some (.int .i64 x5) ∧ w'.cell? ⟨W3.heap.size, 2, none⟩ = some (.int .i64 x6) ∧ w'.cell? ⟨W3.heap.size, 3, none⟩ = some (.int .i64 g1) ∧ w'.cell? ⟨W3.heap.size, 4, none⟩ = some (.int .i64 x7) ∧ w'.cell? ⟨W3.heap.size, 5, none⟩ = some (.int .i64 g2) ∧ w'.cell? ⟨W3.heap.size, 6, none⟩ = some (.int .i64 g3) ∧ w'.cell? ⟨W3.heap.size, 7, none⟩ = some (.int .i64 g4)))
        (first | (simp [*, World.cell?_alloc_some, World.cell?_setCell_far, frozen?_alloc_cells, frozen_drew, World.frozen?_setCell]) | fail)
        (fail)
      generalize hW5 : World.drew _ = W5
      have hqI : Only [] W4 W5 := by rw [← hW5]; exact (Only.new _ _).drew
      have rN : W5.heap[W4.heap.size]? = some (.cells #[.int .i64 (8 * x0), .int .i64 (8 * x1), .int .i64 x2, .int .i64 x4, .int .i64 x5, .int .i64 x6, .int .i64 g1, .int .i64 x7, .int .i64 g2, .int .i64 g3, .int .i64 g4, .slice none 0 0] 34 (0, 0)) := by rw [← hW5]; exact heap_alloc_new' rfl
      have RN5 := Lib.hid rN
      have RI5 := Lib.hid (hqI.rowAt (HqC.out.rowAt RI.out (by simp)) (by simp))
      have RC5 := Lib.hid (hqI.rowAt RC.out (by simp))
      have HO5 : Hid (Only [] w W5) := Lib.hid (HqU.out.q (HqC.out.q hqI))
      have d3 := hqI.cell d3 (by simp)
      clear hqI rN hW5 d0 d1 d2 e0 e1 e2 e3 e4 e5 e6 e7
      go_wp2_with fail
      have hz3 := HqU.out.size
      have hz4 := HqC.out.size
      have hzC : W3.heap.size < W4.heap.size := by have := (Array.getElem?_eq_some_iff.1 RC.out).1; exact this
      have hzI : w.heap.size + 1 < W3.heap.size := (Array.getElem?_eq_some_iff.1 RI.out).1
      obtain ⟨⟨i0, i1, i2, i3, i4, i5⟩, ⟨i6, i7, i8, i9, i10, i11⟩⟩ := cells12 RN5.out
      obtain ⟨⟨z0, z1, z2, z3, z4, z5⟩, ⟨z6, z7, z8, z9, z10, z11⟩⟩ := cells12 RI5.out
      obtain ⟨⟨k0, k1, k2, k3, k4, k5⟩, ⟨k6, k7, k8, k9, k10, k11⟩⟩ := frz12 RI5.out
      have rC5 := RC5.out
      have e0 : W5.cell? ⟨W3.heap.size, 0, none⟩ = some (.int .i64 x4) := by rw [cell_of_row _ _ _ _ _ _ rC5]; rfl
      have e1 : W5.cell? ⟨W3.heap.size, 1, none⟩ = some (.int .i64 x5) := by rw [cell_of_row _ _ _ _ _ _ rC5]; rfl
      have e2 : W5.cell? ⟨W3.heap.size, 2, none⟩ = some (.int .i64 x6) := by rw [cell_of_row _ _ _ _ _ _ rC5]; rfl
      have e3 : W5.cell? ⟨W3.heap.size, 3, none⟩ = some (.int .i64 g1) := by rw [cell_of_row _ _ _ _ _ _ rC5]; rfl
      have e4 : W5.cell? ⟨W3.heap.size, 4, none⟩ = some (.int .i64 x7) := by rw [cell_of_row _ _ _ _ _ _ rC5]; rfl
      have e5 : W5.cell? ⟨W3.heap.size, 5, none⟩ = some (.int .i64 g2) := by rw [cell_of_row _ _ _ _ _ _ rC5]; rfl
      have e6 : W5.cell? ⟨W3.heap.size, 6, none⟩ = some (.int .i64 g3) := by rw [cell_of_row _ _ _ _ _ _ rC5]; rfl
      have e7 : W5.cell? ⟨W3.heap.size, 7, none⟩ = some (.int .i64 g4) := by rw [cell_of_row _ _ _ _ _ _ rC5]; rfl
      clear rC5
      have hD := HD.out
      have hiff : headU 16 ud ↔ (sideB (8 * x0) = true ∧ sideB (8 * x1) = true ∧ 1 ≤ x2 ∧ x2 ≤ 16 ∧ 1 ≤ x3 ∧ x3 ≤ x2 ∧ mayB ⟨x4, x5, x6, g1, x7, g2, g3, g4⟩ = true) := by
        rw [HU.out, hD]
        unfold headOk newB
        simp only [show sampleB 0 = true from rfl, Bool.and_true, Bool.and_eq_true, and_assoc]
      have HIff := Lib.hid hiff
      have hways : sideB (8 * x0) = false ∨ (sideB (8 * x0) = true ∧ (sideB (8 * x1) = false ∨ (sideB (8 * x1) = true ∧ (x2 < 1 ∨ (1 ≤ x2 ∧ (16 < x2 ∨ (x2 ≤ 16 ∧ (x3 < 1 ∨ (1 ≤ x3 ∧ (x2 < x3 ∨ (x3 ≤ x2 ∧ (mayB ⟨x4, x5, x6, g1, x7, g2, g3, g4⟩ = false ∨ mayB ⟨x4, x5, x6, g1, x7, g2, g3, g4⟩ = true)))))))))))) := by
        cases sideB (8 * x0) <;> cases sideB (8 * x1) <;> cases mayB ⟨x4, x5, x6, g1, x7, g2, g3, g4⟩ <;> simp <;> omega
      clear hD hiff
      have hbA : (w.heap.size + 1 = W4.heap.size) = False := eq_false (by omega)
      have hbB : (w.heap.size + 1 = W3.heap.size) = False := eq_false (by omega)
      rcases hways with hsW | ⟨hsW, hsH | ⟨hsH, hF | ⟨hF, hG | ⟨hG, hN | ⟨hN, hM | ⟨hM, hmay | hmay⟩⟩⟩⟩⟩⟩
      · -- W0
        -- <S
        refine wp_region_held_drew (S := (fun w' => (w'.cell? ⟨W4.heap.size, 0, none⟩ = some (.int .i64 (8 * x0)) ∧ w'.cell? ⟨W4.heap.size, 1, none⟩ = some (.int .i64 (8 * x1)) ∧ w'.cell? ⟨W4.heap.size, 2, none⟩ = some (.int .i64 x2) ∧ w'.cell? ⟨W4.heap.size, 3, none⟩ = some (.int .i64 x4) ∧ w'.cell? ⟨W4.heap.size, 4, none⟩ = some (.int .i64 x5) ∧ w'.cell? ⟨W4.heap.size, 5, none⟩ = some (.int .i64 x6) ∧ w'.cell? ⟨W4.heap.size, 6, none⟩ = some (.int .i64 g1) ∧ w'.cell? ⟨W4.heap.size, 7, none⟩ = some (.int .i64 x7) ∧ w'.cell? ⟨W4.heap.size, 8, none⟩ = some (.int .i64 g2) ∧ w'.cell? ⟨W4.heap.size, 9, none⟩ = some (.int .i64 g3) ∧ w'.cell? ⟨W4.heap.size, 10, none⟩ = some (.int .i64 g4) ∧ w'.cell? ⟨W4.heap.size, 11, none⟩ = some (.slice none 0 0)) ∧ (w'.cell? ⟨W3.heap.size, 0, none⟩ = some (.int .i64 x4) ∧ w'.cell? ⟨W3.heap.size, 1, none⟩ = some (.int .i64 x5) ∧ w'.cell? ⟨W3.heap.size, 2, none⟩ = some (.int .i64 x6) ∧ w'.cell? ⟨W3.heap.size, 3, none⟩ = some (.int .i64 g1) ∧ w'.cell? ⟨W3.heap.size, 4, none⟩ = some (.int .i64 x7) ∧ w'.cell? ⟨W3.heap.size, 5, none⟩ = some (.int .i64 g2) ∧ w'.cell? ⟨W3.heap.size, 6, none⟩ = some (.int .i64 g3) ∧ w'.cell? ⟨W3.heap.size, 7, none⟩ = some (.int .i64 g4)))) (by kernel_rfl) ?_ (fun hHeld => ?_)
        · first | (simp [*, World.cell?_alloc_some, World.cell?_setCell_far, frozen?_alloc_cells, frozen_drew, World.frozen?_setCell]) | fail
        refine wpAnyH_take (i := 0) (oi := ⟨some 69, _, _, _, _, _⟩) (v := ?_) rfl (by kernel_rfl) (by kernel_rfl) (by kernel_rfl) (fun _ _ _ h => h) (Or.inl ⟨by rfl, ?_⟩) (by assumption) ?_
        rotate_left
        · (intro w hSw; (try dsimp only at hSw); go_simp; try with_reducible rfl)
        try simp only [Act.put, List.setIfInBounds_toArray, List.set_cons_zero, List.set_cons_succ]
        refine wpAnyH_take (i := 1) (oi := ⟨some 70, _, _, _, _, _⟩) (v := ?_) rfl (by kernel_rfl) (by kernel_rfl) (by kernel_rfl) (fun _ _ _ h => h) (Or.inl ⟨by rfl, ?_⟩) (by assumption) ?_
        rotate_left
        · (intro w hSw; (try dsimp only at hSw); go_simp; try with_reducible rfl)
        try simp only [Act.put, List.setIfInBounds_toArray, List.set_cons_zero, List.set_cons_succ]
        refine wpAnyH_take (i := 2) (oi := ⟨some 71, _, _, _, _, _⟩) (v := ?_) rfl (by kernel_rfl) (by kernel_rfl) (by kernel_rfl) (fun _ _ _ h => h) (Or.inl ⟨by rfl, ?_⟩) (by assumption) ?_
        rotate_left
        · (intro w hSw; (try dsimp only at hSw); go_simp; try with_reducible rfl)
        try simp only [Act.put, List.setIfInBounds_toArray, List.set_cons_zero, List.set_cons_succ]
        refine wpAnyH_take (i := 3) (oi := ⟨some 72, _, _, _, _, _⟩) (v := ?_) rfl (by kernel_rfl) (by kernel_rfl) (by kernel_rfl) (fun _ _ _ h => h) (Or.inl ⟨by rfl, ?_⟩) (by assumption) ?_
        rotate_left
        · (intro w hSw; (try dsimp only at hSw); go_simp; try with_reducible rfl)
        try simp only [Act.put, List.setIfInBounds_toArray, List.set_cons_zero, List.set_cons_succ]
        refine wpAnyH_ready (rs := [4]) (by kernel_rfl) (by simp) (AllReadyH.cons (o := ⟨some 73, _, _, _, _, _⟩) rfl (fun K hK => ?_) AllReadyH.nil)
        go_simp
        (go_at_call 67; refine (kside_any _ _).mono ?_; rintro e w' ⟨rfl, rfl⟩; rw [hsW])
        refine hK.out _ _ ?_ (fun hHeld => ?_)
        · (try dsimp only); assumption
        clear hK K
        try simp only [Act.put, List.setIfInBounds_toArray, List.set_cons_zero, List.set_cons_succ]
        refine wpAnyH_take (i := 5) (oi := ⟨some 74, _, _, _, _, _⟩) (v := ?_) rfl (by kernel_rfl) (by kernel_rfl) (by kernel_rfl) (fun _ _ _ h => h) (Or.inl ⟨by rfl, ?_⟩) (by assumption) ?_
        rotate_left
        · (intro w hSw; (try dsimp only at hSw); go_simp; try with_reducible rfl)
        try simp only [Act.put, List.setIfInBounds_toArray, List.set_cons_zero, List.set_cons_succ]
        refine wpAnyH_take (i := 6) (oi := ⟨some 75, _, _, _, _, _⟩) (v := undef) rfl (by kernel_rfl) (by kernel_rfl) (by kernel_rfl) (fun _ _ _ h => h) (Or.inr ⟨by rfl, rfl⟩) (by assumption) ?_
        try simp only [Act.put, List.setIfInBounds_toArray, List.set_cons_zero, List.set_cons_succ]
        refine wpAnyH_take (i := 7) (oi := ⟨some 76, _, _, _, _, _⟩) (v := undef) rfl (by kernel_rfl) (by kernel_rfl) (by kernel_rfl) (fun _ _ _ h => h) (Or.inr ⟨by rfl, rfl⟩) (by assumption) ?_
        try simp only [Act.put, List.setIfInBounds_toArray, List.set_cons_zero, List.set_cons_succ]
        refine wpAnyH_take (i := 8) (oi := ⟨some 77, _, _, _, _, _⟩) (v := undef) rfl (by kernel_rfl) (by kernel_rfl) (by kernel_rfl) (fun _ _ _ h => h) (Or.inr ⟨by rfl, rfl⟩) (by assumption) ?_
        try simp only [Act.put, List.setIfInBounds_toArray, List.set_cons_zero, List.set_cons_succ]
        refine wpAnyH_take (i := 9) (oi := ⟨some 78, _, _, _, _, _⟩) (v := ?_) rfl (by kernel_rfl) (by kernel_rfl) (by kernel_rfl) (fun _ _ _ h => h) (Or.inl ⟨by rfl, ?_⟩) (by assumption) ?_
        rotate_left
        · (intro w hSw; (try dsimp only at hSw); go_simp; try with_reducible rfl)
        try simp only [Act.put, List.setIfInBounds_toArray, List.set_cons_zero, List.set_cons_succ]
        refine wpAnyH_take (i := 10) (oi := ⟨some 79, _, _, _, _, _⟩) (v := ?_) rfl (by kernel_rfl) (by kernel_rfl) (by kernel_rfl) (fun _ _ _ h => h) (Or.inl ⟨by rfl, ?_⟩) (by assumption) ?_
        rotate_left
        · (intro w hSw; (try dsimp only at hSw); go_simp; try with_reducible rfl)
        try simp only [Act.put, List.setIfInBounds_toArray, List.set_cons_zero, List.set_cons_succ]
        refine wpAnyH_take (i := 11) (oi := ⟨some 80, _, _, _, _, _⟩) (v := undef) rfl (by kernel_rfl) (by kernel_rfl) (by kernel_rfl) (fun _ _ _ h => h) (Or.inr ⟨by rfl, rfl⟩) (by assumption) ?_
        try simp only [Act.put, List.setIfInBounds_toArray, List.set_cons_zero, List.set_cons_succ]
        refine wpAnyH_take (i := 12) (oi := ⟨some 81, _, _, _, _, _⟩) (v := undef) rfl (by kernel_rfl) (by kernel_rfl) (by kernel_rfl) (fun _ _ _ h => h) (Or.inr ⟨by rfl, rfl⟩) (by assumption) ?_
        try simp only [Act.put, List.setIfInBounds_toArray, List.set_cons_zero, List.set_cons_succ]
        refine wpAnyH_take (i := 13) (oi := ⟨some 82, _, _, _, _, _⟩) (v := undef) rfl (by kernel_rfl) (by kernel_rfl) (by kernel_rfl) (fun _ _ _ h => h) (Or.inr ⟨by rfl, rfl⟩) (by assumption) ?_
        try simp only [Act.put, List.setIfInBounds_toArray, List.set_cons_zero, List.set_cons_succ]
        refine wpAnyH_take (i := 14) (oi := ⟨some 83, _, _, _, _, _⟩) (v := ?_) rfl (by kernel_rfl) (by kernel_rfl) (by kernel_rfl) (fun _ _ _ h => h) (Or.inl ⟨by rfl, ?_⟩) (by assumption) ?_
        rotate_left
        · (intro w hSw; (try dsimp only at hSw); go_simp; try with_reducible rfl)
        try simp only [Act.put, List.setIfInBounds_toArray, List.set_cons_zero, List.set_cons_succ]
        refine wpAnyH_take (i := 15) (oi := ⟨some 84, _, _, _, _, _⟩) (v := ?_) rfl (by kernel_rfl) (by kernel_rfl) (by kernel_rfl) (fun _ _ _ h => h) (Or.inl ⟨by rfl, ?_⟩) (by assumption) ?_
        rotate_left
        · (intro w hSw; (try dsimp only at hSw); go_simp; try with_reducible rfl)
        try simp only [Act.put, List.setIfInBounds_toArray, List.set_cons_zero, List.set_cons_succ]
        refine wpAnyH_take (i := 16) (oi := ⟨some 85, _, _, _, _, _⟩) (v := undef) rfl (by kernel_rfl) (by kernel_rfl) (by kernel_rfl) (fun _ _ _ h => h) (Or.inr ⟨by rfl, rfl⟩) (by assumption) ?_
        try simp only [Act.put, List.setIfInBounds_toArray, List.set_cons_zero, List.set_cons_succ]
        refine wpAnyH_take (i := 17) (oi := ⟨some 86, _, _, _, _, _⟩) (v := undef) rfl (by kernel_rfl) (by kernel_rfl) (by kernel_rfl) (fun _ _ _ h => h) (Or.inr ⟨by rfl, rfl⟩) (by assumption) ?_
        try simp only [Act.put, List.setIfInBounds_toArray, List.set_cons_zero, List.set_cons_succ]
        refine wpAnyH_take (i := 18) (oi := ⟨some 87, _, _, _, _, _⟩) (v := undef) rfl (by kernel_rfl) (by kernel_rfl) (by kernel_rfl) (fun _ _ _ h => h) (Or.inr ⟨by rfl, rfl⟩) (by assumption) ?_
        try simp only [Act.put, List.setIfInBounds_toArray, List.set_cons_zero, List.set_cons_succ]
        refine wpAnyH_take (i := 19) (oi := ⟨some 88, _, _, _, _, _⟩) (v := ?_) rfl (by kernel_rfl) (by kernel_rfl) (by kernel_rfl) (fun _ _ _ h => h) (Or.inl ⟨by rfl, ?_⟩) (by assumption) ?_
        rotate_left
        · (intro w hSw; (try dsimp only at hSw); go_simp; try with_reducible rfl)
        try simp only [Act.put, List.setIfInBounds_toArray, List.set_cons_zero, List.set_cons_succ]
        refine wpAnyH_take (i := 20) (oi := ⟨some 89, _, _, _, _, _⟩) (v := ?_) rfl (by kernel_rfl) (by kernel_rfl) (by kernel_rfl) (fun _ _ _ h => h) (Or.inl ⟨by rfl, ?_⟩) (by assumption) ?_
        rotate_left
        · (intro w hSw; (try dsimp only at hSw); go_simp; try with_reducible rfl)
        try simp only [Act.put, List.setIfInBounds_toArray, List.set_cons_zero, List.set_cons_succ]
        refine wpAnyH_take (i := 21) (oi := ⟨some 90, _, _, _, _, _⟩) (v := undef) rfl (by kernel_rfl) (by kernel_rfl) (by kernel_rfl) (fun _ _ _ h => h) (Or.inr ⟨by rfl, rfl⟩) (by assumption) ?_
        try simp only [Act.put, List.setIfInBounds_toArray, List.set_cons_zero, List.set_cons_succ]
        refine wpAnyH_take (i := 22) (oi := ⟨some 91, _, _, _, _, _⟩) (v := undef) rfl (by kernel_rfl) (by kernel_rfl) (by kernel_rfl) (fun _ _ _ h => h) (Or.inr ⟨by rfl, rfl⟩) (by assumption) ?_
        try simp only [Act.put, List.setIfInBounds_toArray, List.set_cons_zero, List.set_cons_succ]
        refine wpAnyH_take (i := 23) (oi := ⟨some 92, _, _, _, _, _⟩) (v := ?_) rfl (by kernel_rfl) (by kernel_rfl) (by kernel_rfl) (fun _ _ _ h => h) (Or.inl ⟨by rfl, ?_⟩) (by assumption) ?_
        rotate_left
        · (intro w hSw; (try dsimp only at hSw); go_simp; try with_reducible rfl)
        try simp only [Act.put, List.setIfInBounds_toArray, List.set_cons_zero, List.set_cons_succ]
        refine wpAnyH_take (i := 24) (oi := ⟨some 93, _, _, _, _, _⟩) (v := ?_) rfl (by kernel_rfl) (by kernel_rfl) (by kernel_rfl) (fun _ _ _ h => h) (Or.inl ⟨by rfl, ?_⟩) (by assumption) ?_
        rotate_left
        · (intro w hSw; (try dsimp only at hSw); go_simp; try with_reducible rfl)
        try simp only [Act.put, List.setIfInBounds_toArray, List.set_cons_zero, List.set_cons_succ]
        refine wpAnyH_take (i := 25) (oi := ⟨some 94, _, _, _, _, _⟩) (v := undef) rfl (by kernel_rfl) (by kernel_rfl) (by kernel_rfl) (fun _ _ _ h => h) (Or.inr ⟨by rfl, rfl⟩) (by assumption) ?_
        try simp only [Act.put, List.setIfInBounds_toArray, List.set_cons_zero, List.set_cons_succ]
        refine wpAnyH_take (i := 26) (oi := ⟨some 95, _, _, _, _, _⟩) (v := undef) rfl (by kernel_rfl) (by kernel_rfl) (by kernel_rfl) (fun _ _ _ h => h) (Or.inr ⟨by rfl, rfl⟩) (by assumption) ?_
        try simp only [Act.put, List.setIfInBounds_toArray, List.set_cons_zero, List.set_cons_succ]
        refine wpAnyH_take (i := 27) (oi := ⟨some 96, _, _, _, _, _⟩) (v := undef) rfl (by kernel_rfl) (by kernel_rfl) (by kernel_rfl) (fun _ _ _ h => h) (Or.inr ⟨by rfl, rfl⟩) (by assumption) ?_
        try simp only [Act.put, List.setIfInBounds_toArray, List.set_cons_zero, List.set_cons_succ]
        refine wpAnyH_take (i := 28) (oi := ⟨some 97, _, _, _, _, _⟩) (v := undef) rfl (by kernel_rfl) (by kernel_rfl) (by kernel_rfl) (fun _ _ _ h => h) (Or.inr ⟨by rfl, rfl⟩) (by assumption) ?_
        try simp only [Act.put, List.setIfInBounds_toArray, List.set_cons_zero, List.set_cons_succ]
        refine wpAnyH_take (i := 29) (oi := ⟨some 98, _, _, _, _, _⟩) (v := ?_) rfl (by kernel_rfl) (by kernel_rfl) (by kernel_rfl) (fun _ _ _ h => h) (Or.inl ⟨by rfl, ?_⟩) (by assumption) ?_
        rotate_left
        · (intro w hSw; (try dsimp only at hSw); go_simp; try with_reducible rfl)
        try simp only [Act.put, List.setIfInBounds_toArray, List.set_cons_zero, List.set_cons_succ]
        refine wpAnyH_take (i := 30) (oi := ⟨some 99, _, _, _, _, _⟩) (v := ?_) rfl (by kernel_rfl) (by kernel_rfl) (by kernel_rfl) (fun _ _ _ h => h) (Or.inl ⟨by rfl, ?_⟩) (by assumption) ?_
        rotate_left
        · (intro w hSw; (try dsimp only at hSw); go_simp; try with_reducible rfl)
        try simp only [Act.put, List.setIfInBounds_toArray, List.set_cons_zero, List.set_cons_succ]
        refine wpAnyH_take (i := 31) (oi := ⟨some 100, _, _, _, _, _⟩) (v := undef) rfl (by kernel_rfl) (by kernel_rfl) (by kernel_rfl) (fun _ _ _ h => h) (Or.inr ⟨by rfl, rfl⟩) (by assumption) ?_
        try simp only [Act.put, List.setIfInBounds_toArray, List.set_cons_zero, List.set_cons_succ]
        refine wpAnyH_take (i := 32) (oi := ⟨some 101, _, _, _, _, _⟩) (v := undef) rfl (by kernel_rfl) (by kernel_rfl) (by kernel_rfl) (fun _ _ _ h => h) (Or.inr ⟨by rfl, rfl⟩) (by assumption) ?_
        try simp only [Act.put, List.setIfInBounds_toArray, List.set_cons_zero, List.set_cons_succ]
        refine wpAnyH_take (i := 33) (oi := ⟨some 102, _, _, _, _, _⟩) (v := ?_) rfl (by kernel_rfl) (by kernel_rfl) (by kernel_rfl) (fun _ _ _ h => h) (Or.inl ⟨by rfl, ?_⟩) (by assumption) ?_
        rotate_left
        · (intro w hSw; (try dsimp only at hSw); go_simp; try with_reducible rfl)
        try simp only [Act.put, List.setIfInBounds_toArray, List.set_cons_zero, List.set_cons_succ]
        refine wpAnyH_ready (rs := [34]) (by kernel_rfl) (by simp) (AllReadyH.cons (o := ⟨none, _, _, _, _, _⟩) rfl (fun K hK => ?_) AllReadyH.nil)
        go_simp
        refine hK.out _ _ ?_ (fun hHeld => ?_)
        · (try dsimp only); (simp only [World.drew_is_drewN, World.cell?_drewN, World.cell?_setCell_far, ne_eq, hbA, hbB, not_false_eq_true]; exact ⟨⟨i0, i1, i2, i3, i4, i5, i6, i7, i8, i9, i10, i11⟩, e0, e1, e2, e3, e4, e5, e6, e7⟩)
        clear hK K
        try simp only [Act.put, List.setIfInBounds_toArray, List.set_cons_zero, List.set_cons_succ]
        refine wpAnyH_take (i := 35) (oi := ⟨some 3, _, _, _, _, _⟩) (v := ?_) rfl (by kernel_rfl) (by kernel_rfl) (by kernel_rfl) (fun _ _ _ h => h) (Or.inl ⟨by rfl, ?_⟩) (by assumption) ?_
        rotate_left
        · (intro w hSw; (try dsimp only at hSw); go_simp; try with_reducible rfl)
        try simp only [Act.put, List.setIfInBounds_toArray, List.set_cons_zero, List.set_cons_succ]
        refine wpAnyH_take (i := 36) (oi := ⟨some 4, _, _, _, _, _⟩) (v := ?_) rfl (by kernel_rfl) (by kernel_rfl) (by kernel_rfl) (fun _ _ _ h => h) (Or.inl ⟨by rfl, ?_⟩) (by assumption) ?_
        rotate_left
        · (intro w hSw; (try dsimp only at hSw); go_simp; try with_reducible rfl)
        try simp only [Act.put, List.setIfInBounds_toArray, List.set_cons_zero, List.set_cons_succ]
        refine wpAnyH_done (by kernel_rfl) ?_ _
        go_wp2_with fail
        generalize hWf : World.setCell _ _ _ = Wf
        obtain ⟨hrow, hOf⟩ := end12' RI5.out hWf
        obtain ⟨⟨t0, t1, t2, t3, t4, t5⟩, ⟨t6, t7, t8, t9, t10, t11⟩⟩ := cells12 hrow
        refine bodyPost_ret (v := .tuple #[infoV (8 * x0) (8 * x1) x2 ⟨x4, x5, x6, g1, x7, g2, g3, g4⟩ (.slice none 0 0), .int .i64 x3, .bool false]) (by simp [results, Tryz.results41, go_sem, t0, t1, t2, t3, t4, t5, t6, t7, t8, t9, t10, t11, infoV]) rfl (HPost.out _ _ ?_)
        exact ⟨(HO5.out.tail1 hOf (by omega)).drew, .inr ⟨fun h => (fun h => by have := h.1; rw [hsW] at this; cases this) (HIff.out.1 h), 8 * x0, 8 * x1, x2, ⟨x4, x5, x6, g1, x7, g2, g3, g4⟩, x3, rfl⟩⟩
        -- S>
      · -- W1
        -- <S
        refine wp_region_held_drew (S := (fun w' => (w'.cell? ⟨W4.heap.size, 0, none⟩ = some (.int .i64 (8 * x0)) ∧ w'.cell? ⟨W4.heap.size, 1, none⟩ = some (.int .i64 (8 * x1)) ∧ w'.cell? ⟨W4.heap.size, 2, none⟩ = some (.int .i64 x2) ∧ w'.cell? ⟨W4.heap.size, 3, none⟩ = some (.int .i64 x4) ∧ w'.cell? ⟨W4.heap.size, 4, none⟩ = some (.int .i64 x5) ∧ w'.cell? ⟨W4.heap.size, 5, none⟩ = some (.int .i64 x6) ∧ w'.cell? ⟨W4.heap.size, 6, none⟩ = some (.int .i64 g1) ∧ w'.cell? ⟨W4.heap.size, 7, none⟩ = some (.int .i64 x7) ∧ w'.cell? ⟨W4.heap.size, 8, none⟩ = some (.int .i64 g2) ∧ w'.cell? ⟨W4.heap.size, 9, none⟩ = some (.int .i64 g3) ∧ w'.cell? ⟨W4.heap.size, 10, none⟩ = some (.int .i64 g4) ∧ w'.cell? ⟨W4.heap.size, 11, none⟩ = some (.slice none 0 0)) ∧ (w'.cell? ⟨W3.heap.size, 0, none⟩ = some (.int .i64 x4) ∧ w'.cell? ⟨W3.heap.size, 1, none⟩ = some (.int .i64 x5) ∧ w'.cell? ⟨W3.heap.size, 2, none⟩ = some (.int .i64 x6) ∧ w'.cell? ⟨W3.heap.size, 3, none⟩ = some (.int .i64 g1) ∧ w'.cell? ⟨W3.heap.size, 4, none⟩ = some (.int .i64 x7) ∧ w'.cell? ⟨W3.heap.size, 5, none⟩ = some (.int .i64 g2) ∧ w'.cell? ⟨W3.heap.size, 6, none⟩ = some (.int .i64 g3) ∧ w'.cell? ⟨W3.heap.size, 7, none⟩ = some (.int .i64 g4)))) (by kernel_rfl) ?_ (fun hHeld => ?_)
        · first | (simp [*, World.cell?_alloc_some, World.cell?_setCell_far, frozen?_alloc_cells, frozen_drew, World.frozen?_setCell]) | fail
        refine wpAnyH_take (i := 0) (oi := ⟨some 69, _, _, _, _, _⟩) (v := ?_) rfl (by kernel_rfl) (by kernel_rfl) (by kernel_rfl) (fun _ _ _ h => h) (Or.inl ⟨by rfl, ?_⟩) (by assumption) ?_
        rotate_left
        · (intro w hSw; (try dsimp only at hSw); go_simp; try with_reducible rfl)
        try simp only [Act.put, List.setIfInBounds_toArray, List.set_cons_zero, List.set_cons_succ]
        refine wpAnyH_take (i := 1) (oi := ⟨some 70, _, _, _, _, _⟩) (v := ?_) rfl (by kernel_rfl) (by kernel_rfl) (by kernel_rfl) (fun _ _ _ h => h) (Or.inl ⟨by rfl, ?_⟩) (by assumption) ?_
        rotate_left
        · (intro w hSw; (try dsimp only at hSw); go_simp; try with_reducible rfl)
        try simp only [Act.put, List.setIfInBounds_toArray, List.set_cons_zero, List.set_cons_succ]
        refine wpAnyH_take (i := 2) (oi := ⟨some 71, _, _, _, _, _⟩) (v := ?_) rfl (by kernel_rfl) (by kernel_rfl) (by kernel_rfl) (fun _ _ _ h => h) (Or.inl ⟨by rfl, ?_⟩) (by assumption) ?_
        rotate_left
        · (intro w hSw; (try dsimp only at hSw); go_simp; try with_reducible rfl)
        try simp only [Act.put, List.setIfInBounds_toArray, List.set_cons_zero, List.set_cons_succ]
        refine wpAnyH_take (i := 3) (oi := ⟨some 72, _, _, _, _, _⟩) (v := ?_) rfl (by kernel_rfl) (by kernel_rfl) (by kernel_rfl) (fun _ _ _ h => h) (Or.inl ⟨by rfl, ?_⟩) (by assumption) ?_
        rotate_left
        · (intro w hSw; (try dsimp only at hSw); go_simp; try with_reducible rfl)
        try simp only [Act.put, List.setIfInBounds_toArray, List.set_cons_zero, List.set_cons_succ]
        refine wpAnyH_ready (rs := [4]) (by kernel_rfl) (by simp) (AllReadyH.cons (o := ⟨some 73, _, _, _, _, _⟩) rfl (fun K hK => ?_) AllReadyH.nil)
        go_simp
        (go_at_call 67; refine (kside_any _ _).mono ?_; rintro e w' ⟨rfl, rfl⟩; rw [hsW])
        refine hK.out _ _ ?_ (fun hHeld => ?_)
        · (try dsimp only); assumption
        clear hK K
        try simp only [Act.put, List.setIfInBounds_toArray, List.set_cons_zero, List.set_cons_succ]
        refine wpAnyH_take (i := 5) (oi := ⟨some 74, _, _, _, _, _⟩) (v := ?_) rfl (by kernel_rfl) (by kernel_rfl) (by kernel_rfl) (fun _ _ _ h => h) (Or.inl ⟨by rfl, ?_⟩) (by assumption) ?_
        rotate_left
        · (intro w hSw; (try dsimp only at hSw); go_simp; try with_reducible rfl)
        try simp only [Act.put, List.setIfInBounds_toArray, List.set_cons_zero, List.set_cons_succ]
        refine wpAnyH_take (i := 6) (oi := ⟨some 75, _, _, _, _, _⟩) (v := ?_) rfl (by kernel_rfl) (by kernel_rfl) (by kernel_rfl) (fun _ _ _ h => h) (Or.inl ⟨by rfl, ?_⟩) (by assumption) ?_
        rotate_left
        · (intro w hSw; (try dsimp only at hSw); go_simp; try with_reducible rfl)
        try simp only [Act.put, List.setIfInBounds_toArray, List.set_cons_zero, List.set_cons_succ]
        refine wpAnyH_take (i := 7) (oi := ⟨some 76, _, _, _, _, _⟩) (v := ?_) rfl (by kernel_rfl) (by kernel_rfl) (by kernel_rfl) (fun _ _ _ h => h) (Or.inl ⟨by rfl, ?_⟩) (by assumption) ?_
        rotate_left
        · (intro w hSw; (try dsimp only at hSw); go_simp; try with_reducible rfl)
        try simp only [Act.put, List.setIfInBounds_toArray, List.set_cons_zero, List.set_cons_succ]
        refine wpAnyH_ready (rs := [8]) (by kernel_rfl) (by simp) (AllReadyH.cons (o := ⟨some 77, _, _, _, _, _⟩) rfl (fun K hK => ?_) AllReadyH.nil)
        go_simp
        (go_at_call 67; refine (kside_any _ _).mono ?_; rintro e w' ⟨rfl, rfl⟩; rw [hsH])
        refine hK.out _ _ ?_ (fun hHeld => ?_)
        · (try dsimp only); assumption
        clear hK K
        try simp only [Act.put, List.setIfInBounds_toArray, List.set_cons_zero, List.set_cons_succ]
        refine wpAnyH_take (i := 9) (oi := ⟨some 78, _, _, _, _, _⟩) (v := ?_) rfl (by kernel_rfl) (by kernel_rfl) (by kernel_rfl) (fun _ _ _ h => h) (Or.inl ⟨by rfl, ?_⟩) (by assumption) ?_
        rotate_left
        · (intro w hSw; (try dsimp only at hSw); go_simp; try with_reducible rfl)
        try simp only [Act.put, List.setIfInBounds_toArray, List.set_cons_zero, List.set_cons_succ]
        refine wpAnyH_take (i := 10) (oi := ⟨some 79, _, _, _, _, _⟩) (v := ?_) rfl (by kernel_rfl) (by kernel_rfl) (by kernel_rfl) (fun _ _ _ h => h) (Or.inl ⟨by rfl, ?_⟩) (by assumption) ?_
        rotate_left
        · (intro w hSw; (try dsimp only at hSw); go_simp; try with_reducible rfl)
        try simp only [Act.put, List.setIfInBounds_toArray, List.set_cons_zero, List.set_cons_succ]
        refine wpAnyH_take (i := 11) (oi := ⟨some 80, _, _, _, _, _⟩) (v := undef) rfl (by kernel_rfl) (by kernel_rfl) (by kernel_rfl) (fun _ _ _ h => h) (Or.inr ⟨by rfl, rfl⟩) (by assumption) ?_
        try simp only [Act.put, List.setIfInBounds_toArray, List.set_cons_zero, List.set_cons_succ]
        refine wpAnyH_take (i := 12) (oi := ⟨some 81, _, _, _, _, _⟩) (v := undef) rfl (by kernel_rfl) (by kernel_rfl) (by kernel_rfl) (fun _ _ _ h => h) (Or.inr ⟨by rfl, rfl⟩) (by assumption) ?_
        try simp only [Act.put, List.setIfInBounds_toArray, List.set_cons_zero, List.set_cons_succ]
        refine wpAnyH_take (i := 13) (oi := ⟨some 82, _, _, _, _, _⟩) (v := undef) rfl (by kernel_rfl) (by kernel_rfl) (by kernel_rfl) (fun _ _ _ h => h) (Or.inr ⟨by rfl, rfl⟩) (by assumption) ?_
        try simp only [Act.put, List.setIfInBounds_toArray, List.set_cons_zero, List.set_cons_succ]
        refine wpAnyH_take (i := 14) (oi := ⟨some 83, _, _, _, _, _⟩) (v := ?_) rfl (by kernel_rfl) (by kernel_rfl) (by kernel_rfl) (fun _ _ _ h => h) (Or.inl ⟨by rfl, ?_⟩) (by assumption) ?_
        rotate_left
        · (intro w hSw; (try dsimp only at hSw); go_simp; try with_reducible rfl)
        try simp only [Act.put, List.setIfInBounds_toArray, List.set_cons_zero, List.set_cons_succ]
        refine wpAnyH_take (i := 15) (oi := ⟨some 84, _, _, _, _, _⟩) (v := ?_) rfl (by kernel_rfl) (by kernel_rfl) (by kernel_rfl) (fun _ _ _ h => h) (Or.inl ⟨by rfl, ?_⟩) (by assumption) ?_
        rotate_left
        · (intro w hSw; (try dsimp only at hSw); go_simp; try with_reducible rfl)
        try simp only [Act.put, List.setIfInBounds_toArray, List.set_cons_zero, List.set_cons_succ]
        refine wpAnyH_take (i := 16) (oi := ⟨some 85, _, _, _, _, _⟩) (v := undef) rfl (by kernel_rfl) (by kernel_rfl) (by kernel_rfl) (fun _ _ _ h => h) (Or.inr ⟨by rfl, rfl⟩) (by assumption) ?_
        try simp only [Act.put, List.setIfInBounds_toArray, List.set_cons_zero, List.set_cons_succ]
        refine wpAnyH_take (i := 17) (oi := ⟨some 86, _, _, _, _, _⟩) (v := undef) rfl (by kernel_rfl) (by kernel_rfl) (by kernel_rfl) (fun _ _ _ h => h) (Or.inr ⟨by rfl, rfl⟩) (by assumption) ?_
        try simp only [Act.put, List.setIfInBounds_toArray, List.set_cons_zero, List.set_cons_succ]
        refine wpAnyH_take (i := 18) (oi := ⟨some 87, _, _, _, _, _⟩) (v := undef) rfl (by kernel_rfl) (by kernel_rfl) (by kernel_rfl) (fun _ _ _ h => h) (Or.inr ⟨by rfl, rfl⟩) (by assumption) ?_
        try simp only [Act.put, List.setIfInBounds_toArray, List.set_cons_zero, List.set_cons_succ]
        refine wpAnyH_take (i := 19) (oi := ⟨some 88, _, _, _, _, _⟩) (v := ?_) rfl (by kernel_rfl) (by kernel_rfl) (by kernel_rfl) (fun _ _ _ h => h) (Or.inl ⟨by rfl, ?_⟩) (by assumption) ?_
        rotate_left
        · (intro w hSw; (try dsimp only at hSw); go_simp; try with_reducible rfl)
        try simp only [Act.put, List.setIfInBounds_toArray, List.set_cons_zero, List.set_cons_succ]
        refine wpAnyH_take (i := 20) (oi := ⟨some 89, _, _, _, _, _⟩) (v := ?_) rfl (by kernel_rfl) (by kernel_rfl) (by kernel_rfl) (fun _ _ _ h => h) (Or.inl ⟨by rfl, ?_⟩) (by assumption) ?_
        rotate_left
        · (intro w hSw; (try dsimp only at hSw); go_simp; try with_reducible rfl)
        try simp only [Act.put, List.setIfInBounds_toArray, List.set_cons_zero, List.set_cons_succ]
        refine wpAnyH_take (i := 21) (oi := ⟨some 90, _, _, _, _, _⟩) (v := undef) rfl (by kernel_rfl) (by kernel_rfl) (by kernel_rfl) (fun _ _ _ h => h) (Or.inr ⟨by rfl, rfl⟩) (by assumption) ?_
        try simp only [Act.put, List.setIfInBounds_toArray, List.set_cons_zero, List.set_cons_succ]
        refine wpAnyH_take (i := 22) (oi := ⟨some 91, _, _, _, _, _⟩) (v := undef) rfl (by kernel_rfl) (by kernel_rfl) (by kernel_rfl) (fun _ _ _ h => h) (Or.inr ⟨by rfl, rfl⟩) (by assumption) ?_
        try simp only [Act.put, List.setIfInBounds_toArray, List.set_cons_zero, List.set_cons_succ]
        refine wpAnyH_take (i := 23) (oi := ⟨some 92, _, _, _, _, _⟩) (v := ?_) rfl (by kernel_rfl) (by kernel_rfl) (by kernel_rfl) (fun _ _ _ h => h) (Or.inl ⟨by rfl, ?_⟩) (by assumption) ?_
        rotate_left
        · (intro w hSw; (try dsimp only at hSw); go_simp; try with_reducible rfl)
        try simp only [Act.put, List.setIfInBounds_toArray, List.set_cons_zero, List.set_cons_succ]
        refine wpAnyH_take (i := 24) (oi := ⟨some 93, _, _, _, _, _⟩) (v := ?_) rfl (by kernel_rfl) (by kernel_rfl) (by kernel_rfl) (fun _ _ _ h => h) (Or.inl ⟨by rfl, ?_⟩) (by assumption) ?_
        rotate_left
        · (intro w hSw; (try dsimp only at hSw); go_simp; try with_reducible rfl)
        try simp only [Act.put, List.setIfInBounds_toArray, List.set_cons_zero, List.set_cons_succ]
        refine wpAnyH_take (i := 25) (oi := ⟨some 94, _, _, _, _, _⟩) (v := undef) rfl (by kernel_rfl) (by kernel_rfl) (by kernel_rfl) (fun _ _ _ h => h) (Or.inr ⟨by rfl, rfl⟩) (by assumption) ?_
        try simp only [Act.put, List.setIfInBounds_toArray, List.set_cons_zero, List.set_cons_succ]
        refine wpAnyH_take (i := 26) (oi := ⟨some 95, _, _, _, _, _⟩) (v := undef) rfl (by kernel_rfl) (by kernel_rfl) (by kernel_rfl) (fun _ _ _ h => h) (Or.inr ⟨by rfl, rfl⟩) (by assumption) ?_
        try simp only [Act.put, List.setIfInBounds_toArray, List.set_cons_zero, List.set_cons_succ]
        refine wpAnyH_take (i := 27) (oi := ⟨some 96, _, _, _, _, _⟩) (v := undef) rfl (by kernel_rfl) (by kernel_rfl) (by kernel_rfl) (fun _ _ _ h => h) (Or.inr ⟨by rfl, rfl⟩) (by assumption) ?_
        try simp only [Act.put, List.setIfInBounds_toArray, List.set_cons_zero, List.set_cons_succ]
        refine wpAnyH_take (i := 28) (oi := ⟨some 97, _, _, _, _, _⟩) (v := undef) rfl (by kernel_rfl) (by kernel_rfl) (by kernel_rfl) (fun _ _ _ h => h) (Or.inr ⟨by rfl, rfl⟩) (by assumption) ?_
        try simp only [Act.put, List.setIfInBounds_toArray, List.set_cons_zero, List.set_cons_succ]
        refine wpAnyH_take (i := 29) (oi := ⟨some 98, _, _, _, _, _⟩) (v := ?_) rfl (by kernel_rfl) (by kernel_rfl) (by kernel_rfl) (fun _ _ _ h => h) (Or.inl ⟨by rfl, ?_⟩) (by assumption) ?_
        rotate_left
        · (intro w hSw; (try dsimp only at hSw); go_simp; try with_reducible rfl)
        try simp only [Act.put, List.setIfInBounds_toArray, List.set_cons_zero, List.set_cons_succ]
        refine wpAnyH_take (i := 30) (oi := ⟨some 99, _, _, _, _, _⟩) (v := ?_) rfl (by kernel_rfl) (by kernel_rfl) (by kernel_rfl) (fun _ _ _ h => h) (Or.inl ⟨by rfl, ?_⟩) (by assumption) ?_
        rotate_left
        · (intro w hSw; (try dsimp only at hSw); go_simp; try with_reducible rfl)
        try simp only [Act.put, List.setIfInBounds_toArray, List.set_cons_zero, List.set_cons_succ]
        refine wpAnyH_take (i := 31) (oi := ⟨some 100, _, _, _, _, _⟩) (v := undef) rfl (by kernel_rfl) (by kernel_rfl) (by kernel_rfl) (fun _ _ _ h => h) (Or.inr ⟨by rfl, rfl⟩) (by assumption) ?_
        try simp only [Act.put, List.setIfInBounds_toArray, List.set_cons_zero, List.set_cons_succ]
        refine wpAnyH_take (i := 32) (oi := ⟨some 101, _, _, _, _, _⟩) (v := undef) rfl (by kernel_rfl) (by kernel_rfl) (by kernel_rfl) (fun _ _ _ h => h) (Or.inr ⟨by rfl, rfl⟩) (by assumption) ?_
        try simp only [Act.put, List.setIfInBounds_toArray, List.set_cons_zero, List.set_cons_succ]
        refine wpAnyH_take (i := 33) (oi := ⟨some 102, _, _, _, _, _⟩) (v := ?_) rfl (by kernel_rfl) (by kernel_rfl) (by kernel_rfl) (fun _ _ _ h => h) (Or.inl ⟨by rfl, ?_⟩) (by assumption) ?_
        rotate_left
        · (intro w hSw; (try dsimp only at hSw); go_simp; try with_reducible rfl)
        try simp only [Act.put, List.setIfInBounds_toArray, List.set_cons_zero, List.set_cons_succ]
        refine wpAnyH_ready (rs := [34]) (by kernel_rfl) (by simp) (AllReadyH.cons (o := ⟨none, _, _, _, _, _⟩) rfl (fun K hK => ?_) AllReadyH.nil)
        go_simp
        refine hK.out _ _ ?_ (fun hHeld => ?_)
        · (try dsimp only); (simp only [World.drew_is_drewN, World.cell?_drewN, World.cell?_setCell_far, ne_eq, hbA, hbB, not_false_eq_true]; exact ⟨⟨i0, i1, i2, i3, i4, i5, i6, i7, i8, i9, i10, i11⟩, e0, e1, e2, e3, e4, e5, e6, e7⟩)
        clear hK K
        try simp only [Act.put, List.setIfInBounds_toArray, List.set_cons_zero, List.set_cons_succ]
        refine wpAnyH_take (i := 35) (oi := ⟨some 3, _, _, _, _, _⟩) (v := ?_) rfl (by kernel_rfl) (by kernel_rfl) (by kernel_rfl) (fun _ _ _ h => h) (Or.inl ⟨by rfl, ?_⟩) (by assumption) ?_
        rotate_left
        · (intro w hSw; (try dsimp only at hSw); go_simp; try with_reducible rfl)
        try simp only [Act.put, List.setIfInBounds_toArray, List.set_cons_zero, List.set_cons_succ]
        refine wpAnyH_take (i := 36) (oi := ⟨some 4, _, _, _, _, _⟩) (v := ?_) rfl (by kernel_rfl) (by kernel_rfl) (by kernel_rfl) (fun _ _ _ h => h) (Or.inl ⟨by rfl, ?_⟩) (by assumption) ?_
        rotate_left
        · (intro w hSw; (try dsimp only at hSw); go_simp; try with_reducible rfl)
        try simp only [Act.put, List.setIfInBounds_toArray, List.set_cons_zero, List.set_cons_succ]
        refine wpAnyH_done (by kernel_rfl) ?_ _
        go_wp2_with fail
        generalize hWf : World.setCell _ _ _ = Wf
        obtain ⟨hrow, hOf⟩ := end12' RI5.out hWf
        obtain ⟨⟨t0, t1, t2, t3, t4, t5⟩, ⟨t6, t7, t8, t9, t10, t11⟩⟩ := cells12 hrow
        refine bodyPost_ret (v := .tuple #[infoV (8 * x0) (8 * x1) x2 ⟨x4, x5, x6, g1, x7, g2, g3, g4⟩ (.slice none 0 0), .int .i64 x3, .bool false]) (by simp [results, Tryz.results41, go_sem, t0, t1, t2, t3, t4, t5, t6, t7, t8, t9, t10, t11, infoV]) rfl (HPost.out _ _ ?_)
        exact ⟨(HO5.out.tail1 hOf (by omega)).drew, .inr ⟨fun h => (fun h => by have := h.2.1; rw [hsH] at this; cases this) (HIff.out.1 h), 8 * x0, 8 * x1, x2, ⟨x4, x5, x6, g1, x7, g2, g3, g4⟩, x3, rfl⟩⟩
        -- S>
      · -- W2
        -- <S
        have hneg : ¬ 1 ≤ x2 := by omega
        have hnegb : decide (1 ≤ x2) = false := by simpa using hneg
        refine wp_region_held_drew (S := (fun w' => (w'.cell? ⟨W4.heap.size, 0, none⟩ = some (.int .i64 (8 * x0)) ∧ w'.cell? ⟨W4.heap.size, 1, none⟩ = some (.int .i64 (8 * x1)) ∧ w'.cell? ⟨W4.heap.size, 2, none⟩ = some (.int .i64 x2) ∧ w'.cell? ⟨W4.heap.size, 3, none⟩ = some (.int .i64 x4) ∧ w'.cell? ⟨W4.heap.size, 4, none⟩ = some (.int .i64 x5) ∧ w'.cell? ⟨W4.heap.size, 5, none⟩ = some (.int .i64 x6) ∧ w'.cell? ⟨W4.heap.size, 6, none⟩ = some (.int .i64 g1) ∧ w'.cell? ⟨W4.heap.size, 7, none⟩ = some (.int .i64 x7) ∧ w'.cell? ⟨W4.heap.size, 8, none⟩ = some (.int .i64 g2) ∧ w'.cell? ⟨W4.heap.size, 9, none⟩ = some (.int .i64 g3) ∧ w'.cell? ⟨W4.heap.size, 10, none⟩ = some (.int .i64 g4) ∧ w'.cell? ⟨W4.heap.size, 11, none⟩ = some (.slice none 0 0)) ∧ (w'.cell? ⟨W3.heap.size, 0, none⟩ = some (.int .i64 x4) ∧ w'.cell? ⟨W3.heap.size, 1, none⟩ = some (.int .i64 x5) ∧ w'.cell? ⟨W3.heap.size, 2, none⟩ = some (.int .i64 x6) ∧ w'.cell? ⟨W3.heap.size, 3, none⟩ = some (.int .i64 g1) ∧ w'.cell? ⟨W3.heap.size, 4, none⟩ = some (.int .i64 x7) ∧ w'.cell? ⟨W3.heap.size, 5, none⟩ = some (.int .i64 g2) ∧ w'.cell? ⟨W3.heap.size, 6, none⟩ = some (.int .i64 g3) ∧ w'.cell? ⟨W3.heap.size, 7, none⟩ = some (.int .i64 g4)))) (by kernel_rfl) ?_ (fun hHeld => ?_)
        · first | (simp [*, World.cell?_alloc_some, World.cell?_setCell_far, frozen?_alloc_cells, frozen_drew, World.frozen?_setCell]) | fail
        refine wpAnyH_take (i := 0) (oi := ⟨some 69, _, _, _, _, _⟩) (v := ?_) rfl (by kernel_rfl) (by kernel_rfl) (by kernel_rfl) (fun _ _ _ h => h) (Or.inl ⟨by rfl, ?_⟩) (by assumption) ?_
        rotate_left
        · (intro w hSw; (try dsimp only at hSw); go_simp; try with_reducible rfl)
        try simp only [Act.put, List.setIfInBounds_toArray, List.set_cons_zero, List.set_cons_succ]
        refine wpAnyH_take (i := 1) (oi := ⟨some 70, _, _, _, _, _⟩) (v := ?_) rfl (by kernel_rfl) (by kernel_rfl) (by kernel_rfl) (fun _ _ _ h => h) (Or.inl ⟨by rfl, ?_⟩) (by assumption) ?_
        rotate_left
        · (intro w hSw; (try dsimp only at hSw); go_simp; try with_reducible rfl)
        try simp only [Act.put, List.setIfInBounds_toArray, List.set_cons_zero, List.set_cons_succ]
        refine wpAnyH_take (i := 2) (oi := ⟨some 71, _, _, _, _, _⟩) (v := ?_) rfl (by kernel_rfl) (by kernel_rfl) (by kernel_rfl) (fun _ _ _ h => h) (Or.inl ⟨by rfl, ?_⟩) (by assumption) ?_
        rotate_left
        · (intro w hSw; (try dsimp only at hSw); go_simp; try with_reducible rfl)
        try simp only [Act.put, List.setIfInBounds_toArray, List.set_cons_zero, List.set_cons_succ]
        refine wpAnyH_take (i := 3) (oi := ⟨some 72, _, _, _, _, _⟩) (v := ?_) rfl (by kernel_rfl) (by kernel_rfl) (by kernel_rfl) (fun _ _ _ h => h) (Or.inl ⟨by rfl, ?_⟩) (by assumption) ?_
        rotate_left
        · (intro w hSw; (try dsimp only at hSw); go_simp; try with_reducible rfl)
        try simp only [Act.put, List.setIfInBounds_toArray, List.set_cons_zero, List.set_cons_succ]
        refine wpAnyH_ready (rs := [4]) (by kernel_rfl) (by simp) (AllReadyH.cons (o := ⟨some 73, _, _, _, _, _⟩) rfl (fun K hK => ?_) AllReadyH.nil)
        go_simp
        (go_at_call 67; refine (kside_any _ _).mono ?_; rintro e w' ⟨rfl, rfl⟩; rw [hsW])
        refine hK.out _ _ ?_ (fun hHeld => ?_)
        · (try dsimp only); assumption
        clear hK K
        try simp only [Act.put, List.setIfInBounds_toArray, List.set_cons_zero, List.set_cons_succ]
        refine wpAnyH_take (i := 5) (oi := ⟨some 74, _, _, _, _, _⟩) (v := ?_) rfl (by kernel_rfl) (by kernel_rfl) (by kernel_rfl) (fun _ _ _ h => h) (Or.inl ⟨by rfl, ?_⟩) (by assumption) ?_
        rotate_left
        · (intro w hSw; (try dsimp only at hSw); go_simp; try with_reducible rfl)
        try simp only [Act.put, List.setIfInBounds_toArray, List.set_cons_zero, List.set_cons_succ]
        refine wpAnyH_take (i := 6) (oi := ⟨some 75, _, _, _, _, _⟩) (v := ?_) rfl (by kernel_rfl) (by kernel_rfl) (by kernel_rfl) (fun _ _ _ h => h) (Or.inl ⟨by rfl, ?_⟩) (by assumption) ?_
        rotate_left
        · (intro w hSw; (try dsimp only at hSw); go_simp; try with_reducible rfl)
        try simp only [Act.put, List.setIfInBounds_toArray, List.set_cons_zero, List.set_cons_succ]
        refine wpAnyH_take (i := 7) (oi := ⟨some 76, _, _, _, _, _⟩) (v := ?_) rfl (by kernel_rfl) (by kernel_rfl) (by kernel_rfl) (fun _ _ _ h => h) (Or.inl ⟨by rfl, ?_⟩) (by assumption) ?_
        rotate_left
        · (intro w hSw; (try dsimp only at hSw); go_simp; try with_reducible rfl)
        try simp only [Act.put, List.setIfInBounds_toArray, List.set_cons_zero, List.set_cons_succ]
        refine wpAnyH_ready (rs := [8]) (by kernel_rfl) (by simp) (AllReadyH.cons (o := ⟨some 77, _, _, _, _, _⟩) rfl (fun K hK => ?_) AllReadyH.nil)
        go_simp
        (go_at_call 67; refine (kside_any _ _).mono ?_; rintro e w' ⟨rfl, rfl⟩; rw [hsH])
        refine hK.out _ _ ?_ (fun hHeld => ?_)
        · (try dsimp only); assumption
        clear hK K
        try simp only [Act.put, List.setIfInBounds_toArray, List.set_cons_zero, List.set_cons_succ]
        refine wpAnyH_take (i := 9) (oi := ⟨some 78, _, _, _, _, _⟩) (v := ?_) rfl (by kernel_rfl) (by kernel_rfl) (by kernel_rfl) (fun _ _ _ h => h) (Or.inl ⟨by rfl, ?_⟩) (by assumption) ?_
        rotate_left
        · (intro w hSw; (try dsimp only at hSw); go_simp; try with_reducible rfl)
        try simp only [Act.put, List.setIfInBounds_toArray, List.set_cons_zero, List.set_cons_succ]
        refine wpAnyH_take (i := 10) (oi := ⟨some 79, _, _, _, _, _⟩) (v := ?_) rfl (by kernel_rfl) (by kernel_rfl) (by kernel_rfl) (fun _ _ _ h => h) (Or.inl ⟨by rfl, ?_⟩) (by assumption) ?_
        rotate_left
        · (intro w hSw; (try dsimp only at hSw); go_simp; try with_reducible rfl)
        try simp only [Act.put, List.setIfInBounds_toArray, List.set_cons_zero, List.set_cons_succ]
        refine wpAnyH_take (i := 11) (oi := ⟨some 80, _, _, _, _, _⟩) (v := ?_) rfl (by kernel_rfl) (by kernel_rfl) (by kernel_rfl) (fun _ _ _ h => h) (Or.inl ⟨by rfl, ?_⟩) (by assumption) ?_
        rotate_left
        · (intro w hSw; (try dsimp only at hSw); go_simp; try with_reducible rfl)
        try simp only [Act.put, List.setIfInBounds_toArray, List.set_cons_zero, List.set_cons_succ]
        refine wpAnyH_take (i := 12) (oi := ⟨some 81, _, _, _, _, _⟩) (v := ?_) rfl (by kernel_rfl) (by kernel_rfl) (by kernel_rfl) (fun _ _ _ h => h) (Or.inl ⟨by rfl, ?_⟩) (by assumption) ?_
        rotate_left
        · (intro w hSw; (try dsimp only at hSw); go_simp; try with_reducible rfl)
        try simp only [Act.put, List.setIfInBounds_toArray, List.set_cons_zero, List.set_cons_succ]
        refine wpAnyH_take (i := 13) (oi := ⟨some 82, _, _, _, _, _⟩) (v := ?_) rfl (by kernel_rfl) (by kernel_rfl) (by kernel_rfl) (fun _ _ _ h => h) (Or.inl ⟨by rfl, ?_⟩) (by assumption) ?_
        rotate_left
        · (intro w hSw; (try dsimp only at hSw); go_simp; try with_reducible rfl)
        try simp only [Act.put, List.setIfInBounds_toArray, List.set_cons_zero, List.set_cons_succ]
        refine wpAnyH_take (i := 14) (oi := ⟨some 83, _, _, _, _, _⟩) (v := ?_) rfl (by kernel_rfl) (by kernel_rfl) (by kernel_rfl) (fun _ _ _ h => h) (Or.inl ⟨by rfl, ?_⟩) (by assumption) ?_
        rotate_left
        · (intro w hSw; (try dsimp only at hSw); go_simp; try with_reducible rfl)
        try simp only [Act.put, List.setIfInBounds_toArray, List.set_cons_zero, List.set_cons_succ]
        refine wpAnyH_take (i := 15) (oi := ⟨some 84, _, _, _, _, _⟩) (v := ?_) rfl (by kernel_rfl) (by kernel_rfl) (by kernel_rfl) (fun _ _ _ h => h) (Or.inl ⟨by rfl, ?_⟩) (by assumption) ?_
        rotate_left
        · (intro w hSw; (try dsimp only at hSw); go_simp; try with_reducible rfl)
        try simp only [Act.put, List.setIfInBounds_toArray, List.set_cons_zero, List.set_cons_succ]
        refine wpAnyH_take (i := 16) (oi := ⟨some 85, _, _, _, _, _⟩) (v := undef) rfl (by kernel_rfl) (by kernel_rfl) (by kernel_rfl) (fun _ _ _ h => h) (Or.inr ⟨by rfl, rfl⟩) (by assumption) ?_
        try simp only [Act.put, List.setIfInBounds_toArray, List.set_cons_zero, List.set_cons_succ]
        refine wpAnyH_take (i := 17) (oi := ⟨some 86, _, _, _, _, _⟩) (v := undef) rfl (by kernel_rfl) (by kernel_rfl) (by kernel_rfl) (fun _ _ _ h => h) (Or.inr ⟨by rfl, rfl⟩) (by assumption) ?_
        try simp only [Act.put, List.setIfInBounds_toArray, List.set_cons_zero, List.set_cons_succ]
        refine wpAnyH_take (i := 18) (oi := ⟨some 87, _, _, _, _, _⟩) (v := undef) rfl (by kernel_rfl) (by kernel_rfl) (by kernel_rfl) (fun _ _ _ h => h) (Or.inr ⟨by rfl, rfl⟩) (by assumption) ?_
        try simp only [Act.put, List.setIfInBounds_toArray, List.set_cons_zero, List.set_cons_succ]
        refine wpAnyH_take (i := 19) (oi := ⟨some 88, _, _, _, _, _⟩) (v := ?_) rfl (by kernel_rfl) (by kernel_rfl) (by kernel_rfl) (fun _ _ _ h => h) (Or.inl ⟨by rfl, ?_⟩) (by assumption) ?_
        rotate_left
        · (intro w hSw; (try dsimp only at hSw); go_simp; try with_reducible rfl)
        try simp only [Act.put, List.setIfInBounds_toArray, List.set_cons_zero, List.set_cons_succ]
        refine wpAnyH_take (i := 20) (oi := ⟨some 89, _, _, _, _, _⟩) (v := ?_) rfl (by kernel_rfl) (by kernel_rfl) (by kernel_rfl) (fun _ _ _ h => h) (Or.inl ⟨by rfl, ?_⟩) (by assumption) ?_
        rotate_left
        · (intro w hSw; (try dsimp only at hSw); go_simp; try with_reducible rfl)
        try simp only [Act.put, List.setIfInBounds_toArray, List.set_cons_zero, List.set_cons_succ]
        refine wpAnyH_take (i := 21) (oi := ⟨some 90, _, _, _, _, _⟩) (v := undef) rfl (by kernel_rfl) (by kernel_rfl) (by kernel_rfl) (fun _ _ _ h => h) (Or.inr ⟨by rfl, rfl⟩) (by assumption) ?_
        try simp only [Act.put, List.setIfInBounds_toArray, List.set_cons_zero, List.set_cons_succ]
        refine wpAnyH_take (i := 22) (oi := ⟨some 91, _, _, _, _, _⟩) (v := undef) rfl (by kernel_rfl) (by kernel_rfl) (by kernel_rfl) (fun _ _ _ h => h) (Or.inr ⟨by rfl, rfl⟩) (by assumption) ?_
        try simp only [Act.put, List.setIfInBounds_toArray, List.set_cons_zero, List.set_cons_succ]
        refine wpAnyH_take (i := 23) (oi := ⟨some 92, _, _, _, _, _⟩) (v := ?_) rfl (by kernel_rfl) (by kernel_rfl) (by kernel_rfl) (fun _ _ _ h => h) (Or.inl ⟨by rfl, ?_⟩) (by assumption) ?_
        rotate_left
        · (intro w hSw; (try dsimp only at hSw); go_simp; try with_reducible rfl)
        try simp only [Act.put, List.setIfInBounds_toArray, List.set_cons_zero, List.set_cons_succ]
        refine wpAnyH_take (i := 24) (oi := ⟨some 93, _, _, _, _, _⟩) (v := ?_) rfl (by kernel_rfl) (by kernel_rfl) (by kernel_rfl) (fun _ _ _ h => h) (Or.inl ⟨by rfl, ?_⟩) (by assumption) ?_
        rotate_left
        · (intro w hSw; (try dsimp only at hSw); go_simp; try with_reducible rfl)
        try simp only [Act.put, List.setIfInBounds_toArray, List.set_cons_zero, List.set_cons_succ]
        refine wpAnyH_take (i := 25) (oi := ⟨some 94, _, _, _, _, _⟩) (v := undef) rfl (by kernel_rfl) (by kernel_rfl) (by kernel_rfl) (fun _ _ _ h => h) (Or.inr ⟨by rfl, rfl⟩) (by assumption) ?_
        try simp only [Act.put, List.setIfInBounds_toArray, List.set_cons_zero, List.set_cons_succ]
        refine wpAnyH_take (i := 26) (oi := ⟨some 95, _, _, _, _, _⟩) (v := undef) rfl (by kernel_rfl) (by kernel_rfl) (by kernel_rfl) (fun _ _ _ h => h) (Or.inr ⟨by rfl, rfl⟩) (by assumption) ?_
        try simp only [Act.put, List.setIfInBounds_toArray, List.set_cons_zero, List.set_cons_succ]
        refine wpAnyH_take (i := 27) (oi := ⟨some 96, _, _, _, _, _⟩) (v := undef) rfl (by kernel_rfl) (by kernel_rfl) (by kernel_rfl) (fun _ _ _ h => h) (Or.inr ⟨by rfl, rfl⟩) (by assumption) ?_
        try simp only [Act.put, List.setIfInBounds_toArray, List.set_cons_zero, List.set_cons_succ]
        refine wpAnyH_take (i := 28) (oi := ⟨some 97, _, _, _, _, _⟩) (v := undef) rfl (by kernel_rfl) (by kernel_rfl) (by kernel_rfl) (fun _ _ _ h => h) (Or.inr ⟨by rfl, rfl⟩) (by assumption) ?_
        try simp only [Act.put, List.setIfInBounds_toArray, List.set_cons_zero, List.set_cons_succ]
        refine wpAnyH_take (i := 29) (oi := ⟨some 98, _, _, _, _, _⟩) (v := ?_) rfl (by kernel_rfl) (by kernel_rfl) (by kernel_rfl) (fun _ _ _ h => h) (Or.inl ⟨by rfl, ?_⟩) (by assumption) ?_
        rotate_left
        · (intro w hSw; (try dsimp only at hSw); go_simp; try with_reducible rfl)
        try simp only [Act.put, List.setIfInBounds_toArray, List.set_cons_zero, List.set_cons_succ]
        refine wpAnyH_take (i := 30) (oi := ⟨some 99, _, _, _, _, _⟩) (v := ?_) rfl (by kernel_rfl) (by kernel_rfl) (by kernel_rfl) (fun _ _ _ h => h) (Or.inl ⟨by rfl, ?_⟩) (by assumption) ?_
        rotate_left
        · (intro w hSw; (try dsimp only at hSw); go_simp; try with_reducible rfl)
        try simp only [Act.put, List.setIfInBounds_toArray, List.set_cons_zero, List.set_cons_succ]
        refine wpAnyH_take (i := 31) (oi := ⟨some 100, _, _, _, _, _⟩) (v := undef) rfl (by kernel_rfl) (by kernel_rfl) (by kernel_rfl) (fun _ _ _ h => h) (Or.inr ⟨by rfl, rfl⟩) (by assumption) ?_
        try simp only [Act.put, List.setIfInBounds_toArray, List.set_cons_zero, List.set_cons_succ]
        refine wpAnyH_take (i := 32) (oi := ⟨some 101, _, _, _, _, _⟩) (v := undef) rfl (by kernel_rfl) (by kernel_rfl) (by kernel_rfl) (fun _ _ _ h => h) (Or.inr ⟨by rfl, rfl⟩) (by assumption) ?_
        try simp only [Act.put, List.setIfInBounds_toArray, List.set_cons_zero, List.set_cons_succ]
        refine wpAnyH_take (i := 33) (oi := ⟨some 102, _, _, _, _, _⟩) (v := ?_) rfl (by kernel_rfl) (by kernel_rfl) (by kernel_rfl) (fun _ _ _ h => h) (Or.inl ⟨by rfl, ?_⟩) (by assumption) ?_
        rotate_left
        · (intro w hSw; (try dsimp only at hSw); go_simp; try with_reducible rfl)
        try simp only [Act.put, List.setIfInBounds_toArray, List.set_cons_zero, List.set_cons_succ]
        refine wpAnyH_ready (rs := [34]) (by kernel_rfl) (by simp) (AllReadyH.cons (o := ⟨none, _, _, _, _, _⟩) rfl (fun K hK => ?_) AllReadyH.nil)
        go_simp
        refine hK.out _ _ ?_ (fun hHeld => ?_)
        · (try dsimp only); (simp only [World.drew_is_drewN, World.cell?_drewN, World.cell?_setCell_far, ne_eq, hbA, hbB, not_false_eq_true]; exact ⟨⟨i0, i1, i2, i3, i4, i5, i6, i7, i8, i9, i10, i11⟩, e0, e1, e2, e3, e4, e5, e6, e7⟩)
        clear hK K
        try simp only [Act.put, List.setIfInBounds_toArray, List.set_cons_zero, List.set_cons_succ]
        refine wpAnyH_take (i := 35) (oi := ⟨some 3, _, _, _, _, _⟩) (v := ?_) rfl (by kernel_rfl) (by kernel_rfl) (by kernel_rfl) (fun _ _ _ h => h) (Or.inl ⟨by rfl, ?_⟩) (by assumption) ?_
        rotate_left
        · (intro w hSw; (try dsimp only at hSw); go_simp; try with_reducible rfl)
        try simp only [Act.put, List.setIfInBounds_toArray, List.set_cons_zero, List.set_cons_succ]
        refine wpAnyH_take (i := 36) (oi := ⟨some 4, _, _, _, _, _⟩) (v := ?_) rfl (by kernel_rfl) (by kernel_rfl) (by kernel_rfl) (fun _ _ _ h => h) (Or.inl ⟨by rfl, ?_⟩) (by assumption) ?_
        rotate_left
        · (intro w hSw; (try dsimp only at hSw); go_simp; try with_reducible rfl)
        try simp only [Act.put, List.setIfInBounds_toArray, List.set_cons_zero, List.set_cons_succ]
        refine wpAnyH_done (by kernel_rfl) ?_ _
        go_wp2_with fail
        generalize hWf : World.setCell _ _ _ = Wf
        obtain ⟨hrow, hOf⟩ := end12' RI5.out hWf
        obtain ⟨⟨t0, t1, t2, t3, t4, t5⟩, ⟨t6, t7, t8, t9, t10, t11⟩⟩ := cells12 hrow
        refine bodyPost_ret (v := .tuple #[infoV (8 * x0) (8 * x1) x2 ⟨x4, x5, x6, g1, x7, g2, g3, g4⟩ (.slice none 0 0), .int .i64 x3, .bool false]) (by simp [results, Tryz.results41, go_sem, t0, t1, t2, t3, t4, t5, t6, t7, t8, t9, t10, t11, infoV]) rfl (HPost.out _ _ ?_)
        exact ⟨(HO5.out.tail1 hOf (by omega)).drew, .inr ⟨fun h => (fun h => by have := h.2.2.1; omega) (HIff.out.1 h), 8 * x0, 8 * x1, x2, ⟨x4, x5, x6, g1, x7, g2, g3, g4⟩, x3, rfl⟩⟩
        -- S>
      · -- W3
        -- <S
        have hneg : ¬ x2 ≤ 16 := by omega
        have hnegb : decide (x2 ≤ 16) = false := by simpa using hneg
        refine wp_region_held_drew (S := (fun w' => (w'.cell? ⟨W4.heap.size, 0, none⟩ = some (.int .i64 (8 * x0)) ∧ w'.cell? ⟨W4.heap.size, 1, none⟩ = some (.int .i64 (8 * x1)) ∧ w'.cell? ⟨W4.heap.size, 2, none⟩ = some (.int .i64 x2) ∧ w'.cell? ⟨W4.heap.size, 3, none⟩ = some (.int .i64 x4) ∧ w'.cell? ⟨W4.heap.size, 4, none⟩ = some (.int .i64 x5) ∧ w'.cell? ⟨W4.heap.size, 5, none⟩ = some (.int .i64 x6) ∧ w'.cell? ⟨W4.heap.size, 6, none⟩ = some (.int .i64 g1) ∧ w'.cell? ⟨W4.heap.size, 7, none⟩ = some (.int .i64 x7) ∧ w'.cell? ⟨W4.heap.size, 8, none⟩ = some (.int .i64 g2) ∧ w'.cell? ⟨W4.heap.size, 9, none⟩ = some (.int .i64 g3) ∧ w'.cell? ⟨W4.heap.size, 10, none⟩ = some (.int .i64 g4) ∧ w'.cell? ⟨W4.heap.size, 11, none⟩ = some (.slice none 0 0)) ∧ (w'.cell? ⟨W3.heap.size, 0, none⟩ = some (.int .i64 x4) ∧ w'.cell? ⟨W3.heap.size, 1, none⟩ = some (.int .i64 x5) ∧ w'.cell? ⟨W3.heap.size, 2, none⟩ = some (.int .i64 x6) ∧ w'.cell? ⟨W3.heap.size, 3, none⟩ = some (.int .i64 g1) ∧ w'.cell? ⟨W3.heap.size, 4, none⟩ = some (.int .i64 x7) ∧ w'.cell? ⟨W3.heap.size, 5, none⟩ = some (.int .i64 g2) ∧ w'.cell? ⟨W3.heap.size, 6, none⟩ = some (.int .i64 g3) ∧ w'.cell? ⟨W3.heap.size, 7, none⟩ = some (.int .i64 g4)))) (by kernel_rfl) ?_ (fun hHeld => ?_)
        · first | (simp [*, World.cell?_alloc_some, World.cell?_setCell_far, frozen?_alloc_cells, frozen_drew, World.frozen?_setCell]) | fail
        refine wpAnyH_take (i := 0) (oi := ⟨some 69, _, _, _, _, _⟩) (v := ?_) rfl (by kernel_rfl) (by kernel_rfl) (by kernel_rfl) (fun _ _ _ h => h) (Or.inl ⟨by rfl, ?_⟩) (by assumption) ?_
        rotate_left
        · (intro w hSw; (try dsimp only at hSw); go_simp; try with_reducible rfl)
        try simp only [Act.put, List.setIfInBounds_toArray, List.set_cons_zero, List.set_cons_succ]
        refine wpAnyH_take (i := 1) (oi := ⟨some 70, _, _, _, _, _⟩) (v := ?_) rfl (by kernel_rfl) (by kernel_rfl) (by kernel_rfl) (fun _ _ _ h => h) (Or.inl ⟨by rfl, ?_⟩) (by assumption) ?_
        rotate_left
        · (intro w hSw; (try dsimp only at hSw); go_simp; try with_reducible rfl)
        try simp only [Act.put, List.setIfInBounds_toArray, List.set_cons_zero, List.set_cons_succ]
        refine wpAnyH_take (i := 2) (oi := ⟨some 71, _, _, _, _, _⟩) (v := ?_) rfl (by kernel_rfl) (by kernel_rfl) (by kernel_rfl) (fun _ _ _ h => h) (Or.inl ⟨by rfl, ?_⟩) (by assumption) ?_
        rotate_left
        · (intro w hSw; (try dsimp only at hSw); go_simp; try with_reducible rfl)
        try simp only [Act.put, List.setIfInBounds_toArray, List.set_cons_zero, List.set_cons_succ]
        refine wpAnyH_take (i := 3) (oi := ⟨some 72, _, _, _, _, _⟩) (v := ?_) rfl (by kernel_rfl) (by kernel_rfl) (by kernel_rfl) (fun _ _ _ h => h) (Or.inl ⟨by rfl, ?_⟩) (by assumption) ?_
        rotate_left
        · (intro w hSw; (try dsimp only at hSw); go_simp; try with_reducible rfl)
        try simp only [Act.put, List.setIfInBounds_toArray, List.set_cons_zero, List.set_cons_succ]
        refine wpAnyH_ready (rs := [4]) (by kernel_rfl) (by simp) (AllReadyH.cons (o := ⟨some 73, _, _, _, _, _⟩) rfl (fun K hK => ?_) AllReadyH.nil)
        go_simp
        (go_at_call 67; refine (kside_any _ _).mono ?_; rintro e w' ⟨rfl, rfl⟩; rw [hsW])
        refine hK.out _ _ ?_ (fun hHeld => ?_)
        · (try dsimp only); assumption
        clear hK K
        try simp only [Act.put, List.setIfInBounds_toArray, List.set_cons_zero, List.set_cons_succ]
        refine wpAnyH_take (i := 5) (oi := ⟨some 74, _, _, _, _, _⟩) (v := ?_) rfl (by kernel_rfl) (by kernel_rfl) (by kernel_rfl) (fun _ _ _ h => h) (Or.inl ⟨by rfl, ?_⟩) (by assumption) ?_
        rotate_left
        · (intro w hSw; (try dsimp only at hSw); go_simp; try with_reducible rfl)
        try simp only [Act.put, List.setIfInBounds_toArray, List.set_cons_zero, List.set_cons_succ]
        refine wpAnyH_take (i := 6) (oi := ⟨some 75, _, _, _, _, _⟩) (v := ?_) rfl (by kernel_rfl) (by kernel_rfl) (by kernel_rfl) (fun _ _ _ h => h) (Or.inl ⟨by rfl, ?_⟩) (by assumption) ?_
        rotate_left
        · (intro w hSw; (try dsimp only at hSw); go_simp; try with_reducible rfl)
        try simp only [Act.put, List.setIfInBounds_toArray, List.set_cons_zero, List.set_cons_succ]
        refine wpAnyH_take (i := 7) (oi := ⟨some 76, _, _, _, _, _⟩) (v := ?_) rfl (by kernel_rfl) (by kernel_rfl) (by kernel_rfl) (fun _ _ _ h => h) (Or.inl ⟨by rfl, ?_⟩) (by assumption) ?_
        rotate_left
        · (intro w hSw; (try dsimp only at hSw); go_simp; try with_reducible rfl)
        try simp only [Act.put, List.setIfInBounds_toArray, List.set_cons_zero, List.set_cons_succ]
        refine wpAnyH_ready (rs := [8]) (by kernel_rfl) (by simp) (AllReadyH.cons (o := ⟨some 77, _, _, _, _, _⟩) rfl (fun K hK => ?_) AllReadyH.nil)
        go_simp
        (go_at_call 67; refine (kside_any _ _).mono ?_; rintro e w' ⟨rfl, rfl⟩; rw [hsH])
        refine hK.out _ _ ?_ (fun hHeld => ?_)
        · (try dsimp only); assumption
        clear hK K
        try simp only [Act.put, List.setIfInBounds_toArray, List.set_cons_zero, List.set_cons_succ]
        refine wpAnyH_take (i := 9) (oi := ⟨some 78, _, _, _, _, _⟩) (v := ?_) rfl (by kernel_rfl) (by kernel_rfl) (by kernel_rfl) (fun _ _ _ h => h) (Or.inl ⟨by rfl, ?_⟩) (by assumption) ?_
        rotate_left
        · (intro w hSw; (try dsimp only at hSw); go_simp; try with_reducible rfl)
        try simp only [Act.put, List.setIfInBounds_toArray, List.set_cons_zero, List.set_cons_succ]
        refine wpAnyH_take (i := 10) (oi := ⟨some 79, _, _, _, _, _⟩) (v := ?_) rfl (by kernel_rfl) (by kernel_rfl) (by kernel_rfl) (fun _ _ _ h => h) (Or.inl ⟨by rfl, ?_⟩) (by assumption) ?_
        rotate_left
        · (intro w hSw; (try dsimp only at hSw); go_simp; try with_reducible rfl)
        try simp only [Act.put, List.setIfInBounds_toArray, List.set_cons_zero, List.set_cons_succ]
        refine wpAnyH_take (i := 11) (oi := ⟨some 80, _, _, _, _, _⟩) (v := ?_) rfl (by kernel_rfl) (by kernel_rfl) (by kernel_rfl) (fun _ _ _ h => h) (Or.inl ⟨by rfl, ?_⟩) (by assumption) ?_
        rotate_left
        · (intro w hSw; (try dsimp only at hSw); go_simp; try with_reducible rfl)
        try simp only [Act.put, List.setIfInBounds_toArray, List.set_cons_zero, List.set_cons_succ]
        refine wpAnyH_take (i := 12) (oi := ⟨some 81, _, _, _, _, _⟩) (v := ?_) rfl (by kernel_rfl) (by kernel_rfl) (by kernel_rfl) (fun _ _ _ h => h) (Or.inl ⟨by rfl, ?_⟩) (by assumption) ?_
        rotate_left
        · (intro w hSw; (try dsimp only at hSw); go_simp; try with_reducible rfl)
        try simp only [Act.put, List.setIfInBounds_toArray, List.set_cons_zero, List.set_cons_succ]
        refine wpAnyH_take (i := 13) (oi := ⟨some 82, _, _, _, _, _⟩) (v := ?_) rfl (by kernel_rfl) (by kernel_rfl) (by kernel_rfl) (fun _ _ _ h => h) (Or.inl ⟨by rfl, ?_⟩) (by assumption) ?_
        rotate_left
        · (intro w hSw; (try dsimp only at hSw); go_simp; try with_reducible rfl)
        try simp only [Act.put, List.setIfInBounds_toArray, List.set_cons_zero, List.set_cons_succ]
        refine wpAnyH_take (i := 14) (oi := ⟨some 83, _, _, _, _, _⟩) (v := ?_) rfl (by kernel_rfl) (by kernel_rfl) (by kernel_rfl) (fun _ _ _ h => h) (Or.inl ⟨by rfl, ?_⟩) (by assumption) ?_
        rotate_left
        · (intro w hSw; (try dsimp only at hSw); go_simp; try with_reducible rfl)
        try simp only [Act.put, List.setIfInBounds_toArray, List.set_cons_zero, List.set_cons_succ]
        refine wpAnyH_take (i := 15) (oi := ⟨some 84, _, _, _, _, _⟩) (v := ?_) rfl (by kernel_rfl) (by kernel_rfl) (by kernel_rfl) (fun _ _ _ h => h) (Or.inl ⟨by rfl, ?_⟩) (by assumption) ?_
        rotate_left
        · (intro w hSw; (try dsimp only at hSw); go_simp; try with_reducible rfl)
        try simp only [Act.put, List.setIfInBounds_toArray, List.set_cons_zero, List.set_cons_succ]
        refine wpAnyH_take (i := 16) (oi := ⟨some 85, _, _, _, _, _⟩) (v := ?_) rfl (by kernel_rfl) (by kernel_rfl) (by kernel_rfl) (fun _ _ _ h => h) (Or.inl ⟨by rfl, ?_⟩) (by assumption) ?_
        rotate_left
        · (intro w hSw; (try dsimp only at hSw); go_simp; try with_reducible rfl)
        try simp only [Act.put, List.setIfInBounds_toArray, List.set_cons_zero, List.set_cons_succ]
        refine wpAnyH_take (i := 17) (oi := ⟨some 86, _, _, _, _, _⟩) (v := ?_) rfl (by kernel_rfl) (by kernel_rfl) (by kernel_rfl) (fun _ _ _ h => h) (Or.inl ⟨by rfl, ?_⟩) (by assumption) ?_
        rotate_left
        · (intro w hSw; (try dsimp only at hSw); go_simp; try with_reducible rfl)
        try simp only [Act.put, List.setIfInBounds_toArray, List.set_cons_zero, List.set_cons_succ]
        refine wpAnyH_take (i := 18) (oi := ⟨some 87, _, _, _, _, _⟩) (v := ?_) rfl (by kernel_rfl) (by kernel_rfl) (by kernel_rfl) (fun _ _ _ h => h) (Or.inl ⟨by rfl, ?_⟩) (by assumption) ?_
        rotate_left
        · (intro w hSw; (try dsimp only at hSw); go_simp; try with_reducible rfl)
        try simp only [Act.put, List.setIfInBounds_toArray, List.set_cons_zero, List.set_cons_succ]
        refine wpAnyH_take (i := 19) (oi := ⟨some 88, _, _, _, _, _⟩) (v := ?_) rfl (by kernel_rfl) (by kernel_rfl) (by kernel_rfl) (fun _ _ _ h => h) (Or.inl ⟨by rfl, ?_⟩) (by assumption) ?_
        rotate_left
        · (intro w hSw; (try dsimp only at hSw); go_simp; try with_reducible rfl)
        try simp only [Act.put, List.setIfInBounds_toArray, List.set_cons_zero, List.set_cons_succ]
        refine wpAnyH_take (i := 20) (oi := ⟨some 89, _, _, _, _, _⟩) (v := ?_) rfl (by kernel_rfl) (by kernel_rfl) (by kernel_rfl) (fun _ _ _ h => h) (Or.inl ⟨by rfl, ?_⟩) (by assumption) ?_
        rotate_left
        · (intro w hSw; (try dsimp only at hSw); go_simp; try with_reducible rfl)
        try simp only [Act.put, List.setIfInBounds_toArray, List.set_cons_zero, List.set_cons_succ]
        refine wpAnyH_take (i := 21) (oi := ⟨some 90, _, _, _, _, _⟩) (v := undef) rfl (by kernel_rfl) (by kernel_rfl) (by kernel_rfl) (fun _ _ _ h => h) (Or.inr ⟨by rfl, rfl⟩) (by assumption) ?_
        try simp only [Act.put, List.setIfInBounds_toArray, List.set_cons_zero, List.set_cons_succ]
        refine wpAnyH_take (i := 22) (oi := ⟨some 91, _, _, _, _, _⟩) (v := undef) rfl (by kernel_rfl) (by kernel_rfl) (by kernel_rfl) (fun _ _ _ h => h) (Or.inr ⟨by rfl, rfl⟩) (by assumption) ?_
        try simp only [Act.put, List.setIfInBounds_toArray, List.set_cons_zero, List.set_cons_succ]
        refine wpAnyH_take (i := 23) (oi := ⟨some 92, _, _, _, _, _⟩) (v := ?_) rfl (by kernel_rfl) (by kernel_rfl) (by kernel_rfl) (fun _ _ _ h => h) (Or.inl ⟨by rfl, ?_⟩) (by assumption) ?_
        rotate_left
        · (intro w hSw; (try dsimp only at hSw); go_simp; try with_reducible rfl)
        try simp only [Act.put, List.setIfInBounds_toArray, List.set_cons_zero, List.set_cons_succ]
        refine wpAnyH_take (i := 24) (oi := ⟨some 93, _, _, _, _, _⟩) (v := ?_) rfl (by kernel_rfl) (by kernel_rfl) (by kernel_rfl) (fun _ _ _ h => h) (Or.inl ⟨by rfl, ?_⟩) (by assumption) ?_
        rotate_left
        · (intro w hSw; (try dsimp only at hSw); go_simp; try with_reducible rfl)
        try simp only [Act.put, List.setIfInBounds_toArray, List.set_cons_zero, List.set_cons_succ]
        refine wpAnyH_take (i := 25) (oi := ⟨some 94, _, _, _, _, _⟩) (v := undef) rfl (by kernel_rfl) (by kernel_rfl) (by kernel_rfl) (fun _ _ _ h => h) (Or.inr ⟨by rfl, rfl⟩) (by assumption) ?_
        try simp only [Act.put, List.setIfInBounds_toArray, List.set_cons_zero, List.set_cons_succ]
        refine wpAnyH_take (i := 26) (oi := ⟨some 95, _, _, _, _, _⟩) (v := undef) rfl (by kernel_rfl) (by kernel_rfl) (by kernel_rfl) (fun _ _ _ h => h) (Or.inr ⟨by rfl, rfl⟩) (by assumption) ?_
        try simp only [Act.put, List.setIfInBounds_toArray, List.set_cons_zero, List.set_cons_succ]
        refine wpAnyH_take (i := 27) (oi := ⟨some 96, _, _, _, _, _⟩) (v := undef) rfl (by kernel_rfl) (by kernel_rfl) (by kernel_rfl) (fun _ _ _ h => h) (Or.inr ⟨by rfl, rfl⟩) (by assumption) ?_
        try simp only [Act.put, List.setIfInBounds_toArray, List.set_cons_zero, List.set_cons_succ]
        refine wpAnyH_take (i := 28) (oi := ⟨some 97, _, _, _, _, _⟩) (v := undef) rfl (by kernel_rfl) (by kernel_rfl) (by kernel_rfl) (fun _ _ _ h => h) (Or.inr ⟨by rfl, rfl⟩) (by assumption) ?_
        try simp only [Act.put, List.setIfInBounds_toArray, List.set_cons_zero, List.set_cons_succ]
        refine wpAnyH_take (i := 29) (oi := ⟨some 98, _, _, _, _, _⟩) (v := ?_) rfl (by kernel_rfl) (by kernel_rfl) (by kernel_rfl) (fun _ _ _ h => h) (Or.inl ⟨by rfl, ?_⟩) (by assumption) ?_
        rotate_left
        · (intro w hSw; (try dsimp only at hSw); go_simp; try with_reducible rfl)
        try simp only [Act.put, List.setIfInBounds_toArray, List.set_cons_zero, List.set_cons_succ]
        refine wpAnyH_take (i := 30) (oi := ⟨some 99, _, _, _, _, _⟩) (v := ?_) rfl (by kernel_rfl) (by kernel_rfl) (by kernel_rfl) (fun _ _ _ h => h) (Or.inl ⟨by rfl, ?_⟩) (by assumption) ?_
        rotate_left
        · (intro w hSw; (try dsimp only at hSw); go_simp; try with_reducible rfl)
        try simp only [Act.put, List.setIfInBounds_toArray, List.set_cons_zero, List.set_cons_succ]
        refine wpAnyH_take (i := 31) (oi := ⟨some 100, _, _, _, _, _⟩) (v := undef) rfl (by kernel_rfl) (by kernel_rfl) (by kernel_rfl) (fun _ _ _ h => h) (Or.inr ⟨by rfl, rfl⟩) (by assumption) ?_
        try simp only [Act.put, List.setIfInBounds_toArray, List.set_cons_zero, List.set_cons_succ]
        refine wpAnyH_take (i := 32) (oi := ⟨some 101, _, _, _, _, _⟩) (v := undef) rfl (by kernel_rfl) (by kernel_rfl) (by kernel_rfl) (fun _ _ _ h => h) (Or.inr ⟨by rfl, rfl⟩) (by assumption) ?_
        try simp only [Act.put, List.setIfInBounds_toArray, List.set_cons_zero, List.set_cons_succ]
        refine wpAnyH_take (i := 33) (oi := ⟨some 102, _, _, _, _, _⟩) (v := ?_) rfl (by kernel_rfl) (by kernel_rfl) (by kernel_rfl) (fun _ _ _ h => h) (Or.inl ⟨by rfl, ?_⟩) (by assumption) ?_
        rotate_left
        · (intro w hSw; (try dsimp only at hSw); go_simp; try with_reducible rfl)
        try simp only [Act.put, List.setIfInBounds_toArray, List.set_cons_zero, List.set_cons_succ]
        refine wpAnyH_ready (rs := [34]) (by kernel_rfl) (by simp) (AllReadyH.cons (o := ⟨none, _, _, _, _, _⟩) rfl (fun K hK => ?_) AllReadyH.nil)
        go_simp
        refine hK.out _ _ ?_ (fun hHeld => ?_)
        · (try dsimp only); (simp only [World.drew_is_drewN, World.cell?_drewN, World.cell?_setCell_far, ne_eq, hbA, hbB, not_false_eq_true]; exact ⟨⟨i0, i1, i2, i3, i4, i5, i6, i7, i8, i9, i10, i11⟩, e0, e1, e2, e3, e4, e5, e6, e7⟩)
        clear hK K
        try simp only [Act.put, List.setIfInBounds_toArray, List.set_cons_zero, List.set_cons_succ]
        refine wpAnyH_take (i := 35) (oi := ⟨some 3, _, _, _, _, _⟩) (v := ?_) rfl (by kernel_rfl) (by kernel_rfl) (by kernel_rfl) (fun _ _ _ h => h) (Or.inl ⟨by rfl, ?_⟩) (by assumption) ?_
        rotate_left
        · (intro w hSw; (try dsimp only at hSw); go_simp; try with_reducible rfl)
        try simp only [Act.put, List.setIfInBounds_toArray, List.set_cons_zero, List.set_cons_succ]
        refine wpAnyH_take (i := 36) (oi := ⟨some 4, _, _, _, _, _⟩) (v := ?_) rfl (by kernel_rfl) (by kernel_rfl) (by kernel_rfl) (fun _ _ _ h => h) (Or.inl ⟨by rfl, ?_⟩) (by assumption) ?_
        rotate_left
        · (intro w hSw; (try dsimp only at hSw); go_simp; try with_reducible rfl)
        try simp only [Act.put, List.setIfInBounds_toArray, List.set_cons_zero, List.set_cons_succ]
        refine wpAnyH_done (by kernel_rfl) ?_ _
        go_wp2_with fail
        generalize hWf : World.setCell _ _ _ = Wf
        obtain ⟨hrow, hOf⟩ := end12' RI5.out hWf
        obtain ⟨⟨t0, t1, t2, t3, t4, t5⟩, ⟨t6, t7, t8, t9, t10, t11⟩⟩ := cells12 hrow
        refine bodyPost_ret (v := .tuple #[infoV (8 * x0) (8 * x1) x2 ⟨x4, x5, x6, g1, x7, g2, g3, g4⟩ (.slice none 0 0), .int .i64 x3, .bool false]) (by simp [results, Tryz.results41, go_sem, t0, t1, t2, t3, t4, t5, t6, t7, t8, t9, t10, t11, infoV]) rfl (HPost.out _ _ ?_)
        exact ⟨(HO5.out.tail1 hOf (by omega)).drew, .inr ⟨fun h => (fun h => by have := h.2.2.2.1; omega) (HIff.out.1 h), 8 * x0, 8 * x1, x2, ⟨x4, x5, x6, g1, x7, g2, g3, g4⟩, x3, rfl⟩⟩
        -- S>
      · -- W4
        -- <S
        have hneg : ¬ 1 ≤ x3 := by omega
        have hnegb : decide (1 ≤ x3) = false := by simpa using hneg
        refine wp_region_held_drew (S := (fun w' => (w'.cell? ⟨W4.heap.size, 0, none⟩ = some (.int .i64 (8 * x0)) ∧ w'.cell? ⟨W4.heap.size, 1, none⟩ = some (.int .i64 (8 * x1)) ∧ w'.cell? ⟨W4.heap.size, 2, none⟩ = some (.int .i64 x2) ∧ w'.cell? ⟨W4.heap.size, 3, none⟩ = some (.int .i64 x4) ∧ w'.cell? ⟨W4.heap.size, 4, none⟩ = some (.int .i64 x5) ∧ w'.cell? ⟨W4.heap.size, 5, none⟩ = some (.int .i64 x6) ∧ w'.cell? ⟨W4.heap.size, 6, none⟩ = some (.int .i64 g1) ∧ w'.cell? ⟨W4.heap.size, 7, none⟩ = some (.int .i64 x7) ∧ w'.cell? ⟨W4.heap.size, 8, none⟩ = some (.int .i64 g2) ∧ w'.cell? ⟨W4.heap.size, 9, none⟩ = some (.int .i64 g3) ∧ w'.cell? ⟨W4.heap.size, 10, none⟩ = some (.int .i64 g4) ∧ w'.cell? ⟨W4.heap.size, 11, none⟩ = some (.slice none 0 0)) ∧ (w'.cell? ⟨W3.heap.size, 0, none⟩ = some (.int .i64 x4) ∧ w'.cell? ⟨W3.heap.size, 1, none⟩ = some (.int .i64 x5) ∧ w'.cell? ⟨W3.heap.size, 2, none⟩ = some (.int .i64 x6) ∧ w'.cell? ⟨W3.heap.size, 3, none⟩ = some (.int .i64 g1) ∧ w'.cell? ⟨W3.heap.size, 4, none⟩ = some (.int .i64 x7) ∧ w'.cell? ⟨W3.heap.size, 5, none⟩ = some (.int .i64 g2) ∧ w'.cell? ⟨W3.heap.size, 6, none⟩ = some (.int .i64 g3) ∧ w'.cell? ⟨W3.heap.size, 7, none⟩ = some (.int .i64 g4)))) (by kernel_rfl) ?_ (fun hHeld => ?_)
        · first | (simp [*, World.cell?_alloc_some, World.cell?_setCell_far, frozen?_alloc_cells, frozen_drew, World.frozen?_setCell]) | fail
        refine wpAnyH_take (i := 0) (oi := ⟨some 69, _, _, _, _, _⟩) (v := ?_) rfl (by kernel_rfl) (by kernel_rfl) (by kernel_rfl) (fun _ _ _ h => h) (Or.inl ⟨by rfl, ?_⟩) (by assumption) ?_
        rotate_left
        · (intro w hSw; (try dsimp only at hSw); go_simp; try with_reducible rfl)
        try simp only [Act.put, List.setIfInBounds_toArray, List.set_cons_zero, List.set_cons_succ]
        refine wpAnyH_take (i := 1) (oi := ⟨some 70, _, _, _, _, _⟩) (v := ?_) rfl (by kernel_rfl) (by kernel_rfl) (by kernel_rfl) (fun _ _ _ h => h) (Or.inl ⟨by rfl, ?_⟩) (by assumption) ?_
        rotate_left
        · (intro w hSw; (try dsimp only at hSw); go_simp; try with_reducible rfl)
        try simp only [Act.put, List.setIfInBounds_toArray, List.set_cons_zero, List.set_cons_succ]
        refine wpAnyH_take (i := 2) (oi := ⟨some 71, _, _, _, _, _⟩) (v := ?_) rfl (by kernel_rfl) (by kernel_rfl) (by kernel_rfl) (fun _ _ _ h => h) (Or.inl ⟨by rfl, ?_⟩) (by assumption) ?_
        rotate_left
        · (intro w hSw; (try dsimp only at hSw); go_simp; try with_reducible rfl)
        try simp only [Act.put, List.setIfInBounds_toArray, List.set_cons_zero, List.set_cons_succ]
        refine wpAnyH_take (i := 3) (oi := ⟨some 72, _, _, _, _, _⟩) (v := ?_) rfl (by kernel_rfl) (by kernel_rfl) (by kernel_rfl) (fun _ _ _ h => h) (Or.inl ⟨by rfl, ?_⟩) (by assumption) ?_
        rotate_left
        · (intro w hSw; (try dsimp only at hSw); go_simp; try with_reducible rfl)
        try simp only [Act.put, List.setIfInBounds_toArray, List.set_cons_zero, List.set_cons_succ]
        refine wpAnyH_ready (rs := [4]) (by kernel_rfl) (by simp) (AllReadyH.cons (o := ⟨some 73, _, _, _, _, _⟩) rfl (fun K hK => ?_) AllReadyH.nil)
        go_simp
        (go_at_call 67; refine (kside_any _ _).mono ?_; rintro e w' ⟨rfl, rfl⟩; rw [hsW])
        refine hK.out _ _ ?_ (fun hHeld => ?_)
        · (try dsimp only); assumption
        clear hK K
        try simp only [Act.put, List.setIfInBounds_toArray, List.set_cons_zero, List.set_cons_succ]
        refine wpAnyH_take (i := 5) (oi := ⟨some 74, _, _, _, _, _⟩) (v := ?_) rfl (by kernel_rfl) (by kernel_rfl) (by kernel_rfl) (fun _ _ _ h => h) (Or.inl ⟨by rfl, ?_⟩) (by assumption) ?_
        rotate_left
        · (intro w hSw; (try dsimp only at hSw); go_simp; try with_reducible rfl)
        try simp only [Act.put, List.setIfInBounds_toArray, List.set_cons_zero, List.set_cons_succ]
        refine wpAnyH_take (i := 6) (oi := ⟨some 75, _, _, _, _, _⟩) (v := ?_) rfl (by kernel_rfl) (by kernel_rfl) (by kernel_rfl) (fun _ _ _ h => h) (Or.inl ⟨by rfl, ?_⟩) (by assumption) ?_
        rotate_left
        · (intro w hSw; (try dsimp only at hSw); go_simp; try with_reducible rfl)
        try simp only [Act.put, List.setIfInBounds_toArray, List.set_cons_zero, List.set_cons_succ]
        refine wpAnyH_take (i := 7) (oi := ⟨some 76, _, _, _, _, _⟩) (v := ?_) rfl (by kernel_rfl) (by kernel_rfl) (by kernel_rfl) (fun _ _ _ h => h) (Or.inl ⟨by rfl, ?_⟩) (by assumption) ?_
        rotate_left
        · (intro w hSw; (try dsimp only at hSw); go_simp; try with_reducible rfl)
        try simp only [Act.put, List.setIfInBounds_toArray, List.set_cons_zero, List.set_cons_succ]
        refine wpAnyH_ready (rs := [8]) (by kernel_rfl) (by simp) (AllReadyH.cons (o := ⟨some 77, _, _, _, _, _⟩) rfl (fun K hK => ?_) AllReadyH.nil)
        go_simp
        (go_at_call 67; refine (kside_any _ _).mono ?_; rintro e w' ⟨rfl, rfl⟩; rw [hsH])
        refine hK.out _ _ ?_ (fun hHeld => ?_)
        · (try dsimp only); assumption
        clear hK K
        try simp only [Act.put, List.setIfInBounds_toArray, List.set_cons_zero, List.set_cons_succ]
        refine wpAnyH_take (i := 9) (oi := ⟨some 78, _, _, _, _, _⟩) (v := ?_) rfl (by kernel_rfl) (by kernel_rfl) (by kernel_rfl) (fun _ _ _ h => h) (Or.inl ⟨by rfl, ?_⟩) (by assumption) ?_
        rotate_left
        · (intro w hSw; (try dsimp only at hSw); go_simp; try with_reducible rfl)
        try simp only [Act.put, List.setIfInBounds_toArray, List.set_cons_zero, List.set_cons_succ]
        refine wpAnyH_take (i := 10) (oi := ⟨some 79, _, _, _, _, _⟩) (v := ?_) rfl (by kernel_rfl) (by kernel_rfl) (by kernel_rfl) (fun _ _ _ h => h) (Or.inl ⟨by rfl, ?_⟩) (by assumption) ?_
        rotate_left
        · (intro w hSw; (try dsimp only at hSw); go_simp; try with_reducible rfl)
        try simp only [Act.put, List.setIfInBounds_toArray, List.set_cons_zero, List.set_cons_succ]
        refine wpAnyH_take (i := 11) (oi := ⟨some 80, _, _, _, _, _⟩) (v := ?_) rfl (by kernel_rfl) (by kernel_rfl) (by kernel_rfl) (fun _ _ _ h => h) (Or.inl ⟨by rfl, ?_⟩) (by assumption) ?_
        rotate_left
        · (intro w hSw; (try dsimp only at hSw); go_simp; try with_reducible rfl)
        try simp only [Act.put, List.setIfInBounds_toArray, List.set_cons_zero, List.set_cons_succ]
        refine wpAnyH_take (i := 12) (oi := ⟨some 81, _, _, _, _, _⟩) (v := ?_) rfl (by kernel_rfl) (by kernel_rfl) (by kernel_rfl) (fun _ _ _ h => h) (Or.inl ⟨by rfl, ?_⟩) (by assumption) ?_
        rotate_left
        · (intro w hSw; (try dsimp only at hSw); go_simp; try with_reducible rfl)
        try simp only [Act.put, List.setIfInBounds_toArray, List.set_cons_zero, List.set_cons_succ]
        refine wpAnyH_take (i := 13) (oi := ⟨some 82, _, _, _, _, _⟩) (v := ?_) rfl (by kernel_rfl) (by kernel_rfl) (by kernel_rfl) (fun _ _ _ h => h) (Or.inl ⟨by rfl, ?_⟩) (by assumption) ?_
        rotate_left
        · (intro w hSw; (try dsimp only at hSw); go_simp; try with_reducible rfl)
        try simp only [Act.put, List.setIfInBounds_toArray, List.set_cons_zero, List.set_cons_succ]
        refine wpAnyH_take (i := 14) (oi := ⟨some 83, _, _, _, _, _⟩) (v := ?_) rfl (by kernel_rfl) (by kernel_rfl) (by kernel_rfl) (fun _ _ _ h => h) (Or.inl ⟨by rfl, ?_⟩) (by assumption) ?_
        rotate_left
        · (intro w hSw; (try dsimp only at hSw); go_simp; try with_reducible rfl)
        try simp only [Act.put, List.setIfInBounds_toArray, List.set_cons_zero, List.set_cons_succ]
        refine wpAnyH_take (i := 15) (oi := ⟨some 84, _, _, _, _, _⟩) (v := ?_) rfl (by kernel_rfl) (by kernel_rfl) (by kernel_rfl) (fun _ _ _ h => h) (Or.inl ⟨by rfl, ?_⟩) (by assumption) ?_
        rotate_left
        · (intro w hSw; (try dsimp only at hSw); go_simp; try with_reducible rfl)
        try simp only [Act.put, List.setIfInBounds_toArray, List.set_cons_zero, List.set_cons_succ]
        refine wpAnyH_take (i := 16) (oi := ⟨some 85, _, _, _, _, _⟩) (v := ?_) rfl (by kernel_rfl) (by kernel_rfl) (by kernel_rfl) (fun _ _ _ h => h) (Or.inl ⟨by rfl, ?_⟩) (by assumption) ?_
        rotate_left
        · (intro w hSw; (try dsimp only at hSw); go_simp; try with_reducible rfl)
        try simp only [Act.put, List.setIfInBounds_toArray, List.set_cons_zero, List.set_cons_succ]
        refine wpAnyH_take (i := 17) (oi := ⟨some 86, _, _, _, _, _⟩) (v := ?_) rfl (by kernel_rfl) (by kernel_rfl) (by kernel_rfl) (fun _ _ _ h => h) (Or.inl ⟨by rfl, ?_⟩) (by assumption) ?_
        rotate_left
        · (intro w hSw; (try dsimp only at hSw); go_simp; try with_reducible rfl)
        try simp only [Act.put, List.setIfInBounds_toArray, List.set_cons_zero, List.set_cons_succ]
        refine wpAnyH_take (i := 18) (oi := ⟨some 87, _, _, _, _, _⟩) (v := ?_) rfl (by kernel_rfl) (by kernel_rfl) (by kernel_rfl) (fun _ _ _ h => h) (Or.inl ⟨by rfl, ?_⟩) (by assumption) ?_
        rotate_left
        · (intro w hSw; (try dsimp only at hSw); go_simp; try with_reducible rfl)
        try simp only [Act.put, List.setIfInBounds_toArray, List.set_cons_zero, List.set_cons_succ]
        refine wpAnyH_take (i := 19) (oi := ⟨some 88, _, _, _, _, _⟩) (v := ?_) rfl (by kernel_rfl) (by kernel_rfl) (by kernel_rfl) (fun _ _ _ h => h) (Or.inl ⟨by rfl, ?_⟩) (by assumption) ?_
        rotate_left
        · (intro w hSw; (try dsimp only at hSw); go_simp; try with_reducible rfl)
        try simp only [Act.put, List.setIfInBounds_toArray, List.set_cons_zero, List.set_cons_succ]
        refine wpAnyH_take (i := 20) (oi := ⟨some 89, _, _, _, _, _⟩) (v := ?_) rfl (by kernel_rfl) (by kernel_rfl) (by kernel_rfl) (fun _ _ _ h => h) (Or.inl ⟨by rfl, ?_⟩) (by assumption) ?_
        rotate_left
        · (intro w hSw; (try dsimp only at hSw); go_simp; try with_reducible rfl)
        try simp only [Act.put, List.setIfInBounds_toArray, List.set_cons_zero, List.set_cons_succ]
        refine wpAnyH_take (i := 21) (oi := ⟨some 90, _, _, _, _, _⟩) (v := ?_) rfl (by kernel_rfl) (by kernel_rfl) (by kernel_rfl) (fun _ _ _ h => h) (Or.inl ⟨by rfl, ?_⟩) (by assumption) ?_
        rotate_left
        · (intro w hSw; (try dsimp only at hSw); go_simp; try with_reducible rfl)
        try simp only [Act.put, List.setIfInBounds_toArray, List.set_cons_zero, List.set_cons_succ]
        refine wpAnyH_take (i := 22) (oi := ⟨some 91, _, _, _, _, _⟩) (v := ?_) rfl (by kernel_rfl) (by kernel_rfl) (by kernel_rfl) (fun _ _ _ h => h) (Or.inl ⟨by rfl, ?_⟩) (by assumption) ?_
        rotate_left
        · (intro w hSw; (try dsimp only at hSw); go_simp; try with_reducible rfl)
        try simp only [Act.put, List.setIfInBounds_toArray, List.set_cons_zero, List.set_cons_succ]
        refine wpAnyH_take (i := 23) (oi := ⟨some 92, _, _, _, _, _⟩) (v := ?_) rfl (by kernel_rfl) (by kernel_rfl) (by kernel_rfl) (fun _ _ _ h => h) (Or.inl ⟨by rfl, ?_⟩) (by assumption) ?_
        rotate_left
        · (intro w hSw; (try dsimp only at hSw); go_simp; try with_reducible rfl)
        try simp only [Act.put, List.setIfInBounds_toArray, List.set_cons_zero, List.set_cons_succ]
        refine wpAnyH_take (i := 24) (oi := ⟨some 93, _, _, _, _, _⟩) (v := ?_) rfl (by kernel_rfl) (by kernel_rfl) (by kernel_rfl) (fun _ _ _ h => h) (Or.inl ⟨by rfl, ?_⟩) (by assumption) ?_
        rotate_left
        · (intro w hSw; (try dsimp only at hSw); go_simp; try with_reducible rfl)
        try simp only [Act.put, List.setIfInBounds_toArray, List.set_cons_zero, List.set_cons_succ]
        refine wpAnyH_take (i := 25) (oi := ⟨some 94, _, _, _, _, _⟩) (v := undef) rfl (by kernel_rfl) (by kernel_rfl) (by kernel_rfl) (fun _ _ _ h => h) (Or.inr ⟨by rfl, rfl⟩) (by assumption) ?_
        try simp only [Act.put, List.setIfInBounds_toArray, List.set_cons_zero, List.set_cons_succ]
        refine wpAnyH_take (i := 26) (oi := ⟨some 95, _, _, _, _, _⟩) (v := undef) rfl (by kernel_rfl) (by kernel_rfl) (by kernel_rfl) (fun _ _ _ h => h) (Or.inr ⟨by rfl, rfl⟩) (by assumption) ?_
        try simp only [Act.put, List.setIfInBounds_toArray, List.set_cons_zero, List.set_cons_succ]
        refine wpAnyH_take (i := 27) (oi := ⟨some 96, _, _, _, _, _⟩) (v := undef) rfl (by kernel_rfl) (by kernel_rfl) (by kernel_rfl) (fun _ _ _ h => h) (Or.inr ⟨by rfl, rfl⟩) (by assumption) ?_
        try simp only [Act.put, List.setIfInBounds_toArray, List.set_cons_zero, List.set_cons_succ]
        refine wpAnyH_take (i := 28) (oi := ⟨some 97, _, _, _, _, _⟩) (v := undef) rfl (by kernel_rfl) (by kernel_rfl) (by kernel_rfl) (fun _ _ _ h => h) (Or.inr ⟨by rfl, rfl⟩) (by assumption) ?_
        try simp only [Act.put, List.setIfInBounds_toArray, List.set_cons_zero, List.set_cons_succ]
        refine wpAnyH_take (i := 29) (oi := ⟨some 98, _, _, _, _, _⟩) (v := ?_) rfl (by kernel_rfl) (by kernel_rfl) (by kernel_rfl) (fun _ _ _ h => h) (Or.inl ⟨by rfl, ?_⟩) (by assumption) ?_
        rotate_left
        · (intro w hSw; (try dsimp only at hSw); go_simp; try with_reducible rfl)
        try simp only [Act.put, List.setIfInBounds_toArray, List.set_cons_zero, List.set_cons_succ]
        refine wpAnyH_take (i := 30) (oi := ⟨some 99, _, _, _, _, _⟩) (v := ?_) rfl (by kernel_rfl) (by kernel_rfl) (by kernel_rfl) (fun _ _ _ h => h) (Or.inl ⟨by rfl, ?_⟩) (by assumption) ?_
        rotate_left
        · (intro w hSw; (try dsimp only at hSw); go_simp; try with_reducible rfl)
        try simp only [Act.put, List.setIfInBounds_toArray, List.set_cons_zero, List.set_cons_succ]
        refine wpAnyH_take (i := 31) (oi := ⟨some 100, _, _, _, _, _⟩) (v := undef) rfl (by kernel_rfl) (by kernel_rfl) (by kernel_rfl) (fun _ _ _ h => h) (Or.inr ⟨by rfl, rfl⟩) (by assumption) ?_
        try simp only [Act.put, List.setIfInBounds_toArray, List.set_cons_zero, List.set_cons_succ]
        refine wpAnyH_take (i := 32) (oi := ⟨some 101, _, _, _, _, _⟩) (v := undef) rfl (by kernel_rfl) (by kernel_rfl) (by kernel_rfl) (fun _ _ _ h => h) (Or.inr ⟨by rfl, rfl⟩) (by assumption) ?_
        try simp only [Act.put, List.setIfInBounds_toArray, List.set_cons_zero, List.set_cons_succ]
        refine wpAnyH_take (i := 33) (oi := ⟨some 102, _, _, _, _, _⟩) (v := ?_) rfl (by kernel_rfl) (by kernel_rfl) (by kernel_rfl) (fun _ _ _ h => h) (Or.inl ⟨by rfl, ?_⟩) (by assumption) ?_
        rotate_left
        · (intro w hSw; (try dsimp only at hSw); go_simp; try with_reducible rfl)
        try simp only [Act.put, List.setIfInBounds_toArray, List.set_cons_zero, List.set_cons_succ]
        refine wpAnyH_ready (rs := [34]) (by kernel_rfl) (by simp) (AllReadyH.cons (o := ⟨none, _, _, _, _, _⟩) rfl (fun K hK => ?_) AllReadyH.nil)
        go_simp
        refine hK.out _ _ ?_ (fun hHeld => ?_)
        · (try dsimp only); (simp only [World.drew_is_drewN, World.cell?_drewN, World.cell?_setCell_far, ne_eq, hbA, hbB, not_false_eq_true]; exact ⟨⟨i0, i1, i2, i3, i4, i5, i6, i7, i8, i9, i10, i11⟩, e0, e1, e2, e3, e4, e5, e6, e7⟩)
        clear hK K
        try simp only [Act.put, List.setIfInBounds_toArray, List.set_cons_zero, List.set_cons_succ]
        refine wpAnyH_take (i := 35) (oi := ⟨some 3, _, _, _, _, _⟩) (v := ?_) rfl (by kernel_rfl) (by kernel_rfl) (by kernel_rfl) (fun _ _ _ h => h) (Or.inl ⟨by rfl, ?_⟩) (by assumption) ?_
        rotate_left
        · (intro w hSw; (try dsimp only at hSw); go_simp; try with_reducible rfl)
        try simp only [Act.put, List.setIfInBounds_toArray, List.set_cons_zero, List.set_cons_succ]
        refine wpAnyH_take (i := 36) (oi := ⟨some 4, _, _, _, _, _⟩) (v := ?_) rfl (by kernel_rfl) (by kernel_rfl) (by kernel_rfl) (fun _ _ _ h => h) (Or.inl ⟨by rfl, ?_⟩) (by assumption) ?_
        rotate_left
        · (intro w hSw; (try dsimp only at hSw); go_simp; try with_reducible rfl)
        try simp only [Act.put, List.setIfInBounds_toArray, List.set_cons_zero, List.set_cons_succ]
        refine wpAnyH_done (by kernel_rfl) ?_ _
        go_wp2_with fail
        generalize hWf : World.setCell _ _ _ = Wf
        obtain ⟨hrow, hOf⟩ := end12' RI5.out hWf
        obtain ⟨⟨t0, t1, t2, t3, t4, t5⟩, ⟨t6, t7, t8, t9, t10, t11⟩⟩ := cells12 hrow
        refine bodyPost_ret (v := .tuple #[infoV (8 * x0) (8 * x1) x2 ⟨x4, x5, x6, g1, x7, g2, g3, g4⟩ (.slice none 0 0), .int .i64 x3, .bool false]) (by simp [results, Tryz.results41, go_sem, t0, t1, t2, t3, t4, t5, t6, t7, t8, t9, t10, t11, infoV]) rfl (HPost.out _ _ ?_)
        exact ⟨(HO5.out.tail1 hOf (by omega)).drew, .inr ⟨fun h => (fun h => by have := h.2.2.2.2.1; omega) (HIff.out.1 h), 8 * x0, 8 * x1, x2, ⟨x4, x5, x6, g1, x7, g2, g3, g4⟩, x3, rfl⟩⟩
        -- S>
      · -- W5
        -- <S
        have hneg : ¬ x3 ≤ x2 := by omega
        have hnegb : decide (x3 ≤ x2) = false := by simpa using hneg
        refine wp_region_held_drew (S := (fun w' => (w'.cell? ⟨W4.heap.size, 0, none⟩ = some (.int .i64 (8 * x0)) ∧ w'.cell? ⟨W4.heap.size, 1, none⟩ = some (.int .i64 (8 * x1)) ∧ w'.cell? ⟨W4.heap.size, 2, none⟩ = some (.int .i64 x2) ∧ w'.cell? ⟨W4.heap.size, 3, none⟩ = some (.int .i64 x4) ∧ w'.cell? ⟨W4.heap.size, 4, none⟩ = some (.int .i64 x5) ∧ w'.cell? ⟨W4.heap.size, 5, none⟩ = some (.int .i64 x6) ∧ w'.cell? ⟨W4.heap.size, 6, none⟩ = some (.int .i64 g1) ∧ w'.cell? ⟨W4.heap.size, 7, none⟩ = some (.int .i64 x7) ∧ w'.cell? ⟨W4.heap.size, 8, none⟩ = some (.int .i64 g2) ∧ w'.cell? ⟨W4.heap.size, 9, none⟩ = some (.int .i64 g3) ∧ w'.cell? ⟨W4.heap.size, 10, none⟩ = some (.int .i64 g4) ∧ w'.cell? ⟨W4.heap.size, 11, none⟩ = some (.slice none 0 0)) ∧ (w'.cell? ⟨W3.heap.size, 0, none⟩ = some (.int .i64 x4) ∧ w'.cell? ⟨W3.heap.size, 1, none⟩ = some (.int .i64 x5) ∧ w'.cell? ⟨W3.heap.size, 2, none⟩ = some (.int .i64 x6) ∧ w'.cell? ⟨W3.heap.size, 3, none⟩ = some (.int .i64 g1) ∧ w'.cell? ⟨W3.heap.size, 4, none⟩ = some (.int .i64 x7) ∧ w'.cell? ⟨W3.heap.size, 5, none⟩ = some (.int .i64 g2) ∧ w'.cell? ⟨W3.heap.size, 6, none⟩ = some (.int .i64 g3) ∧ w'.cell? ⟨W3.heap.size, 7, none⟩ = some (.int .i64 g4)))) (by kernel_rfl) ?_ (fun hHeld => ?_)
        · first | (simp [*, World.cell?_alloc_some, World.cell?_setCell_far, frozen?_alloc_cells, frozen_drew, World.frozen?_setCell]) | fail
        refine wpAnyH_take (i := 0) (oi := ⟨some 69, _, _, _, _, _⟩) (v := ?_) rfl (by kernel_rfl) (by kernel_rfl) (by kernel_rfl) (fun _ _ _ h => h) (Or.inl ⟨by rfl, ?_⟩) (by assumption) ?_
        rotate_left
        · (intro w hSw; (try dsimp only at hSw); go_simp; try with_reducible rfl)
        try simp only [Act.put, List.setIfInBounds_toArray, List.set_cons_zero, List.set_cons_succ]
        refine wpAnyH_take (i := 1) (oi := ⟨some 70, _, _, _, _, _⟩) (v := ?_) rfl (by kernel_rfl) (by kernel_rfl) (by kernel_rfl) (fun _ _ _ h => h) (Or.inl ⟨by rfl, ?_⟩) (by assumption) ?_
        rotate_left
        · (intro w hSw; (try dsimp only at hSw); go_simp; try with_reducible rfl)
        try simp only [Act.put, List.setIfInBounds_toArray, List.set_cons_zero, List.set_cons_succ]
        refine wpAnyH_take (i := 2) (oi := ⟨some 71, _, _, _, _, _⟩) (v := ?_) rfl (by kernel_rfl) (by kernel_rfl) (by kernel_rfl) (fun _ _ _ h => h) (Or.inl ⟨by rfl, ?_⟩) (by assumption) ?_
        rotate_left
        · (intro w hSw; (try dsimp only at hSw); go_simp; try with_reducible rfl)
        try simp only [Act.put, List.setIfInBounds_toArray, List.set_cons_zero, List.set_cons_succ]
        refine wpAnyH_take (i := 3) (oi := ⟨some 72, _, _, _, _, _⟩) (v := ?_) rfl (by kernel_rfl) (by kernel_rfl) (by kernel_rfl) (fun _ _ _ h => h) (Or.inl ⟨by rfl, ?_⟩) (by assumption) ?_
        rotate_left
        · (intro w hSw; (try dsimp only at hSw); go_simp; try with_reducible rfl)
        try simp only [Act.put, List.setIfInBounds_toArray, List.set_cons_zero, List.set_cons_succ]
        refine wpAnyH_ready (rs := [4]) (by kernel_rfl) (by simp) (AllReadyH.cons (o := ⟨some 73, _, _, _, _, _⟩) rfl (fun K hK => ?_) AllReadyH.nil)
        go_simp
        (go_at_call 67; refine (kside_any _ _).mono ?_; rintro e w' ⟨rfl, rfl⟩; rw [hsW])
        refine hK.out _ _ ?_ (fun hHeld => ?_)
        · (try dsimp only); assumption
        clear hK K
        try simp only [Act.put, List.setIfInBounds_toArray, List.set_cons_zero, List.set_cons_succ]
        refine wpAnyH_take (i := 5) (oi := ⟨some 74, _, _, _, _, _⟩) (v := ?_) rfl (by kernel_rfl) (by kernel_rfl) (by kernel_rfl) (fun _ _ _ h => h) (Or.inl ⟨by rfl, ?_⟩) (by assumption) ?_
        rotate_left
        · (intro w hSw; (try dsimp only at hSw); go_simp; try with_reducible rfl)
        try simp only [Act.put, List.setIfInBounds_toArray, List.set_cons_zero, List.set_cons_succ]
        refine wpAnyH_take (i := 6) (oi := ⟨some 75, _, _, _, _, _⟩) (v := ?_) rfl (by kernel_rfl) (by kernel_rfl) (by kernel_rfl) (fun _ _ _ h => h) (Or.inl ⟨by rfl, ?_⟩) (by assumption) ?_
        rotate_left
        · (intro w hSw; (try dsimp only at hSw); go_simp; try with_reducible rfl)
        try simp only [Act.put, List.setIfInBounds_toArray, List.set_cons_zero, List.set_cons_succ]
        refine wpAnyH_take (i := 7) (oi := ⟨some 76, _, _, _, _, _⟩) (v := ?_) rfl (by kernel_rfl) (by kernel_rfl) (by kernel_rfl) (fun _ _ _ h => h) (Or.inl ⟨by rfl, ?_⟩) (by assumption) ?_
        rotate_left
        · (intro w hSw; (try dsimp only at hSw); go_simp; try with_reducible rfl)
        try simp only [Act.put, List.setIfInBounds_toArray, List.set_cons_zero, List.set_cons_succ]
        refine wpAnyH_ready (rs := [8]) (by kernel_rfl) (by simp) (AllReadyH.cons (o := ⟨some 77, _, _, _, _, _⟩) rfl (fun K hK => ?_) AllReadyH.nil)
        go_simp
        (go_at_call 67; refine (kside_any _ _).mono ?_; rintro e w' ⟨rfl, rfl⟩; rw [hsH])
        refine hK.out _ _ ?_ (fun hHeld => ?_)
        · (try dsimp only); assumption
        clear hK K
        try simp only [Act.put, List.setIfInBounds_toArray, List.set_cons_zero, List.set_cons_succ]
        refine wpAnyH_take (i := 9) (oi := ⟨some 78, _, _, _, _, _⟩) (v := ?_) rfl (by kernel_rfl) (by kernel_rfl) (by kernel_rfl) (fun _ _ _ h => h) (Or.inl ⟨by rfl, ?_⟩) (by assumption) ?_
        rotate_left
        · (intro w hSw; (try dsimp only at hSw); go_simp; try with_reducible rfl)
        try simp only [Act.put, List.setIfInBounds_toArray, List.set_cons_zero, List.set_cons_succ]
        refine wpAnyH_take (i := 10) (oi := ⟨some 79, _, _, _, _, _⟩) (v := ?_) rfl (by kernel_rfl) (by kernel_rfl) (by kernel_rfl) (fun _ _ _ h => h) (Or.inl ⟨by rfl, ?_⟩) (by assumption) ?_
        rotate_left
        · (intro w hSw; (try dsimp only at hSw); go_simp; try with_reducible rfl)
        try simp only [Act.put, List.setIfInBounds_toArray, List.set_cons_zero, List.set_cons_succ]
        refine wpAnyH_take (i := 11) (oi := ⟨some 80, _, _, _, _, _⟩) (v := ?_) rfl (by kernel_rfl) (by kernel_rfl) (by kernel_rfl) (fun _ _ _ h => h) (Or.inl ⟨by rfl, ?_⟩) (by assumption) ?_
        rotate_left
        · (intro w hSw; (try dsimp only at hSw); go_simp; try with_reducible rfl)
        try simp only [Act.put, List.setIfInBounds_toArray, List.set_cons_zero, List.set_cons_succ]
        refine wpAnyH_take (i := 12) (oi := ⟨some 81, _, _, _, _, _⟩) (v := ?_) rfl (by kernel_rfl) (by kernel_rfl) (by kernel_rfl) (fun _ _ _ h => h) (Or.inl ⟨by rfl, ?_⟩) (by assumption) ?_
        rotate_left
        · (intro w hSw; (try dsimp only at hSw); go_simp; try with_reducible rfl)
        try simp only [Act.put, List.setIfInBounds_toArray, List.set_cons_zero, List.set_cons_succ]
        refine wpAnyH_take (i := 13) (oi := ⟨some 82, _, _, _, _, _⟩) (v := ?_) rfl (by kernel_rfl) (by kernel_rfl) (by kernel_rfl) (fun _ _ _ h => h) (Or.inl ⟨by rfl, ?_⟩) (by assumption) ?_
        rotate_left
        · (intro w hSw; (try dsimp only at hSw); go_simp; try with_reducible rfl)
        try simp only [Act.put, List.setIfInBounds_toArray, List.set_cons_zero, List.set_cons_succ]
        refine wpAnyH_take (i := 14) (oi := ⟨some 83, _, _, _, _, _⟩) (v := ?_) rfl (by kernel_rfl) (by kernel_rfl) (by kernel_rfl) (fun _ _ _ h => h) (Or.inl ⟨by rfl, ?_⟩) (by assumption) ?_
        rotate_left
        · (intro w hSw; (try dsimp only at hSw); go_simp; try with_reducible rfl)
        try simp only [Act.put, List.setIfInBounds_toArray, List.set_cons_zero, List.set_cons_succ]
        refine wpAnyH_take (i := 15) (oi := ⟨some 84, _, _, _, _, _⟩) (v := ?_) rfl (by kernel_rfl) (by kernel_rfl) (by kernel_rfl) (fun _ _ _ h => h) (Or.inl ⟨by rfl, ?_⟩) (by assumption) ?_
        rotate_left
        · (intro w hSw; (try dsimp only at hSw); go_simp; try with_reducible rfl)
        try simp only [Act.put, List.setIfInBounds_toArray, List.set_cons_zero, List.set_cons_succ]
        refine wpAnyH_take (i := 16) (oi := ⟨some 85, _, _, _, _, _⟩) (v := ?_) rfl (by kernel_rfl) (by kernel_rfl) (by kernel_rfl) (fun _ _ _ h => h) (Or.inl ⟨by rfl, ?_⟩) (by assumption) ?_
        rotate_left
        · (intro w hSw; (try dsimp only at hSw); go_simp; try with_reducible rfl)
        try simp only [Act.put, List.setIfInBounds_toArray, List.set_cons_zero, List.set_cons_succ]
        refine wpAnyH_take (i := 17) (oi := ⟨some 86, _, _, _, _, _⟩) (v := ?_) rfl (by kernel_rfl) (by kernel_rfl) (by kernel_rfl) (fun _ _ _ h => h) (Or.inl ⟨by rfl, ?_⟩) (by assumption) ?_
        rotate_left
        · (intro w hSw; (try dsimp only at hSw); go_simp; try with_reducible rfl)
        try simp only [Act.put, List.setIfInBounds_toArray, List.set_cons_zero, List.set_cons_succ]
        refine wpAnyH_take (i := 18) (oi := ⟨some 87, _, _, _, _, _⟩) (v := ?_) rfl (by kernel_rfl) (by kernel_rfl) (by kernel_rfl) (fun _ _ _ h => h) (Or.inl ⟨by rfl, ?_⟩) (by assumption) ?_
        rotate_left
        · (intro w hSw; (try dsimp only at hSw); go_simp; try with_reducible rfl)
        try simp only [Act.put, List.setIfInBounds_toArray, List.set_cons_zero, List.set_cons_succ]
        refine wpAnyH_take (i := 19) (oi := ⟨some 88, _, _, _, _, _⟩) (v := ?_) rfl (by kernel_rfl) (by kernel_rfl) (by kernel_rfl) (fun _ _ _ h => h) (Or.inl ⟨by rfl, ?_⟩) (by assumption) ?_
        rotate_left
        · (intro w hSw; (try dsimp only at hSw); go_simp; try with_reducible rfl)
        try simp only [Act.put, List.setIfInBounds_toArray, List.set_cons_zero, List.set_cons_succ]
        refine wpAnyH_take (i := 20) (oi := ⟨some 89, _, _, _, _, _⟩) (v := ?_) rfl (by kernel_rfl) (by kernel_rfl) (by kernel_rfl) (fun _ _ _ h => h) (Or.inl ⟨by rfl, ?_⟩) (by assumption) ?_
        rotate_left
        · (intro w hSw; (try dsimp only at hSw); go_simp; try with_reducible rfl)
        try simp only [Act.put, List.setIfInBounds_toArray, List.set_cons_zero, List.set_cons_succ]
        refine wpAnyH_take (i := 21) (oi := ⟨some 90, _, _, _, _, _⟩) (v := ?_) rfl (by kernel_rfl) (by kernel_rfl) (by kernel_rfl) (fun _ _ _ h => h) (Or.inl ⟨by rfl, ?_⟩) (by assumption) ?_
        rotate_left
        · (intro w hSw; (try dsimp only at hSw); go_simp; try with_reducible rfl)
        try simp only [Act.put, List.setIfInBounds_toArray, List.set_cons_zero, List.set_cons_succ]
        refine wpAnyH_take (i := 22) (oi := ⟨some 91, _, _, _, _, _⟩) (v := ?_) rfl (by kernel_rfl) (by kernel_rfl) (by kernel_rfl) (fun _ _ _ h => h) (Or.inl ⟨by rfl, ?_⟩) (by assumption) ?_
        rotate_left
        · (intro w hSw; (try dsimp only at hSw); go_simp; try with_reducible rfl)
        try simp only [Act.put, List.setIfInBounds_toArray, List.set_cons_zero, List.set_cons_succ]
        refine wpAnyH_take (i := 23) (oi := ⟨some 92, _, _, _, _, _⟩) (v := ?_) rfl (by kernel_rfl) (by kernel_rfl) (by kernel_rfl) (fun _ _ _ h => h) (Or.inl ⟨by rfl, ?_⟩) (by assumption) ?_
        rotate_left
        · (intro w hSw; (try dsimp only at hSw); go_simp; try with_reducible rfl)
        try simp only [Act.put, List.setIfInBounds_toArray, List.set_cons_zero, List.set_cons_succ]
        refine wpAnyH_take (i := 24) (oi := ⟨some 93, _, _, _, _, _⟩) (v := ?_) rfl (by kernel_rfl) (by kernel_rfl) (by kernel_rfl) (fun _ _ _ h => h) (Or.inl ⟨by rfl, ?_⟩) (by assumption) ?_
        rotate_left
        · (intro w hSw; (try dsimp only at hSw); go_simp; try with_reducible rfl)
        try simp only [Act.put, List.setIfInBounds_toArray, List.set_cons_zero, List.set_cons_succ]
        refine wpAnyH_take (i := 25) (oi := ⟨some 94, _, _, _, _, _⟩) (v := ?_) rfl (by kernel_rfl) (by kernel_rfl) (by kernel_rfl) (fun _ _ _ h => h) (Or.inl ⟨by rfl, ?_⟩) (by assumption) ?_
        rotate_left
        · (intro w hSw; (try dsimp only at hSw); go_simp; try with_reducible rfl)
        try simp only [Act.put, List.setIfInBounds_toArray, List.set_cons_zero, List.set_cons_succ]
        refine wpAnyH_take (i := 26) (oi := ⟨some 95, _, _, _, _, _⟩) (v := ?_) rfl (by kernel_rfl) (by kernel_rfl) (by kernel_rfl) (fun _ _ _ h => h) (Or.inl ⟨by rfl, ?_⟩) (by assumption) ?_
        rotate_left
        · (intro w hSw; (try dsimp only at hSw); go_simp; try with_reducible rfl)
        try simp only [Act.put, List.setIfInBounds_toArray, List.set_cons_zero, List.set_cons_succ]
        refine wpAnyH_take (i := 27) (oi := ⟨some 96, _, _, _, _, _⟩) (v := ?_) rfl (by kernel_rfl) (by kernel_rfl) (by kernel_rfl) (fun _ _ _ h => h) (Or.inl ⟨by rfl, ?_⟩) (by assumption) ?_
        rotate_left
        · (intro w hSw; (try dsimp only at hSw); go_simp; try with_reducible rfl)
        try simp only [Act.put, List.setIfInBounds_toArray, List.set_cons_zero, List.set_cons_succ]
        refine wpAnyH_take (i := 28) (oi := ⟨some 97, _, _, _, _, _⟩) (v := ?_) rfl (by kernel_rfl) (by kernel_rfl) (by kernel_rfl) (fun _ _ _ h => h) (Or.inl ⟨by rfl, ?_⟩) (by assumption) ?_
        rotate_left
        · (intro w hSw; (try dsimp only at hSw); go_simp; try with_reducible rfl)
        try simp only [Act.put, List.setIfInBounds_toArray, List.set_cons_zero, List.set_cons_succ]
        refine wpAnyH_take (i := 29) (oi := ⟨some 98, _, _, _, _, _⟩) (v := ?_) rfl (by kernel_rfl) (by kernel_rfl) (by kernel_rfl) (fun _ _ _ h => h) (Or.inl ⟨by rfl, ?_⟩) (by assumption) ?_
        rotate_left
        · (intro w hSw; (try dsimp only at hSw); go_simp; try with_reducible rfl)
        try simp only [Act.put, List.setIfInBounds_toArray, List.set_cons_zero, List.set_cons_succ]
        refine wpAnyH_take (i := 30) (oi := ⟨some 99, _, _, _, _, _⟩) (v := ?_) rfl (by kernel_rfl) (by kernel_rfl) (by kernel_rfl) (fun _ _ _ h => h) (Or.inl ⟨by rfl, ?_⟩) (by assumption) ?_
        rotate_left
        · (intro w hSw; (try dsimp only at hSw); go_simp; try with_reducible rfl)
        try simp only [Act.put, List.setIfInBounds_toArray, List.set_cons_zero, List.set_cons_succ]
        refine wpAnyH_take (i := 31) (oi := ⟨some 100, _, _, _, _, _⟩) (v := undef) rfl (by kernel_rfl) (by kernel_rfl) (by kernel_rfl) (fun _ _ _ h => h) (Or.inr ⟨by rfl, rfl⟩) (by assumption) ?_
        try simp only [Act.put, List.setIfInBounds_toArray, List.set_cons_zero, List.set_cons_succ]
        refine wpAnyH_take (i := 32) (oi := ⟨some 101, _, _, _, _, _⟩) (v := undef) rfl (by kernel_rfl) (by kernel_rfl) (by kernel_rfl) (fun _ _ _ h => h) (Or.inr ⟨by rfl, rfl⟩) (by assumption) ?_
        try simp only [Act.put, List.setIfInBounds_toArray, List.set_cons_zero, List.set_cons_succ]
        refine wpAnyH_take (i := 33) (oi := ⟨some 102, _, _, _, _, _⟩) (v := ?_) rfl (by kernel_rfl) (by kernel_rfl) (by kernel_rfl) (fun _ _ _ h => h) (Or.inl ⟨by rfl, ?_⟩) (by assumption) ?_
        rotate_left
        · (intro w hSw; (try dsimp only at hSw); go_simp; try with_reducible rfl)
        try simp only [Act.put, List.setIfInBounds_toArray, List.set_cons_zero, List.set_cons_succ]
        refine wpAnyH_ready (rs := [34]) (by kernel_rfl) (by simp) (AllReadyH.cons (o := ⟨none, _, _, _, _, _⟩) rfl (fun K hK => ?_) AllReadyH.nil)
        go_simp
        refine hK.out _ _ ?_ (fun hHeld => ?_)
        · (try dsimp only); (simp only [World.drew_is_drewN, World.cell?_drewN, World.cell?_setCell_far, ne_eq, hbA, hbB, not_false_eq_true]; exact ⟨⟨i0, i1, i2, i3, i4, i5, i6, i7, i8, i9, i10, i11⟩, e0, e1, e2, e3, e4, e5, e6, e7⟩)
        clear hK K
        try simp only [Act.put, List.setIfInBounds_toArray, List.set_cons_zero, List.set_cons_succ]
        refine wpAnyH_take (i := 35) (oi := ⟨some 3, _, _, _, _, _⟩) (v := ?_) rfl (by kernel_rfl) (by kernel_rfl) (by kernel_rfl) (fun _ _ _ h => h) (Or.inl ⟨by rfl, ?_⟩) (by assumption) ?_
        rotate_left
        · (intro w hSw; (try dsimp only at hSw); go_simp; try with_reducible rfl)
        try simp only [Act.put, List.setIfInBounds_toArray, List.set_cons_zero, List.set_cons_succ]
        refine wpAnyH_take (i := 36) (oi := ⟨some 4, _, _, _, _, _⟩) (v := ?_) rfl (by kernel_rfl) (by kernel_rfl) (by kernel_rfl) (fun _ _ _ h => h) (Or.inl ⟨by rfl, ?_⟩) (by assumption) ?_
        rotate_left
        · (intro w hSw; (try dsimp only at hSw); go_simp; try with_reducible rfl)
        try simp only [Act.put, List.setIfInBounds_toArray, List.set_cons_zero, List.set_cons_succ]
        refine wpAnyH_done (by kernel_rfl) ?_ _
        go_wp2_with fail
        generalize hWf : World.setCell _ _ _ = Wf
        obtain ⟨hrow, hOf⟩ := end12' RI5.out hWf
        obtain ⟨⟨t0, t1, t2, t3, t4, t5⟩, ⟨t6, t7, t8, t9, t10, t11⟩⟩ := cells12 hrow
        refine bodyPost_ret (v := .tuple #[infoV (8 * x0) (8 * x1) x2 ⟨x4, x5, x6, g1, x7, g2, g3, g4⟩ (.slice none 0 0), .int .i64 x3, .bool false]) (by simp [results, Tryz.results41, go_sem, t0, t1, t2, t3, t4, t5, t6, t7, t8, t9, t10, t11, infoV]) rfl (HPost.out _ _ ?_)
        exact ⟨(HO5.out.tail1 hOf (by omega)).drew, .inr ⟨fun h => (fun h => by have := h.2.2.2.2.2.1; omega) (HIff.out.1 h), 8 * x0, 8 * x1, x2, ⟨x4, x5, x6, g1, x7, g2, g3, g4⟩, x3, rfl⟩⟩
        -- S>
      · -- W6
        first | go_region_held3 (fun w' => (w'.cell? ⟨W4.heap.size, 0, none⟩ = some (.int .i64 (8 * x0)) ∧ w'.cell? ⟨W4.heap.size, 1, none⟩ = some (.int .i64 (8 * x1)) ∧ w'.cell? ⟨W4.heap.size, 2, none⟩ = some (.int .i64 x2) ∧ w'.cell? ⟨W4.heap.size, 3, none⟩ = some (.int .i64 x4) ∧ w'.cell? ⟨W4.heap.size, 4, none⟩ = some (.int .i64 x5) ∧ w'.cell? ⟨W4.heap.size, 5, none⟩ = some (.int .i64 x6) ∧ w'.cell? ⟨W4.heap.size, 6, none⟩ = some (.int .i64 g1) ∧ w'.cell? ⟨W4.heap.size, 7, none⟩ = some (.int .i64 x7) ∧ w'.cell? ⟨W4.heap.size, 8, none⟩ = some (.int .i64 g2) ∧ w'.cell? ⟨W4.heap.size, 9, none⟩ = some (.int .i64 g3) ∧ w'.cell? ⟨W4.heap.size, 10, none⟩ = some (.int .i64 g4) ∧ w'.cell? ⟨W4.heap.size, 11, none⟩ = some (.slice none 0 0)) ∧ (w'.cell? ⟨W3.heap.size, 0, none⟩ = some (.int .i64 x4) ∧ w'.cell? ⟨W3.heap.size, 1, none⟩ = some (.int .i64 x5) ∧ w'.cell? ⟨W3.heap.size, 2, none⟩ = some (.int .i64 x6) ∧ w'.cell? ⟨W3.heap.size, 3, none⟩ = some (.int .i64 g1) ∧ w'.cell? ⟨W3.heap.size, 4, none⟩ = some (.int .i64 x7) ∧ w'.cell? ⟨W3.heap.size, 5, none⟩ = some (.int .i64 g2) ∧ w'.cell? ⟨W3.heap.size, 6, none⟩ = some (.int .i64 g3) ∧ w'.cell? ⟨W3.heap.size, 7, none⟩ = some (.int .i64 g4)))
          (first
            | (simp only [World.cell?_setCell_far, ne_eq, hbA, hbB, not_false_eq_true]; assumption)
            | (go_split_ands; refine ⟨⟨hq7.cell (by assumption) (by simp), hq7.cell (by assumption) (by simp), hq7.cell (by assumption) (by simp), hq7.cell (by assumption) (by simp), hq7.cell (by assumption) (by simp), hq7.cell (by assumption) (by simp), hq7.cell (by assumption) (by simp), hq7.cell (by assumption) (by simp), hq7.cell (by assumption) (by simp), hq7.cell (by assumption) (by simp), hq7.cell (by assumption) (by simp), hq7.cell (by assumption) (by simp)⟩, hq7.cell (by assumption) (by simp), hq7.cell (by assumption) (by simp), hq7.cell (by assumption) (by simp), hq7.cell (by assumption) (by simp), hq7.cell (by assumption) (by simp), hq7.cell (by assumption) (by simp), hq7.cell (by assumption) (by simp), hq7.cell (by assumption) (by simp)⟩)
            | (simp [*, World.cell?_alloc_some, World.cell?_setCell_far, frozen?_alloc_cells, frozen_drew, World.frozen?_setCell])
            | fail)
          (first
            | (go_at_call 67; refine (kside_any _ _).mono ?_; rintro e w' ⟨rfl, rfl⟩; first | rw [hsW] | rw [hsH])
            | (go_at_call 68; refine (kmay_any ⟨x4, x5, x6, g1, x7, g2, g3, g4⟩ _).mono ?_; rintro e w7 ⟨rfl, hq7⟩; rw [hmay]; obtain ⟨⟨z0, z1, z2, z3, z4, z5⟩, ⟨z6, z7, z8, z9, z10, z11⟩⟩ := cells12 (hq7.row RI5.out); obtain ⟨⟨k0, k1, k2, k3, k4, k5⟩, ⟨k6, k7, k8, k9, k10, k11⟩⟩ := frz12 (hq7.row RI5.out))
            | fail) | fail
        go_wp2_with fail
        generalize hWf : World.setCell _ _ _ = Wf
        obtain ⟨hrow, hOf⟩ := end12' (hq7.row RI5.out) hWf
        obtain ⟨⟨t0, t1, t2, t3, t4, t5⟩, ⟨t6, t7, t8, t9, t10, t11⟩⟩ := cells12 hrow
        refine bodyPost_ret (v := .tuple #[infoV (8 * x0) (8 * x1) x2 ⟨x4, x5, x6, g1, x7, g2, g3, g4⟩ (.slice none 0 0), .int .i64 x3, .bool false]) (by simp [results, Tryz.results41, go_sem, t0, t1, t2, t3, t4, t5, t6, t7, t8, t9, t10, t11, infoV]) rfl (HPost.out _ _ ?_)
        exact ⟨(HO5.out.drew.q hq7).tail1 hOf (by omega), .inr ⟨fun h => (fun h => by have := h.2.2.2.2.2.2; rw [hmay] at this; cases this) (HIff.out.1 h), 8 * x0, 8 * x1, x2, ⟨x4, x5, x6, g1, x7, g2, g3, g4⟩, x3, rfl⟩⟩
      · -- W7
        first | go_region_held3 (fun w' => (w'.cell? ⟨W4.heap.size, 0, none⟩ = some (.int .i64 (8 * x0)) ∧ w'.cell? ⟨W4.heap.size, 1, none⟩ = some (.int .i64 (8 * x1)) ∧ w'.cell? ⟨W4.heap.size, 2, none⟩ = some (.int .i64 x2) ∧ w'.cell? ⟨W4.heap.size, 3, none⟩ = some (.int .i64 x4) ∧ w'.cell? ⟨W4.heap.size, 4, none⟩ = some (.int .i64 x5) ∧ w'.cell? ⟨W4.heap.size, 5, none⟩ = some (.int .i64 x6) ∧ w'.cell? ⟨W4.heap.size, 6, none⟩ = some (.int .i64 g1) ∧ w'.cell? ⟨W4.heap.size, 7, none⟩ = some (.int .i64 x7) ∧ w'.cell? ⟨W4.heap.size, 8, none⟩ = some (.int .i64 g2) ∧ w'.cell? ⟨W4.heap.size, 9, none⟩ = some (.int .i64 g3) ∧ w'.cell? ⟨W4.heap.size, 10, none⟩ = some (.int .i64 g4) ∧ w'.cell? ⟨W4.heap.size, 11, none⟩ = some (.slice none 0 0)) ∧ (w'.cell? ⟨W3.heap.size, 0, none⟩ = some (.int .i64 x4) ∧ w'.cell? ⟨W3.heap.size, 1, none⟩ = some (.int .i64 x5) ∧ w'.cell? ⟨W3.heap.size, 2, none⟩ = some (.int .i64 x6) ∧ w'.cell? ⟨W3.heap.size, 3, none⟩ = some (.int .i64 g1) ∧ w'.cell? ⟨W3.heap.size, 4, none⟩ = some (.int .i64 x7) ∧ w'.cell? ⟨W3.heap.size, 5, none⟩ = some (.int .i64 g2) ∧ w'.cell? ⟨W3.heap.size, 6, none⟩ = some (.int .i64 g3) ∧ w'.cell? ⟨W3.heap.size, 7, none⟩ = some (.int .i64 g4)))
          (first
            | (simp only [World.cell?_setCell_far, ne_eq, hbA, hbB, not_false_eq_true]; assumption)
            | (go_split_ands; refine ⟨⟨hq7.cell (by assumption) (by simp), hq7.cell (by assumption) (by simp), hq7.cell (by assumption) (by simp), hq7.cell (by assumption) (by simp), hq7.cell (by assumption) (by simp), hq7.cell (by assumption) (by simp), hq7.cell (by assumption) (by simp), hq7.cell (by assumption) (by simp), hq7.cell (by assumption) (by simp), hq7.cell (by assumption) (by simp), hq7.cell (by assumption) (by simp), hq7.cell (by assumption) (by simp)⟩, hq7.cell (by assumption) (by simp), hq7.cell (by assumption) (by simp), hq7.cell (by assumption) (by simp), hq7.cell (by assumption) (by simp), hq7.cell (by assumption) (by simp), hq7.cell (by assumption) (by simp), hq7.cell (by assumption) (by simp), hq7.cell (by assumption) (by simp)⟩)
            | (simp [*, World.cell?_alloc_some, World.cell?_setCell_far, frozen?_alloc_cells, frozen_drew, World.frozen?_setCell])
            | fail)
          (first
            | (go_at_call 67; refine (kside_any _ _).mono ?_; rintro e w' ⟨rfl, rfl⟩; first | rw [hsW] | rw [hsH])
            | (go_at_call 68; refine (kmay_any ⟨x4, x5, x6, g1, x7, g2, g3, g4⟩ _).mono ?_; rintro e w7 ⟨rfl, hq7⟩; rw [hmay]; obtain ⟨⟨z0, z1, z2, z3, z4, z5⟩, ⟨z6, z7, z8, z9, z10, z11⟩⟩ := cells12 (hq7.row RI5.out); obtain ⟨⟨k0, k1, k2, k3, k4, k5⟩, ⟨k6, k7, k8, k9, k10, k11⟩⟩ := frz12 (hq7.row RI5.out))
            | fail) | fail
        go_wp2_with fail
        generalize hWf : World.setCell _ _ _ = Wf
        obtain ⟨hrow, hOf⟩ := end12' (hq7.row RI5.out) hWf
        obtain ⟨⟨t0, t1, t2, t3, t4, t5⟩, ⟨t6, t7, t8, t9, t10, t11⟩⟩ := cells12 hrow
        refine bodyPost_ret (v := .tuple #[infoV (8 * x0) (8 * x1) x2 ⟨x4, x5, x6, g1, x7, g2, g3, g4⟩ (.slice none 0 0), .int .i64 x3, .bool true]) (by simp [results, Tryz.results41, go_sem, t0, t1, t2, t3, t4, t5, t6, t7, t8, t9, t10, t11, infoV]) rfl (HPost.out _ _ ?_)
        refine ⟨(HO5.out.drew.q hq7).tail1 hOf (by omega), .inl ⟨HIff.out.2 ⟨hsW, hsH, hF, hG, hN, hM, hmay⟩, ?_⟩⟩
        rw [HD.out]
#print axioms khead_any
end Go.Proofs.YtmbjehnddgcboaaGreatDoor
