/- How a square that came in by value opens. Conditions: none. -/
import Derived.Test.YthgpgbdkcdmbpaaGreatDoorZDOpen
import Derived.Test.YthgpgbdkcdmbpaaGreatDoorK6
import Derived.Laws.IdiomArrays
namespace Go.Proofs.YthgpgbdkcdmbpaaGreatDoor
open Go.ChangeShapes Go.WideShapes Go.ChangeAt Go.RowKit Go.Deep
set_option linter.unusedVariables false
set_option linter.unusedSimpArgs false
theorem cells_vector : Tryz.prog.cellsOf 61 = 2 := by kernel_rfl
theorem cells_modes : Tryz.prog.cellsOf 59 = 4 := by kernel_rfl
theorem cells_smalls : Tryz.prog.cellsOf 62 = 4 := by kernel_rfl
theorem cells_square : Tryz.prog.cellsOf 64 = 13 := by kernel_rfl
set_option maxRecDepth 100000
section
variable {H : Type} {enc : TypeId × Value → H}
theorem int_cell {W : World} {spare : Nat → Bool} {held : Bool} {n : Nat} {c : Value} {y : DataW H × List MemPlace} (h : DataW.trod enc Tryz.prog W 0 spare held n 3 [c] = some y) : ∃ k, c = .int .i64 k ∧ InK .i64 k := by
 obtain ⟨k, hk, hkw⟩ := field_int h rfl
 injection hk with hk
 exact ⟨k, hk, i64_in hkw⟩
theorem i64s_cell {W : World} {spare : Nat → Bool} {held : Bool} {n : Nat} {c : Value} {y : DataW H × List MemPlace} (h : DataW.trod enc Tryz.prog W 0 spare held n 25 [c] = some y) : ∃ l, Ints .i64 0 W.heap.size W c l := by
 rcases open_slice Tryz.underlying25 h with ⟨hc1, _⟩ | ⟨a, ln, cap, _, _, _, _, hc1, _⟩
 ·simp at hc1; subst hc1; exact ⟨[], Ints.nil _ _ _ _⟩
 ·simp at hc1; subst hc1
  exact i64s_in (a := some a) (len := ln) (cap := cap) (by simpa [Value.cells] using h)
theorem some_of {α : Type} {l : List α} {i n : Nat} {o : Option α} (h : o = l[i]?) (hn : l.length = n) (hi : i < n) : ∃ y, o = some y := by
 have : l[i]? = some (l[i]'(by omega)) := List.getElem?_eq_getElem _
 exact ⟨_, h.trans this⟩
theorem square_came {W : World} {base : Nat} {r : Reach} {spare : Nat → Bool} {held : Bool} {v : Value} {d : DataW H} {p : List MemPlace} (hv : Value.okWide Tryz.prog W r base 64 v) (h : DataW.Trod enc Tryz.prog W 0 spare held 64 v d p) :
  ∃ (k mo : Int) (ms : List Int) (vx vy : Int) (lv : Value) (vs : List Value) (L : List Int) (S : List (List Int)), v = .agg (sqL k mo ms vx vy lv vs).toArray ∧ ms.length = 4 ∧ (∀ x ∈ ms, InK .i64 x) ∧ S.length = 4 ∧ SqIn 0 W.heap.size W lv vs L S := by
 obtain ⟨cs, rfl, hsz⟩ := okWide_struct Tryz.underlying64 hv
 obtain ⟨fuel, hf⟩ := h
 obtain ⟨xs, m, _, _, hlen, hxl, hf'⟩ := DataW.trod_struct Tryz.underlying64 hf
 rw [cells_square] at hlen
 obtain ⟨cl⟩ := cs
 have hcells : (Value.agg ⟨cl⟩).cells.toList = cl := rfl
 rw [hcells] at hlen hf'
 clear hf hsz hv hcells
 match cl, hlen with
 | [c0, c1, c2, c3, c4, c5, c6, c7, c8, c9, c10, c11, c12], _ =>
  have h0 : DataW.trod enc Tryz.prog W 0 spare held m 3 (([c0, c1, c2, c3, c4, c5, c6, c7, c8, c9, c10, c11, c12].drop 0).take (Tryz.prog.cellsOf 3)) = xs[0]? := hf' 0 _ rfl
  have h1 : DataW.trod enc Tryz.prog W 0 spare held m 3 (([c0, c1, c2, c3, c4, c5, c6, c7, c8, c9, c10, c11, c12].drop 1).take (Tryz.prog.cellsOf 3)) = xs[1]? := hf' 1 _ rfl
  have h2 : DataW.trod enc Tryz.prog W 0 spare held m 59 (([c0, c1, c2, c3, c4, c5, c6, c7, c8, c9, c10, c11, c12].drop 2).take (Tryz.prog.cellsOf 59)) = xs[2]? := hf' 2 _ rfl
  have h3 : DataW.trod enc Tryz.prog W 0 spare held m 61 (([c0, c1, c2, c3, c4, c5, c6, c7, c8, c9, c10, c11, c12].drop 6).take (Tryz.prog.cellsOf 61)) = xs[3]? := hf' 3 _ rfl
  have h4 : DataW.trod enc Tryz.prog W 0 spare held m 25 (([c0, c1, c2, c3, c4, c5, c6, c7, c8, c9, c10, c11, c12].drop 8).take (Tryz.prog.cellsOf 25)) = xs[4]? := hf' 4 _ rfl
  have h5 : DataW.trod enc Tryz.prog W 0 spare held m 62 (([c0, c1, c2, c3, c4, c5, c6, c7, c8, c9, c10, c11, c12].drop 9).take (Tryz.prog.cellsOf 62)) = xs[5]? := hf' 5 _ rfl
  simp only [cells_int, cells_i64s, cells_vector, cells_modes, cells_smalls] at h0 h1 h2 h3 h4 h5
  simp only [List.drop_zero, List.drop_succ_cons, List.take_succ_cons, List.take_zero] at h0 h1 h2 h3 h4 h5
  obtain ⟨y0, e0⟩ := some_of h0 hxl (by decide)
  obtain ⟨y1, e1⟩ := some_of h1 hxl (by decide)
  obtain ⟨y2, e2⟩ := some_of h2 hxl (by decide)
  obtain ⟨y3, e3⟩ := some_of h3 hxl (by decide)
  obtain ⟨y4, e4⟩ := some_of h4 hxl (by decide)
  obtain ⟨y5, e5⟩ := some_of h5 hxl (by decide)
  obtain ⟨k, rfl, -⟩ := int_cell e0
  obtain ⟨mo, rfl, -⟩ := int_cell e1
  obtain ⟨_, _, _, _, n2, _, m0, m1, m2, m3⟩ := trod_array4 Tryz.underlying59 cells_int e2
  obtain ⟨a0, rfl, i0⟩ := int_cell m0
  obtain ⟨a1, rfl, i1⟩ := int_cell m1
  obtain ⟨a2, rfl, i2⟩ := int_cell m2
  obtain ⟨a3, rfl, i3⟩ := int_cell m3
  obtain ⟨ys, n3, _, _, hl3, hx3, hg⟩ := DataW.trod_struct Tryz.underlying61 e3
  have g0 : DataW.trod enc Tryz.prog W 0 spare held n3 3 (([c6, c7].drop 0).take (Tryz.prog.cellsOf 3)) = ys[0]? := hg 0 _ rfl
  have g1 : DataW.trod enc Tryz.prog W 0 spare held n3 3 (([c6, c7].drop 1).take (Tryz.prog.cellsOf 3)) = ys[1]? := hg 1 _ rfl
  simp only [cells_int] at g0 g1
  simp only [List.drop_zero, List.drop_succ_cons, List.take_succ_cons, List.take_zero] at g0 g1
  obtain ⟨z0, q0⟩ := some_of g0 hx3 (by decide)
  obtain ⟨z1, q1⟩ := some_of g1 hx3 (by decide)
  obtain ⟨vx, rfl, -⟩ := int_cell q0
  obtain ⟨vy, rfl, -⟩ := int_cell q1
  obtain ⟨L, hL⟩ := i64s_cell e4
  obtain ⟨_, _, _, _, n5, _, s0, s1, s2, s3⟩ := trod_array4 Tryz.underlying62 cells_i64s e5
  obtain ⟨S0, hS0⟩ := i64s_cell s0
  obtain ⟨S1, hS1⟩ := i64s_cell s1
  obtain ⟨S2, hS2⟩ := i64s_cell s2
  obtain ⟨S3, hS3⟩ := i64s_cell s3
  refine ⟨k, mo, [a0, a1, a2, a3], vx, vy, c8, [c9, c10, c11, c12], L, [S0, S1, S2, S3], rfl, rfl, fun x hx => ?_, rfl, hL, rfl, fun i hi => ?_⟩
  ·simp only [List.mem_cons, List.not_mem_nil, or_false] at hx
   rcases hx with rfl | rfl | rfl | rfl
   ·exact i0
   ·exact i1
   ·exact i2
   ·exact i3
  ·match i, hi with
   | 0, _ => exact hS0
   | 1, _ => exact hS1
   | 2, _ => exact hS2
   | 3, _ => exact hS3
end
end Go.Proofs.YthgpgbdkcdmbpaaGreatDoor
