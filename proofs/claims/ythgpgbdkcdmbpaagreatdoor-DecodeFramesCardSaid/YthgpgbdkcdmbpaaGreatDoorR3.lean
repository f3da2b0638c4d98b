/- Joined texts: DRPp, DRPt, DRBu. Conditions: each part names its own. -/
import Derived.Test.YthgpgbdkcdmbpaaGreatDoorT1
import Derived.Test.YthgpgbdkcdmbpaaGreatDoorK1
import Derived.Test.YthgpgbdkcdmbpaaGreatDoorR7
/- A square put in sample by sample is the square laid row by row. Conditions: it lies in the frame. -/
set_option maxRecDepth 100000
set_option maxHeartbeats 16000000
namespace Go.Proofs.YthgpgbdkcdmbpaaGreatDoor
set_option linter.unusedVariables false
def partRow (pix : List Int) (o : Nat) (row : List Int) (i : Nat) : List Int := pix.take o ++ row.take i ++ pix.drop (o + i)
theorem partRow_zero (pix : List Int) (o : Nat) (row : List Int) : partRow pix o row 0 = pix := by simp [partRow]
theorem partRow_all {pix row : List Int} {o n : Nat} (h : row.length = n) : partRow pix o row n = rowD pix o row := by
 unfold partRow rowD
 rw [show row.take n = row from List.take_of_length_le (by omega), h]
theorem partRow_len {pix row : List Int} {o i : Nat} (h : o + i ≤ pix.length) (g : i ≤ row.length) : (partRow pix o row i).length = pix.length := by
 unfold partRow
 simp only [List.length_append, List.length_take, List.length_drop]
 omega
theorem partRow_next {pix row : List Int} {o i : Nat} (h : o + i < pix.length) (g : i < row.length) : (partRow pix o row i).set (o + i) (row.getD i 0) = partRow pix o row (i + 1) := by
 unfold partRow
 have h1 : (pix.take o ++ row.take i).length = o + i := by simp only [List.length_append, List.length_take]; omega
 rw [List.set_append_right _ _ (by omega), h1, Nat.sub_self, List.drop_eq_getElem_cons h, List.set_cons_zero, List.take_succ_eq_append_getElem g, List.getD_eq_getElem?_getD, List.getElem?_eq_getElem g]
 simp only [List.append_assoc, List.cons_append, List.nil_append, Nat.add_assoc, Option.getD_some]
section
variable (W x y : Int) (n : Nat) (b pix : List Int)
def layedP (j : Nat) : List Int := (List.range j).foldl (layP W x y n b) pix
theorem layedP_next (j : Nat) : layedP W x y n b pix (j + 1) = layP W x y n b (layedP W x y n b pix j) j := by
 unfold layedP
 rw [List.range_succ, List.foldl_append]
 rfl
def offP (j : Nat) : Nat := ((y + j) * W + x).toNat
def rowP (j : Nat) : List Int := (b.drop (j * n)).take n
def putP (k : Nat) : List Int := partRow (layedP W x y n b pix (k / n)) (offP W x y (k / n)) (rowP n b (k / n)) (k % n)
end
section
variable {W x y : Int} {n : Nat} {b pix : List Int} {H : Int}
theorem rowP_len (hb : b.length = n * n) {j : Nat} (hj : j < n) : (rowP n b j).length = n := by
 unfold rowP
 rw [List.length_take, List.length_drop, hb]
 have : j * n + n ≤ n * n := by rw [← Nat.succ_mul]; exact Nat.mul_le_mul_right _ hj
 omega
theorem rowP_at (hb : b.length = n * n) {j i : Nat} (hj : j < n) (hi : i < n) : (rowP n b j).getD i 0 = b.getD (j * n + i) 0 := by
 have h1 := rowP_len hb hj
 unfold rowP
 rw [List.getD_eq_getElem?_getD, List.getElem?_take, if_pos hi, List.getElem?_drop, List.getD_eq_getElem?_getD]
theorem layedP_len (hb : b.length = n * n) (ho : ∀ j, j < n → offP W x y j + n ≤ pix.length) : ∀ j, j ≤ n → (layedP W x y n b pix j).length = pix.length
 | 0, _ => rfl
 | j + 1, hj => by
  have ih := layedP_len hb ho j (by omega)
  rw [layedP_next]
  show (rowD _ (offP W x y j) (rowP n b j)).length = _
  rw [rowD_len (by rw [rowP_len hb (by omega), ih]; exact ho j (by omega)), ih]
theorem putP_zero (hn : 0 < n) : putP W x y n b pix 0 = pix := by
 unfold putP
 rw [Nat.zero_div, Nat.zero_mod, partRow_zero]
 rfl
theorem putP_len (hb : b.length = n * n) (ho : ∀ j, j < n → offP W x y j + n ≤ pix.length) {k : Nat} (hk : k < n * n) : (putP W x y n b pix k).length = pix.length := by
 have hn : 0 < n := by cases n <;> omega
 have hj : k / n < n := Nat.div_lt_of_lt_mul hk
 have hi := Nat.mod_lt k hn
 have h1 := ho _ hj
 unfold putP
 rw [partRow_len (by rw [layedP_len hb ho _ (by omega)]; omega) (by rw [rowP_len hb hj]; omega), layedP_len hb ho _ (by omega)]
theorem putP_next (hb : b.length = n * n) (ho : ∀ j, j < n → offP W x y j + n ≤ pix.length) {k : Nat} (hk : k < n * n) : (putP W x y n b pix k).set (offP W x y (k / n) + k % n) (b.getD k 0) = putP W x y n b pix (k + 1) := by
 have hn : 0 < n := by cases n <;> omega
 have hj : k / n < n := Nat.div_lt_of_lt_mul hk
 have hi := Nat.mod_lt k hn
 have h1 := ho _ hj
 have hl := layedP_len hb ho (k / n) (by omega)
 have hrl := rowP_len hb hj
 have hkk : k / n * n + k % n = k := by rw [Nat.mul_comm]; exact Nat.div_add_mod k n
 have hr := rowP_at hb hj hi
 rw [hkk] at hr
 have hnx := partRow_next (pix := layedP W x y n b pix (k / n)) (row := rowP n b (k / n)) (o := offP W x y (k / n)) (i := k % n) (by omega) (by omega)
 rw [hr] at hnx
 have e : putP W x y n b pix k = partRow (layedP W x y n b pix (k / n)) (offP W x y (k / n)) (rowP n b (k / n)) (k % n) := rfl
 rw [e, hnx]
 unfold putP
 by_cases hlast : k % n + 1 = n
 ·have hd : (k + 1) / n = k / n + 1 := by
   rw [show k + 1 = (k / n + 1) * n by rw [Nat.add_mul, Nat.one_mul]; omega, Nat.mul_div_cancel _ hn]
  have hm : (k + 1) % n = 0 := by
   rw [show k + 1 = (k / n + 1) * n by rw [Nat.add_mul, Nat.one_mul]; omega, Nat.mul_mod_left]
  rw [hd, hm, partRow_zero, hlast, partRow_all hrl, layedP_next]
  rfl
 ·have hd : (k + 1) / n = k / n := by
   rw [show k + 1 = k % n + 1 + k / n * n by omega, Nat.add_mul_div_right _ _ hn, Nat.div_eq_of_lt (by omega), Nat.zero_add]
  have hm : (k + 1) % n = k % n + 1 := by
   rw [show k + 1 = k % n + 1 + k / n * n by omega, Nat.add_mul_mod_self_right, Nat.mod_eq_of_lt (by omega)]
  rw [hd, hm]
theorem putP_all (hb : b.length = n * n) (hn : 0 < n) (f : FrameD) (hf : f.W = W) (hp : f.pix = pix) : putP W x y n b pix (n * n) = (layD f x y n b).pix := by
 subst hf; subst hp
 unfold putP
 rw [Nat.mul_div_cancel _ hn, Nat.mul_mod_left, partRow_zero]
 rfl
end
end Go.Proofs.YthgpgbdkcdmbpaaGreatDoor
namespace Go.Proofs.YthgpgbdkcdmbpaaGreatDoor
open Go.RowKit
set_option linter.unusedVariables false
set_option linter.unusedSimpArgs false
section
theorem kcopyf_any {lo hi : Nat} {pv : Value} {w : World} {f : FrameD} (h : Ints .i64 lo hi w pv f.pix) (hl : f.pix.length ≤ 1000000000) : Calls Tryz.prog 26 #[.agg #[.int .i64 f.W, .int .i64 f.H, pv]] w fun e w' => (∃ v', e = .returned (.agg #[.int .i64 f.W, .int .i64 f.H, v']) ∧ Own .i64 3 w.heap.size w' v' f.pix ∧ Only [] w w') := by
 refine hidQ fun Q HPost => ?_
 obtain ⟨a, cap, rfl, -⟩ := h.open
 obtain ⟨hq1, HR1, HR2, -⟩ := boxes2 w (.cells #[.int .i64 f.W, .int .i64 f.H, .slice a f.pix.length cap] 27) (.cells #[.int .i64 0, .int .i64 0, .slice none 0 0] 27)
 have HCp := lh (fun (W : World) (o : Only [] w W) => copyi_any (h.quiet o) hl)
 have HQ1 := lh hq1
 have Hz1 : Hid (((w.alloc (.cells #[.int .i64 f.W, .int .i64 f.H, .slice a f.pix.length cap] 27)).alloc (.cells #[.int .i64 0, .int .i64 0, .slice none 0 0] 27)).heap.size = w.heap.size + 1 + 1) := lh (by simp)
 clear h hq1
 go_enter Tryz.func26, Tryz.ntmps26
 go_wp2_with fail
 generalize hW1 : World.alloc (World.alloc w _) _ = W1 at *
 clear hW1
 obtain ⟨r0, r1, r2⟩ := frame_cells HR1.out
 refine wp_region_held_drew (S := (fun w' => w'.cell? ⟨w.heap.size, 0, none⟩ = some (.int .i64 f.W) ∧ w'.cell? ⟨w.heap.size, 1, none⟩ = some (.int .i64 f.H) ∧ w'.cell? ⟨w.heap.size, 2, none⟩ = some (.slice a f.pix.length cap))) (by kernel_rfl) ?_ (fun hHeld => ?_)
 ·exact ⟨r0, r1, r2⟩
 refine tk 0 3 ?_
 refine tk 1 4 ?_
 refine tk 2 5 ?_
 refine tk 3 6 ?_
 refine tk 4 7 ?_
 refine tk 5 8 ?_
 refine rdy (rdc 6 9 (fun K hK => ?_) .nil)
 go_simp
 go_at_call 54
 refine (HCp.out _ HQ1.out.drew).mono ?_
 rintro e w3 ⟨v3, rfl, hown, hq3⟩
 have hqd := (Only.refl [] W1).drew.q hq3
 have HQ3 := lh (HQ1.out.q hqd)
 have HO3 := lh hown
 obtain ⟨z0, z1, z2⟩ := frame_cells (hqd.row HR2.out)
 have fz0 := frozen_of_row _ _ 0 _ _ (hqd.row HR2.out)
 have fz1 := frozen_of_row _ _ 1 _ _ (hqd.row HR2.out)
 have fz2 := frozen_of_row _ _ 2 _ _ (hqd.row HR2.out)
 obtain ⟨s0, s1, s2⟩ := frame_cells (hqd.row HR1.out)
 obtain ⟨va, vl, vc, rfl⟩ : ∃ va vl vc, v3 = .slice va vl vc := by obtain ⟨va, vc, e, -⟩ := hown.ints.open; exact ⟨va, _, vc, e⟩
 obtain ⟨hrow, hon⟩ := row3_set (x := .int .i64 f.W) (y := .int .i64 f.H) (z := .slice va vl vc) (hqd.row HR2.out)
 have hno := HO3.out.at
 clear hq3 hown
 refine hK.out _ _ ?_ (fun hHeld => ?_)
 ·exact ⟨s0, s1, s2⟩
 clear hK K
 try simp only [Act.put, List.setIfInBounds_toArray, List.set_cons_zero, List.set_cons_succ]
 refine tk 7 10 ?_
 refine rdy (rdn 8 (fun K hK => ?_) .nil)
 go_simp
 refine hK.out _ _ ?_ (fun hHeld => ?_)
 ·exact ⟨hon.cell s0 (by simp), hon.cell s1 (by simp), hon.cell s2 (by simp)⟩
 clear hK K
 try simp only [Act.put, List.setIfInBounds_toArray, List.set_cons_zero, List.set_cons_succ]
 refine wpAnyH_done (by kernel_rfl) ?_ _
 go_wp2_with fail
 refine bodyPost_ret (v := .agg #[.int .i64 f.W, .int .i64 f.H, .slice va vl vc]) (results_cell_row Tryz.results26 _ _ (w.heap.size + 1) _ _ _ _ rfl hrow Tryz.underlying27 rfl (by kernel_rfl)) rfl (HPost.out _ _ ⟨_, rfl, ?_, ?_⟩)
 ·exact (HO3.out.only hon (fun x hx hh => by rw [mSg] at hx; subst hx; have := (hno _ hh).1; have := Hz1.out; have : W1.drew.heap.size = W1.heap.size := rfl; omega)).lower (by have := Hz1.out; show w.heap.size ≤ W1.heap.size; omega)
 ·exact HQ3.out.trans hon (U := []) (by simp) (fun x hx hlt => by rw [mSg] at hx; omega)
theorem results_cell_cell {P : Program} {fn : Func} {p q : Tmp} {ty ty' : TypeId} (h : fn.results = #[.cell p ty, .cell q ty']) (tmps : Array Value) (w : World) (g g' : Nat) (t t' : TypeId) (cs cs' : Array Value) (fr fr' : Nat × Nat) (d d' : TypeDesc)
  (hp : tmps.getD p undef = .pointer (some ⟨g, 0, none⟩)) (hq : tmps.getD q undef = .pointer (some ⟨g', 0, none⟩)) (hg : w.heap[g]? = some (.cells cs t fr)) (hg' : w.heap[g']? = some (.cells cs' t' fr'))
  (hu : P.underlying ty = some d) (hd : (match d with | .struct _ | .array _ _ => true | _ => false) = true) (hi : (P.info? ty).map (·.size) = some cs.size)
  (hu' : P.underlying ty' = some d') (hd' : (match d' with | .struct _ | .array _ _ => true | _ => false) = true) (hi' : (P.info? ty').map (·.size) = some cs'.size) :
  (results fn tmps).run P w = .ok (.tuple #[.agg cs, .agg cs']) w := by
 have hp' : tmps[p]?.getD undef = .pointer (some ⟨g, 0, none⟩) := by simpa using hp
 have hq' : tmps[q]?.getD undef = .pointer (some ⟨g', 0, none⟩) := by simpa using hq
 simp [results, h, hp', hq', asAddr, run_loadVar_row w g t ty cs fr d hg hu hd hi, run_loadVar_row w g' t' ty' cs' fr' d' hg' hu' hd' hi']
theorem qDRPt0 {p : Prop} (h : p := by
 generalize b.getD k 0 = c at *
 obtain ⟨h1, h2, h3⟩ := hix
 obtain ⟨I, hI⟩ : ∃ I, I = offP f.W x y Dv + M := ⟨_, rfl⟩
 rw [← hI] at hnx h1 h2
 obtain ⟨Y, hY⟩ : ∃ Y, Y = (y + (Dv : Int)) * f.W := ⟨_, rfl⟩
 rw [← hY] at h1 h3
 have hpl : (f.pix.length : Int) ≤ 1000000 := by have := Hfl.out; omega
 have n0 : IntKind.i64.wrap (Dv : Int) = (Dv : Int) := by rw [IntKind.wrap_i64]; omega
 have n1 : IntKind.i64.wrap (y + (Dv : Int)) = y + (Dv : Int) := by rw [IntKind.wrap_i64]; have := Hpl.out; omega
 have n2 : IntKind.i64.wrap ((y + (Dv : Int)) * f.W) = Y := by rw [← hY, IntKind.wrap_i64]; have := Hpl.out; omega
 have n3 : IntKind.i64.wrap (Y + x) = Y + x := by rw [IntKind.wrap_i64]; have := Hpl.out; omega
 have n4 : Y + x + (M : Int) = (I : Int) := by omega
 have n5 : IntKind.i64.wrap (I : Int) = (I : Int) := by rw [IntKind.wrap_i64]; omega
 have hI0 : (0 : Int) ≤ (I : Int) := by omega
 have hI1 : (I : Int) < (f.pix.length : Int) := by omega
 have hin : InK .i64 c := by simp only [InK]; omega
 have cx := HOk.out.cellS hlen.symm (i := I) (by omega)
 have fx := HOk.out.frzS hlen.symm I
 obtain ⟨hs1, hs2⟩ := HOk.out.storeS hlen.symm hin I
 rw [hnx] at hs1
 have HS1 := lh hs1
 have HS2 := lh hs2
 have Hlt := lh hlt
 have hbgne : ¬ bb = g := by have := Hbw.out _ _ _ rfl k (by omega); omega
 have hwg : ¬ w.heap.size = g := by omega
 have hBg : ¬ B4 = g := by omega
 clear e2 hI hY h1 h2 h3 hlen hin hs1 hnx hcb bM bD hb1 hb2 hbg hgg hlt cb0 hpl
 go_wp2_with fail
 refine wp_region_held_drew (S := (fun w' => w'.cell? ⟨B4, 2, none⟩ = some (.slice (some ⟨g, 0, none⟩) f.pix.length gcap) ∧ w'.cell? ⟨w.heap.size, 0, none⟩ = some (.int .i64 f.W) ∧ w'.cell? ⟨bb, bo + k, none⟩ = some (.int .i64 c))) (by kernel_rfl) ?_ (fun hHeld => ?_)
 ·exact ⟨q2, r0, cb⟩
 refine tk 0 61 ?_
 refine tk 1 62 ?_
 refine tk 2 63 ?_
 refine tk 3 64 ?_
 refine tk 4 65 ?_
 refine tk 5 66 ?_
 refine tk 6 67 ?_
 refine tk 7 68 ?_
 refine tk 8 69 ?_
 refine tk 9 70 ?_
 refine tk 10 71 ?_
 refine tk 11 72 ?_
 refine tk 12 73 ?_
 refine tk 13 74 ?_
 refine tk 14 75 ?_
 refine tk 15 76 ?_
 refine tk 16 77 ?_
 refine tk 17 78 ?_
 refine tk 18 79 ?_
 refine tk 19 80 ?_
 refine tk 20 81 ?_
 refine rdy (rdn 21 (fun K hK => ?_) .nil)
 go_simp
 refine hK.out _ _ ?_ (fun hHeld => ?_)
 ·exact ⟨hs2.cell q2 (by simp; omega), hs2.cell r0 (by simp; omega), hs2.cell cb (by simp; omega)⟩
 clear hK K
 try simp only [Act.put, List.setIfInBounds_toArray, List.set_cons_zero, List.set_cons_succ]
 refine wpAnyH_done (by kernel_rfl) ?_ _
 go_wp2_with fail
 exact ⟨⟨k + 1, by have := Hlt.out; omega, by go_num, lh (HS1.out.quiet (Only.refl _ _).drew), lh (HQk.out.trans HS2.out (fun _ h _ => h) (fun _ h _ => h)).drew⟩, by simp [intOf]; have := Hlt.out; omega⟩) : p := h
theorem qDRPt1 {p : Prop} (h : p := by
 rw [HPe.out] at HOk
 have HR1 := lh (HQk.out.rowAt (HQ5.out.row HB1.out) (by rw [mSg]; have := Hg.out; omega))
 have HR2 := lh (HQk.out.rowAt (HQ5.out.row HB2.out) (by rw [mSg]; have := Hg.out; omega))
 obtain ⟨z0, z1, z2⟩ := frame_cells HR1.out
 have fz0 := frozen_of_row _ _ 0 _ _ HR1.out
 have fz1 := frozen_of_row _ _ 1 _ _ HR1.out
 have fz2 := frozen_of_row _ _ 2 _ _ HR1.out
 obtain ⟨y0, y1, y2, y3, -⟩ := row2 HR2.out
 obtain ⟨hrow1, hon1⟩ := row3_set (x := .int .i64 f.W) (y := .int .i64 f.H) (z := (.slice (some ⟨g, 0, none⟩) f.pix.length gcap)) HR1.out
 have hr2 := hon1.rowAt HR2.out (by simp)
 obtain ⟨hrow2, hon2⟩ := row2_set (x := .int .i64 0) (y := .slice none 0 0) hr2
 have hr1 := hon2.rowAt hrow1 (by simp)
 have HX1 := lh hr1
 have HX2 := lh hrow2
 have HXo1 := lh hon1
 have HXo2 := lh hon2
 obtain ⟨t0, t1, t2, t3, -⟩ := row2 hr2
 clear hrow1 hrow2 hon1 hon2 hr1 hr2 hlt
 go_wp2_with fail
 refine bodyPost_ret (results_cell_cell Tryz.results129 _ _ (w.heap.size + 1) (w.heap.size + 1 + 1) _ _ _ _ _ _ _ _ rfl rfl HX1.out HX2.out Tryz.underlying27 rfl (by kernel_rfl) Tryz.underlying45 rfl (err_info _ rfl)) rfl (HPost.out _ _ ⟨_, rfl, ?_, ?_⟩)
 ·exact ((HOk.out.only HXo1.out (fun x hx hh => by rw [mSg] at hx; subst hx; simp only [Value.ownBlock] at hh; injection hh with hh; have := Hg.out; omega)).only HXo2.out (fun x hx hh => by rw [mSg] at hx; subst hx; simp only [Value.ownBlock] at hh; injection hh with hh; have := Hg.out; omega)).lower (by have := HQ3.out.size; have := Hz1.out; omega)
 ·exact (((HQ1.out.q HQ5.out).trans HQk.out (U := []) (by simp) (fun x hx hlt => by rw [mSg] at hx; have := Hg.out; omega)).trans HXo1.out (U := []) (by simp) (fun x hx hlt => by rw [mSg] at hx; omega)).trans HXo2.out (U := []) (by simp) (fun x hx hlt => by rw [mSg] at hx; omega)) : p := h
theorem qDRPt2 {p : Prop} (h : p := by
 have e1 := hok.len
 have e2 := hok.w0
 have e3 := hok.h0
 have e4 := hok.w1
 have e5 := hok.h1
 have e6 : 8 * 8 ≤ f.W * f.H := Int.mul_le_mul e2 e3 (by omega) (by omega)
 have e7 : f.W * f.H ≤ 32 * 32 := Int.mul_le_mul e4 e5 (by omega) (by omega)
 omega) : p := h
theorem kput4_any {lo hi lo' hi' : Nat} {pv bv : Value} {w : World} {f : FrameD} {x y : Int} {b : List Int} (hok : FrOk f) (h : Ints .i64 lo hi w pv f.pix) (hb : Ints .i64 lo' hi' w bv b) (hbl : b.length = 16) (hbs : SamOk b) (hx : 0 ≤ x) (hxn : x + 4 ≤ f.W) (hy : 0 ≤ y) (hyn : y + 4 ≤ f.H) : Calls Tryz.prog 129 #[.agg #[.int .i64 f.W, .int .i64 f.H, pv], .int .i64 x, .int .i64 y, .int .i64 4, bv] w fun e w' => (∃ v', e = .returned (.tuple #[.agg #[.int .i64 f.W, .int .i64 f.H, v'], .agg #[.int .i64 0, .slice none 0 0]]) ∧ Own .i64 3 w.heap.size w' v' (layD f x y 4 b).pix ∧ Only [] w w') := by
 refine hidQ fun Q HPost => ?_
 obtain ⟨a, cap, rfl, -⟩ := h.open
 have hq1 : Only [] w (((w.alloc (.cells #[.int .i64 f.W, .int .i64 f.H, .slice a f.pix.length cap] 27)).alloc (.cells #[.int .i64 0, .int .i64 0, .slice none 0 0] 27)).alloc (.cells #[.int .i64 0, .slice none 0 0] 45)) := ((Only.new w _).alloc _).alloc _
 have hfl : 0 < f.pix.length ∧ f.pix.length ≤ 1000000 := by
  exact qDRPt2
 have hpi := fun (j : Nat) (hj : j < 4) => place_in (W := f.W) (H := f.H) (x := x) (y := y) (j := (j : Int)) (n := 4) (by have := hok.w0; omega) hx hxn (by omega) hy (by omega) (by omega)
 have ho : ∀ j, j < 4 → offP f.W x y j + 4 ≤ f.pix.length := fun j hj => by have := hpi j hj; have := hok.len; unfold offP; omega
 have HIx : Hid (∀ k, k < 16 → (y + ((k / 4 : Nat) : Int)) * f.W + x + ((k % 4 : Nat) : Int) = ((offP f.W x y (k / 4) + k % 4 : Nat) : Int) ∧ offP f.W x y (k / 4) + k % 4 < f.pix.length ∧ 0 ≤ (y + ((k / 4 : Nat) : Int)) * f.W + x) := lh (fun k hk => by
  have := hpi (k / 4) (by omega)
  have := ho (k / 4) (by omega)
  unfold offP at *
  omega)
 have HPn := lh (fun k (hk : k < 16) => putP_next (n := 4) (W := f.W) (x := x) (y := y) hbl ho hk)
 have HPl := lh (fun k (hk : k < 16) => putP_len (n := 4) (W := f.W) (x := x) (y := y) hbl ho hk)
 have HP0 := lh (putP_zero (n := 4) (W := f.W) (x := x) (y := y) (b := b) (pix := f.pix) (by omega))
 have HPe : Hid (putP f.W x y 4 b f.pix 16 = (layD f x y 4 b).pix) := lh (putP_all (n := 4) hbl (by omega) f rfl rfl)
 have HB0 : Hid ((((w.alloc (.cells #[.int .i64 f.W, .int .i64 f.H, .slice a f.pix.length cap] 27)).alloc (.cells #[.int .i64 0, .int .i64 0, .slice none 0 0] 27)).alloc (.cells #[.int .i64 0, .slice none 0 0] 45)).heap[w.heap.size]? = some (.cells #[.int .i64 f.W, .int .i64 f.H, .slice a f.pix.length cap] 27 (0, 0))) := lh (((Only.new (w.alloc _) _).alloc _).row (heap_alloc_new w _))
 have HB1 : Hid ((((w.alloc (.cells #[.int .i64 f.W, .int .i64 f.H, .slice a f.pix.length cap] 27)).alloc (.cells #[.int .i64 0, .int .i64 0, .slice none 0 0] 27)).alloc (.cells #[.int .i64 0, .slice none 0 0] 45)).heap[w.heap.size + 1]? = some (.cells #[.int .i64 0, .int .i64 0, .slice none 0 0] 27 (0, 0))) := lh ((Only.new ((w.alloc _).alloc _) _).row (heap_alloc_new' (by simp)))
 have HB2 : Hid ((((w.alloc (.cells #[.int .i64 f.W, .int .i64 f.H, .slice a f.pix.length cap] 27)).alloc (.cells #[.int .i64 0, .int .i64 0, .slice none 0 0] 27)).alloc (.cells #[.int .i64 0, .slice none 0 0] 45)).heap[w.heap.size + 1 + 1]? = some (.cells #[.int .i64 0, .slice none 0 0] 45 (0, 0))) := lh (heap_alloc_new' (by simp))
 have Hz1 : Hid ((((w.alloc (.cells #[.int .i64 f.W, .int .i64 f.H, .slice a f.pix.length cap] 27)).alloc (.cells #[.int .i64 0, .int .i64 0, .slice none 0 0] 27)).alloc (.cells #[.int .i64 0, .slice none 0 0] 45)).heap.size = w.heap.size + 1 + 1 + 1) := lh (by simp)
 have HM := lh (fun (W : World) (o : Only [] (((w.alloc (.cells #[.int .i64 f.W, .int .i64 f.H, .slice a f.pix.length cap] 27)).alloc (.cells #[.int .i64 0, .int .i64 0, .slice none 0 0] 27)).alloc (.cells #[.int .i64 0, .slice none 0 0] 45)) W) => by have := kmay_any f.W f.H (h.quiet (hq1.q o)); rw [show mayF ⟨f.W, f.H, f.pix⟩ = true from mayF_iff.2 hok] at this; exact this)
 have HLi := lh (fun (W : World) => by have := klies_any f.W f.H x y 4 (.slice a f.pix.length cap) W ⟨hok.w0, hok.w1⟩ ⟨hok.h0, hok.h1⟩ (by omega); rw [show liesD f.W f.H x y 4 = true by unfold liesD; rw [decide_eq_true_iff]; omega] at this; exact this)
 have HBv := lh (hb.quiet hq1)
 have Hbw : Hid (∀ (b0 o0 c0 : Nat), bv = .slice (some ⟨b0, o0, none⟩) b.length c0 → ∀ k, k < 16 → b0 < w.heap.size) := lh (fun b0 o0 c0 e k hk => by obtain ⟨b', o', c', e', -, -, hc⟩ := hb.at (i := k) (by omega); rw [e'] at e; injection e with e1; injection e1 with e1; injection e1 with e1; subst e1; exact block_lt_of_cell hc)
 have HWb := lh (samOk_iff.2 hbs)
 have HCf := lh (fun (W : World) (o : Only [] (((w.alloc (.cells #[.int .i64 f.W, .int .i64 f.H, .slice a f.pix.length cap] 27)).alloc (.cells #[.int .i64 0, .int .i64 0, .slice none 0 0] 27)).alloc (.cells #[.int .i64 0, .slice none 0 0] 45)) W) => kcopyf_any (h.quiet (hq1.q o)) (by omega))
 have Hfl := lh hfl
 have Hbl := lh hbl
 have Hbs := lh hbs
 have Hpl : Hid (0 ≤ x ∧ x ≤ 32 ∧ 0 ≤ y ∧ y ≤ 32 ∧ 0 ≤ f.W ∧ f.W ≤ 32) := lh (by have := hok.w1; have := hok.h1; have := hok.w0; omega)
 have HQ1 := lh hq1
 obtain ⟨ba, bcap, rfl, -⟩ := hb.open
 rw [hbl] at HBv Hbw ⊢
 clear h hb hbl hbs hq1 hok hfl hpi ho hx hxn hy hyn
 generalize putP f.W x y 4 b f.pix = PK at *
 go_enter Tryz.func129, Tryz.ntmps129
 obtain ⟨r0, r1, r2⟩ := frame_cells HB0.out
 go_wp2_with fail
 generalize hW1 : World.alloc (World.alloc (World.alloc w _) _) _ = W1 at *
 clear hW1 r0 r1 r2
 go_at_call 30
 refine (HM.out W1 (Only.refl _ _)).mono ?_
 rintro e w2 ⟨rfl, hq2⟩
 have HQ2 := lh hq2
 obtain ⟨r0, r1, r2⟩ := frame_cells (hq2.row HB0.out)
 clear hq2
 go_wp2_with fail
 go_at_call 100
 refine (HLi.out w2).mono ?_
 rintro e w3 ⟨rfl, hq3⟩
 have HQ3 := lh (HQ2.out.q hq3)
 clear hq3 r0 r1 r2
 go_wp2_with fail
 go_at_call 23
 refine (within_any 0 255 (HBv.out.quiet HQ3.out)).mono ?_
 rintro e w' ⟨rfl, rfl⟩
 rw [HWb.out]
 obtain ⟨r0, r1, r2⟩ := frame_cells (HQ3.out.row HB0.out)
 go_wp2_with fail
 go_at_call 26
 refine (HCf.out w3 HQ3.out).mono ?_
 rintro e w4 ⟨v4, rfl, hown, hq4⟩
 obtain ⟨g, gcap, rfl, hg1, hg2⟩ := hown.form Hfl.out.1
 have hn5 := Only.new w4 (.cells #[.int .i64 f.W, .int .i64 f.H, (.slice (some ⟨g, 0, none⟩) f.pix.length gcap)] 27)
 have HB4 : Hid ((w4.alloc (.cells #[.int .i64 f.W, .int .i64 f.H, (.slice (some ⟨g, 0, none⟩) f.pix.length gcap)] 27)).heap[w4.heap.size]? = some (.cells #[.int .i64 f.W, .int .i64 f.H, (.slice (some ⟨g, 0, none⟩) f.pix.length gcap)] 27 (0, 0))) := lh (heap_alloc_new w4 _)
 have hq5 := hq4.q hn5
 have HQ5 := lh (HQ3.out.q hq5)
 have HO5 := lh (hown.quiet hn5)
 have Hg : Hid (w.heap.size + 1 + 1 < g ∧ g < w4.heap.size) := lh ⟨by have := HQ3.out.size; have := Hz1.out; omega, hg2⟩
 clear hq4 hn5 hq5 hown hg1 hg2 r0 r1 r2
 go_wp2_with fail
 generalize hW5 : World.alloc w4 _ = W5 at *
 clear hW5
 generalize hB4 : w4.heap.size = B4 at *
 go_loopw [13] (fun i wr => ∃ k : Nat, k ≤ 16 ∧ i = .int .i64 k ∧ Hid (Own .i64 3 w3.heap.size wr (.slice (some ⟨g, 0, none⟩) f.pix.length gcap) (PK k)) ∧ Hid (Only [g] W5 wr)) (fun i _ => 16 - (intOf i).toNat)
 case atStart => exact ⟨0, by omega, rfl, lh (by rw [HP0.out]; exact HO5.out), lh (Only.refl _ _)⟩
 case round =>
  obtain ⟨k, hk, rfl, HOk, HQk⟩ := hrel
  have hNN : IntKind.i64.wrap (4 * 4) = 16 := by decide
  obtain ⟨q0, q1, q2⟩ := frame_cells (HQk.out.rowAt HB4.out (by rw [mSg]; have := Hg.out; omega))
  obtain ⟨r0, r1, r2⟩ := frame_cells (HQk.out.rowAt (HQ5.out.row HB0.out) (by rw [mSg]; have := Hg.out; omega))
  by_cases hlt : k < 16
  ·have hki : (k : Int) < 16 := by omega
   have hk0 : (0 : Int) ≤ (k : Int) := by omega
   have hlen := HPl.out k hlt
   have hix := HIx.out k hlt
   obtain ⟨bb, bo, bcap', e1, hb1, hb2, cb0⟩ := (HBv.out).at (i := k) (by rw [Hbl.out]; exact hlt)
   injection e1 with e1 e2 e3
   subst e1; subst e3
   have hbg := block_lt_of_cell cb0
   simp only at hbg
   have hgg := Hg.out
   have cb := HQk.out.cell (HQ5.out.cell cb0 (by simp)) (by rw [mSg]; have := Hz1.out; have := Hbw.out _ _ _ rfl k hlt; simp only; omega)
   have eM : (k : Int).tmod 4 = ((k % 4 : Nat) : Int) := by rw [Int.tmod_eq_emod_of_nonneg hk0]; rfl
   have eD : (k : Int).tdiv 4 = ((k / 4 : Nat) : Int) := by rw [Int.tdiv_eq_ediv_of_nonneg hk0]; rfl
   have hcb := Hbs.out.at k
   have hnx := HPn.out k hlt
   have bM : k % 4 < 4 := by omega
   have bD : k / 4 < 4 := by omega
   generalize k % 4 = M at *
   generalize k / 4 = Dv at *
   exact qDRPt0
  ·obtain rfl : k = 16 := by omega
   have hki : ¬ ((16 : Nat) : Int) < 16 := by omega
   exact qDRPt1
theorem kput8_any {lo hi lo' hi' : Nat} {pv bv : Value} {w : World} {f : FrameD} {x y : Int} {b : List Int} (hok : FrOk f) (h : Ints .i64 lo hi w pv f.pix) (hb : Ints .i64 lo' hi' w bv b) (hbl : b.length = 64) (hbs : SamOk b) (hx : 0 ≤ x) (hxn : x + 8 ≤ f.W) (hy : 0 ≤ y) (hyn : y + 8 ≤ f.H) : Calls Tryz.prog 129 #[.agg #[.int .i64 f.W, .int .i64 f.H, pv], .int .i64 x, .int .i64 y, .int .i64 8, bv] w fun e w' => (∃ v', e = .returned (.tuple #[.agg #[.int .i64 f.W, .int .i64 f.H, v'], .agg #[.int .i64 0, .slice none 0 0]]) ∧ Own .i64 3 w.heap.size w' v' (layD f x y 8 b).pix ∧ Only [] w w') := by
 refine hidQ fun Q HPost => ?_
 obtain ⟨a, cap, rfl, -⟩ := h.open
 have hq1 : Only [] w (((w.alloc (.cells #[.int .i64 f.W, .int .i64 f.H, .slice a f.pix.length cap] 27)).alloc (.cells #[.int .i64 0, .int .i64 0, .slice none 0 0] 27)).alloc (.cells #[.int .i64 0, .slice none 0 0] 45)) := ((Only.new w _).alloc _).alloc _
 have hfl : 0 < f.pix.length ∧ f.pix.length ≤ 1000000 := by
  exact qDRPt2
 have hpi := fun (j : Nat) (hj : j < 8) => place_in (W := f.W) (H := f.H) (x := x) (y := y) (j := (j : Int)) (n := 8) (by have := hok.w0; omega) hx hxn (by omega) hy (by omega) (by omega)
 have ho : ∀ j, j < 8 → offP f.W x y j + 8 ≤ f.pix.length := fun j hj => by have := hpi j hj; have := hok.len; unfold offP; omega
 have HIx : Hid (∀ k, k < 64 → (y + ((k / 8 : Nat) : Int)) * f.W + x + ((k % 8 : Nat) : Int) = ((offP f.W x y (k / 8) + k % 8 : Nat) : Int) ∧ offP f.W x y (k / 8) + k % 8 < f.pix.length ∧ 0 ≤ (y + ((k / 8 : Nat) : Int)) * f.W + x) := lh (fun k hk => by
  have := hpi (k / 8) (by omega)
  have := ho (k / 8) (by omega)
  unfold offP at *
  omega)
 have HPn := lh (fun k (hk : k < 64) => putP_next (n := 8) (W := f.W) (x := x) (y := y) hbl ho hk)
 have HPl := lh (fun k (hk : k < 64) => putP_len (n := 8) (W := f.W) (x := x) (y := y) hbl ho hk)
 have HP0 := lh (putP_zero (n := 8) (W := f.W) (x := x) (y := y) (b := b) (pix := f.pix) (by omega))
 have HPe : Hid (putP f.W x y 8 b f.pix 64 = (layD f x y 8 b).pix) := lh (putP_all (n := 8) hbl (by omega) f rfl rfl)
 have HB0 : Hid ((((w.alloc (.cells #[.int .i64 f.W, .int .i64 f.H, .slice a f.pix.length cap] 27)).alloc (.cells #[.int .i64 0, .int .i64 0, .slice none 0 0] 27)).alloc (.cells #[.int .i64 0, .slice none 0 0] 45)).heap[w.heap.size]? = some (.cells #[.int .i64 f.W, .int .i64 f.H, .slice a f.pix.length cap] 27 (0, 0))) := lh (((Only.new (w.alloc _) _).alloc _).row (heap_alloc_new w _))
 have HB1 : Hid ((((w.alloc (.cells #[.int .i64 f.W, .int .i64 f.H, .slice a f.pix.length cap] 27)).alloc (.cells #[.int .i64 0, .int .i64 0, .slice none 0 0] 27)).alloc (.cells #[.int .i64 0, .slice none 0 0] 45)).heap[w.heap.size + 1]? = some (.cells #[.int .i64 0, .int .i64 0, .slice none 0 0] 27 (0, 0))) := lh ((Only.new ((w.alloc _).alloc _) _).row (heap_alloc_new' (by simp)))
 have HB2 : Hid ((((w.alloc (.cells #[.int .i64 f.W, .int .i64 f.H, .slice a f.pix.length cap] 27)).alloc (.cells #[.int .i64 0, .int .i64 0, .slice none 0 0] 27)).alloc (.cells #[.int .i64 0, .slice none 0 0] 45)).heap[w.heap.size + 1 + 1]? = some (.cells #[.int .i64 0, .slice none 0 0] 45 (0, 0))) := lh (heap_alloc_new' (by simp))
 have Hz1 : Hid ((((w.alloc (.cells #[.int .i64 f.W, .int .i64 f.H, .slice a f.pix.length cap] 27)).alloc (.cells #[.int .i64 0, .int .i64 0, .slice none 0 0] 27)).alloc (.cells #[.int .i64 0, .slice none 0 0] 45)).heap.size = w.heap.size + 1 + 1 + 1) := lh (by simp)
 have HM := lh (fun (W : World) (o : Only [] (((w.alloc (.cells #[.int .i64 f.W, .int .i64 f.H, .slice a f.pix.length cap] 27)).alloc (.cells #[.int .i64 0, .int .i64 0, .slice none 0 0] 27)).alloc (.cells #[.int .i64 0, .slice none 0 0] 45)) W) => by have := kmay_any f.W f.H (h.quiet (hq1.q o)); rw [show mayF ⟨f.W, f.H, f.pix⟩ = true from mayF_iff.2 hok] at this; exact this)
 have HLi := lh (fun (W : World) => by have := klies_any f.W f.H x y 8 (.slice a f.pix.length cap) W ⟨hok.w0, hok.w1⟩ ⟨hok.h0, hok.h1⟩ (by omega); rw [show liesD f.W f.H x y 8 = true by unfold liesD; rw [decide_eq_true_iff]; omega] at this; exact this)
 have HBv := lh (hb.quiet hq1)
 have Hbw : Hid (∀ (b0 o0 c0 : Nat), bv = .slice (some ⟨b0, o0, none⟩) b.length c0 → ∀ k, k < 64 → b0 < w.heap.size) := lh (fun b0 o0 c0 e k hk => by obtain ⟨b', o', c', e', -, -, hc⟩ := hb.at (i := k) (by omega); rw [e'] at e; injection e with e1; injection e1 with e1; injection e1 with e1; subst e1; exact block_lt_of_cell hc)
 have HWb := lh (samOk_iff.2 hbs)
 have HCf := lh (fun (W : World) (o : Only [] (((w.alloc (.cells #[.int .i64 f.W, .int .i64 f.H, .slice a f.pix.length cap] 27)).alloc (.cells #[.int .i64 0, .int .i64 0, .slice none 0 0] 27)).alloc (.cells #[.int .i64 0, .slice none 0 0] 45)) W) => kcopyf_any (h.quiet (hq1.q o)) (by omega))
 have Hfl := lh hfl
 have Hbl := lh hbl
 have Hbs := lh hbs
 have Hpl : Hid (0 ≤ x ∧ x ≤ 32 ∧ 0 ≤ y ∧ y ≤ 32 ∧ 0 ≤ f.W ∧ f.W ≤ 32) := lh (by have := hok.w1; have := hok.h1; have := hok.w0; omega)
 have HQ1 := lh hq1
 obtain ⟨ba, bcap, rfl, -⟩ := hb.open
 rw [hbl] at HBv Hbw ⊢
 clear h hb hbl hbs hq1 hok hfl hpi ho hx hxn hy hyn
 generalize putP f.W x y 8 b f.pix = PK at *
 go_enter Tryz.func129, Tryz.ntmps129
 obtain ⟨r0, r1, r2⟩ := frame_cells HB0.out
 go_wp2_with fail
 generalize hW1 : World.alloc (World.alloc (World.alloc w _) _) _ = W1 at *
 clear hW1 r0 r1 r2
 go_at_call 30
 refine (HM.out W1 (Only.refl _ _)).mono ?_
 rintro e w2 ⟨rfl, hq2⟩
 have HQ2 := lh hq2
 obtain ⟨r0, r1, r2⟩ := frame_cells (hq2.row HB0.out)
 clear hq2
 go_wp2_with fail
 go_at_call 100
 refine (HLi.out w2).mono ?_
 rintro e w3 ⟨rfl, hq3⟩
 have HQ3 := lh (HQ2.out.q hq3)
 clear hq3 r0 r1 r2
 go_wp2_with fail
 go_at_call 23
 refine (within_any 0 255 (HBv.out.quiet HQ3.out)).mono ?_
 rintro e w' ⟨rfl, rfl⟩
 rw [HWb.out]
 obtain ⟨r0, r1, r2⟩ := frame_cells (HQ3.out.row HB0.out)
 go_wp2_with fail
 go_at_call 26
 refine (HCf.out w3 HQ3.out).mono ?_
 rintro e w4 ⟨v4, rfl, hown, hq4⟩
 obtain ⟨g, gcap, rfl, hg1, hg2⟩ := hown.form Hfl.out.1
 have hn5 := Only.new w4 (.cells #[.int .i64 f.W, .int .i64 f.H, (.slice (some ⟨g, 0, none⟩) f.pix.length gcap)] 27)
 have HB4 : Hid ((w4.alloc (.cells #[.int .i64 f.W, .int .i64 f.H, (.slice (some ⟨g, 0, none⟩) f.pix.length gcap)] 27)).heap[w4.heap.size]? = some (.cells #[.int .i64 f.W, .int .i64 f.H, (.slice (some ⟨g, 0, none⟩) f.pix.length gcap)] 27 (0, 0))) := lh (heap_alloc_new w4 _)
 have hq5 := hq4.q hn5
 have HQ5 := lh (HQ3.out.q hq5)
 have HO5 := lh (hown.quiet hn5)
 have Hg : Hid (w.heap.size + 1 + 1 < g ∧ g < w4.heap.size) := lh ⟨by have := HQ3.out.size; have := Hz1.out; omega, hg2⟩
 clear hq4 hn5 hq5 hown hg1 hg2 r0 r1 r2
 go_wp2_with fail
 generalize hW5 : World.alloc w4 _ = W5 at *
 clear hW5
 generalize hB4 : w4.heap.size = B4 at *
 go_loopw [13] (fun i wr => ∃ k : Nat, k ≤ 64 ∧ i = .int .i64 k ∧ Hid (Own .i64 3 w3.heap.size wr (.slice (some ⟨g, 0, none⟩) f.pix.length gcap) (PK k)) ∧ Hid (Only [g] W5 wr)) (fun i _ => 64 - (intOf i).toNat)
 case atStart => exact ⟨0, by omega, rfl, lh (by rw [HP0.out]; exact HO5.out), lh (Only.refl _ _)⟩
 case round =>
  obtain ⟨k, hk, rfl, HOk, HQk⟩ := hrel
  have hNN : IntKind.i64.wrap (8 * 8) = 64 := by decide
  obtain ⟨q0, q1, q2⟩ := frame_cells (HQk.out.rowAt HB4.out (by rw [mSg]; have := Hg.out; omega))
  obtain ⟨r0, r1, r2⟩ := frame_cells (HQk.out.rowAt (HQ5.out.row HB0.out) (by rw [mSg]; have := Hg.out; omega))
  by_cases hlt : k < 64
  ·have hki : (k : Int) < 64 := by omega
   have hk0 : (0 : Int) ≤ (k : Int) := by omega
   have hlen := HPl.out k hlt
   have hix := HIx.out k hlt
   obtain ⟨bb, bo, bcap', e1, hb1, hb2, cb0⟩ := (HBv.out).at (i := k) (by rw [Hbl.out]; exact hlt)
   injection e1 with e1 e2 e3
   subst e1; subst e3
   have hbg := block_lt_of_cell cb0
   simp only at hbg
   have hgg := Hg.out
   have cb := HQk.out.cell (HQ5.out.cell cb0 (by simp)) (by rw [mSg]; have := Hz1.out; have := Hbw.out _ _ _ rfl k hlt; simp only; omega)
   have eM : (k : Int).tmod 8 = ((k % 8 : Nat) : Int) := by rw [Int.tmod_eq_emod_of_nonneg hk0]; rfl
   have eD : (k : Int).tdiv 8 = ((k / 8 : Nat) : Int) := by rw [Int.tdiv_eq_ediv_of_nonneg hk0]; rfl
   have hcb := Hbs.out.at k
   have hnx := HPn.out k hlt
   have bM : k % 8 < 8 := by omega
   have bD : k / 8 < 8 := by omega
   generalize k % 8 = M at *
   generalize k / 8 = Dv at *
   exact qDRPt0
  ·obtain rfl : k = 64 := by omega
   have hki : ¬ ((64 : Nat) : Int) < 64 := by omega
   exact qDRPt1
end
section
theorem layD_len {f : FrameD} (h : FrOk f) {x y : Int} {n : Nat} (hx : 0 ≤ x) (hxn : x + n ≤ f.W) (hy : 0 ≤ y) (hyn : y + n ≤ f.H) {b : List Int} (hb : b.length = n * n) (hs : SamOk b) : (layD f x y n b).pix.length = f.pix.length := by
 have h1 := (layD_ok h hx hxn hy hyn hb hs).len
 have h2 := h.len
 have h3 : (layD f x y n b).W = f.W := rfl
 have h4 : (layD f x y n b).H = f.H := rfl
 rw [h3, h4] at h1
 omega
theorem FrOk.pos {f : FrameD} (hok : FrOk f) : 0 < f.pix.length ∧ f.pix.length ≤ 1000000 := by
 have e1 := hok.len
 have e2 := hok.w0
 have e3 := hok.h0
 have e4 := hok.w1
 have e5 := hok.h1
 have e6 : 8 * 8 ≤ f.W * f.H := Int.mul_le_mul e2 e3 (by omega) (by omega)
 have e7 : f.W * f.H ≤ 32 * 32 := Int.mul_le_mul e4 e5 (by omega) (by omega)
 omega
theorem qDRBu0 {p : Prop} (h : p := by
 go_enter Tryz.func89, Tryz.ntmps89
 go_wp2_with fail
 generalize hW1 : World.alloc (World.alloc w _) _ = W1 at *
 clear hW1
 go_at_call 129
 refine (HPu.out W1 HQ1.out).mono ?_
 rintro e w2 ⟨v2, rfl, hown, hq2⟩
 obtain ⟨g, gcap, rfl, hg1, hg2⟩ := hown.form (by have := HLn.out; omega)
 rw [HLn.out.1] at hown ⊢
 have hn := (Only.new w2 (.cells #[.int .i64 f.W, .int .i64 f.H, .slice (some ⟨g, 0, none⟩) f.pix.length gcap] 27)).q (Only.new _ (.cells #[.int .i64 0, .slice none 0 0] 45))
 have HR3 := lh ((hq2.q hn).row HR2.out)
 obtain ⟨z0, z1, z2⟩ := frame_cells HR3.out
 have fz0 := frozen_of_row _ _ 0 _ _ HR3.out
 have fz1 := frozen_of_row _ _ 1 _ _ HR3.out
 have fz2 := frozen_of_row _ _ 2 _ _ HR3.out
 obtain ⟨hrow, hon⟩ := row3_set (x := .int .i64 f.W) (y := .int .i64 f.H) (z := .slice (some ⟨g, 0, none⟩) f.pix.length gcap) HR3.out
 have HO3 := lh (hown.quiet hn)
 have HQ3 := lh (HQ1.out.q (hq2.q hn))
 have Hrow := lh hrow
 have Hon := lh hon
 have Hg := lh hg1
 clear hown hq2 hn hg1 hg2 hrow hon
 go_wp2_with fail
 refine bodyPost_ret (v := .agg #[.int .i64 f.W, .int .i64 f.H, .slice (some ⟨g, 0, none⟩) f.pix.length gcap]) (results_cell_row Tryz.results89 _ _ (w.heap.size + 1) _ _ _ _ rfl Hrow.out Tryz.underlying27 rfl (by kernel_rfl)) rfl (HPost.out _ _ ⟨_, rfl, ?_, ?_⟩)
 ·exact (HO3.out.only Hon.out (fun x hx hh => by rw [mSg] at hx; subst hx; simp only [Value.ownBlock] at hh; injection hh with hh; have := Hg.out; have := Hz1.out; omega)).lower HQ1.out.size
 ·exact HQ3.out.trans Hon.out (U := []) (by simp) (fun x hx hlt => by rw [mSg] at hx; omega)) : p := h
theorem kput21_4 {lo hi lo' hi' : Nat} {pv bv : Value} {w : World} {f : FrameD} {x y : Int} {b : List Int} (hok : FrOk f) (h : Ints .i64 lo hi w pv f.pix) (hb : Ints .i64 lo' hi' w bv b) (hbl : b.length = 16) (hbs : SamOk b) (hx : 0 ≤ x) (hxn : x + 4 ≤ f.W) (hy : 0 ≤ y) (hyn : y + 4 ≤ f.H) : Calls Tryz.prog 89 #[.agg #[.int .i64 f.W, .int .i64 f.H, pv], .int .i64 x, .int .i64 y, .int .i64 4, bv] w fun e w' => (∃ v', e = .returned (.agg #[.int .i64 f.W, .int .i64 f.H, v']) ∧ Own .i64 3 w.heap.size w' v' (layD f x y 4 b).pix ∧ Only [] w w') := by
 refine hidQ fun Q HPost => ?_
 obtain ⟨a, cap, rfl, -⟩ := h.open
 obtain ⟨hq1, HR1, HR2, Hz1⟩ := boxes2 w (.cells #[.int .i64 f.W, .int .i64 f.H, .slice a f.pix.length cap] 27) (.cells #[.int .i64 0, .int .i64 0, .slice none 0 0] 27)
 have HPu := lh (fun (W : World) (o : Only [] w W) => kput4_any hok (h.quiet o) (hb.quiet o) hbl hbs hx hxn hy hyn)
 have HLn : Hid ((layD f x y 4 b).pix.length = f.pix.length ∧ 0 < f.pix.length) := lh ⟨layD_len (n := 4) hok hx hxn hy hyn hbl hbs, hok.pos.1⟩
 have HQ1 := lh hq1
 obtain ⟨ba, bcap, rfl, -⟩ := hb.open
 clear h hb hbl hbs hok hx hxn hy hyn hq1
 generalize (layD f x y 4 b).pix = LP at *
 exact qDRBu0
theorem kput21_8 {lo hi lo' hi' : Nat} {pv bv : Value} {w : World} {f : FrameD} {x y : Int} {b : List Int} (hok : FrOk f) (h : Ints .i64 lo hi w pv f.pix) (hb : Ints .i64 lo' hi' w bv b) (hbl : b.length = 64) (hbs : SamOk b) (hx : 0 ≤ x) (hxn : x + 8 ≤ f.W) (hy : 0 ≤ y) (hyn : y + 8 ≤ f.H) : Calls Tryz.prog 89 #[.agg #[.int .i64 f.W, .int .i64 f.H, pv], .int .i64 x, .int .i64 y, .int .i64 8, bv] w fun e w' => (∃ v', e = .returned (.agg #[.int .i64 f.W, .int .i64 f.H, v']) ∧ Own .i64 3 w.heap.size w' v' (layD f x y 8 b).pix ∧ Only [] w w') := by
 refine hidQ fun Q HPost => ?_
 obtain ⟨a, cap, rfl, -⟩ := h.open
 obtain ⟨hq1, HR1, HR2, Hz1⟩ := boxes2 w (.cells #[.int .i64 f.W, .int .i64 f.H, .slice a f.pix.length cap] 27) (.cells #[.int .i64 0, .int .i64 0, .slice none 0 0] 27)
 have HPu := lh (fun (W : World) (o : Only [] w W) => kput8_any hok (h.quiet o) (hb.quiet o) hbl hbs hx hxn hy hyn)
 have HLn : Hid ((layD f x y 8 b).pix.length = f.pix.length ∧ 0 < f.pix.length) := lh ⟨layD_len (n := 8) hok hx hxn hy hyn hbl hbs, hok.pos.1⟩
 have HQ1 := lh hq1
 obtain ⟨ba, bcap, rfl, -⟩ := hb.open
 clear h hb hbl hbs hok hx hxn hy hyn hq1
 generalize (layD f x y 8 b).pix = LP at *
 exact qDRBu0
theorem kforetold_any {lo hi : Nat} {pv : Value} {w : World} {f : FrameD} {x y : Int} {n : Nat} {mode : Int} (hok : FrOk f) (h : Ints .i64 lo hi w pv f.pix) (hn : n = 4 ∨ n = 8) (hm : 0 ≤ mode ∧ mode ≤ 3) (hx : 0 ≤ x) (hxn : x + n ≤ f.W) (hy : 0 ≤ y) (hyn : y + n ≤ f.H) : Calls Tryz.prog 93 #[.agg #[.int .i64 f.W, .int .i64 f.H, pv], .int .i64 x, .int .i64 y, .int .i64 n, .int .i64 mode] w fun e w' => ((∃ v', e = .returned v' ∧ Own .i64 3 w.heap.size w' v' (predD mode (topD f x y n) (leftD f x y n) (sampleD f (x - 1) (y - 1)))) ∧ Only [] w w') := by
 refine hidQ fun Q HPost => ?_
 obtain ⟨a, cap, rfl, -⟩ := h.open
 have hq1 := Only.new w (.cells #[.int .i64 f.W, .int .i64 f.H, .slice a f.pix.length cap] 27)
 have HE := lh (kedges_any hok (h.quiet hq1) x y n hn hx hxn hy hyn)
 have hti := topD_in hok.sam x y n
 have hli := leftD_in hok.sam x y n
 have hci := sampleD_in hok.sam (x - 1) (y - 1)
 have htl := topD_len f x y n
 have hll := leftD_len f x y n
 have HPr : Hid (∀ (lo1 hi1 lo2 hi2 : Nat) (v1 v2 : Value) (W : World), Ints .i64 lo1 hi1 W v1 (topD f x y n) → Ints .i64 lo2 hi2 W v2 (leftD f x y n) → Calls Tryz.prog 136 #[.int .i64 mode, v1, v2, .int .i64 (sampleD f (x - 1) (y - 1))] W fun e w' => (∃ v', e = .returned (.tuple #[v', .agg #[.int .i64 0, .slice none 0 0]]) ∧ Own .i64 3 W.heap.size w' v' (predD mode (topD f x y n) (leftD f x y n) (sampleD f (x - 1) (y - 1)))) ∧ Only [] W w') := lh (fun _ _ _ _ _ _ W h1 h2 => by
  rcases hn with rfl | rfl
  ·exact kpredict4_any h1 h2 htl hll hti hli hci hm
  ·exact kpredict8_any h1 h2 htl hll hti hli hci hm)
 have HLt : Hid ((topD f x y n).length = n ∧ (leftD f x y n).length = n ∧ 0 < n) := lh ⟨htl, hll, by omega⟩
 have HR1 : Hid ((w.alloc (.cells #[.int .i64 f.W, .int .i64 f.H, .slice a f.pix.length cap] 27)).heap[w.heap.size]? = some (.cells #[.int .i64 f.W, .int .i64 f.H, .slice a f.pix.length cap] 27 (0, 0))) := lh (heap_alloc_new w _)
 have HQ1 := lh hq1
 clear h hq1 hti hli hci htl hll hok hx hxn hy hyn hn hm
 generalize predD mode (topD f x y n) (leftD f x y n) (sampleD f (x - 1) (y - 1)) = PD at *
 generalize topD f x y n = T at *
 generalize leftD f x y n = L at *
 generalize sampleD f (x - 1) (y - 1) = cn at *
 go_enter Tryz.func93, Tryz.ntmps93
 obtain ⟨r0, r1, r2⟩ := frame_cells HR1.out
 go_wp2_with fail
 generalize hW1 : World.alloc w _ = W1 at *
 clear hW1 r0 r1 r2
 go_at_call 135
 refine HE.out.mono ?_
 rintro e w2 ⟨v1, v2, rfl, hown1, hown2, hq2⟩
 obtain ⟨g1, c1, rfl, -, -⟩ := hown1.form (by have := HLt.out; omega)
 obtain ⟨g2, c2, rfl, -, -⟩ := hown2.form (by have := HLt.out; omega)
 have HO1 := lh hown1
 have HO2 := lh hown2
 have HQ2 := lh hq2
 clear hown1 hown2 hq2
 go_wp2_with fail
 go_at_call 136
 refine (HPr.out _ _ _ _ _ _ w2 HO1.out.ints HO2.out.ints).mono ?_
 rintro e w3 ⟨⟨v3, rfl, hown⟩, hq3⟩
 have HO3 := lh (hown.quiet (Only.new w3 (.cells #[.int .i64 0, .slice none 0 0] 45)))
 have HQ3 := lh (HQ2.out.q (hq3.q (Only.new w3 (.cells #[.int .i64 0, .slice none 0 0] 45))))
 have Hz2 := lh HQ2.out.size
 clear hown hq3
 go_wp2_with fail
 refine HPost.out _ _ ⟨⟨_, rfl, ?_⟩, HQ1.out.q HQ3.out⟩
 exact HO3.out.lower (Nat.le_trans HQ1.out.size Hz2.out)
end
end Go.Proofs.YthgpgbdkcdmbpaaGreatDoor
