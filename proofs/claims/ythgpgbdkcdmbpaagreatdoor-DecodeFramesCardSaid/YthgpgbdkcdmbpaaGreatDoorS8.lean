/- Joined texts: DRk12, DCod, DRk13. Conditions: each part names its own. -/
import Derived.Test.YthgpgbdkcdmbpaaGreatDoorK4
import Derived.Test.YthgpgbdkcdmbpaaGreatDoorZDRQt
import Derived.Test.YthgpgbdkcdmbpaaGreatDoorK1
import Derived.Test.YthgpgbdkcdmbpaaGreatDoorS1
namespace Go.Proofs.YthgpgbdkcdmbpaaGreatDoor
open Go.RowKit
set_option linter.unusedVariables false
set_option linter.unusedSimpArgs false
set_option maxRecDepth 100000
set_option maxHeartbeats 16000000
/-- the document's range decoder's cells in block D -/
structure KRow (lo hi D : Nat) (w : World) (bv : Value) (d : Rac) : Prop where
 row : w.heap[D]? = some (.cells #[bv, .int .i64 d.pos, .int .i64 d.off, .int .i64 d.r] 203 (0, 0))
 bytes : Ints .u8 lo hi w bv d.b
 hD : hi ≤ D
theorem KRow.lt {lo hi D : Nat} {w : World} {bv : Value} {d : Rac} (h : KRow lo hi D w bv d) : D < w.heap.size := (Array.getElem?_eq_some_iff.1 h.row).1
theorem KRow.only {lo hi D : Nat} {w w' : World} {bv : Value} {d : Rac} {S : List Nat} (h : KRow lo hi D w bv d) (o : Only S w w') (hS : ∀ g ∈ S, hi ≤ g ∧ g ≠ D) : KRow lo hi D w' bv d :=
 ⟨o.rowAt h.row (fun hm => (hS D hm).2 rfl), h.bytes.only o (fun g hg => .inr (hS g hg).1), h.hD⟩
theorem KRow.quiet {lo hi D : Nat} {w w' : World} {bv : Value} {d : Rac} (h : KRow lo hi D w bv d) (o : Only [] w w') : KRow lo hi D w' bv d := h.only o (by simp)
theorem KRow.set1 {lo hi D : Nat} {w : World} {bv : Value} {d : Rac} (h : KRow lo hi D w bv d) (p : Nat) : KRow lo hi D (w.setCell ⟨D, 1, none⟩ (.int .i64 p)) bv { d with pos := p } ∧ Only [D] w (w.setCell ⟨D, 1, none⟩ (.int .i64 p)) := by
 have o : Only [D] w (w.setCell ⟨D, 1, none⟩ (.int .i64 p)) := (Only.refl _ _).setCell (by simp) _
 exact ⟨⟨heap_setCell_same w D 1 _ _ _ h.row, h.bytes.only o (fun g hg => by rw [mSg] at hg; subst hg; exact .inr h.hD), h.hD⟩, o⟩
theorem KRow.set2 {lo hi D : Nat} {w : World} {bv : Value} {d : Rac} (h : KRow lo hi D w bv d) (p : Int) : KRow lo hi D (w.setCell ⟨D, 2, none⟩ (.int .i64 p)) bv { d with off := p } ∧ Only [D] w (w.setCell ⟨D, 2, none⟩ (.int .i64 p)) := by
 have o : Only [D] w (w.setCell ⟨D, 2, none⟩ (.int .i64 p)) := (Only.refl _ _).setCell (by simp) _
 exact ⟨⟨heap_setCell_same w D 2 _ _ _ h.row, h.bytes.only o (fun g hg => by rw [mSg] at hg; subst hg; exact .inr h.hD), h.hD⟩, o⟩
theorem KRow.set3 {lo hi D : Nat} {w : World} {bv : Value} {d : Rac} (h : KRow lo hi D w bv d) (p : Int) : KRow lo hi D (w.setCell ⟨D, 3, none⟩ (.int .i64 p)) bv { d with r := p } ∧ Only [D] w (w.setCell ⟨D, 3, none⟩ (.int .i64 p)) := by
 have o : Only [D] w (w.setCell ⟨D, 3, none⟩ (.int .i64 p)) := (Only.refl _ _).setCell (by simp) _
 exact ⟨⟨heap_setCell_same w D 3 _ _ _ h.row, h.bytes.only o (fun g hg => by rw [mSg] at hg; subst hg; exact .inr h.hD), h.hD⟩, o⟩
/-- the document's range decoder stands as one of the program's: its number may be beyond the range -/
structure KDecAt (lo hi D : Nat) (w : World) (bv : Value) (d : Rac) (x : Int) : Prop where
 row : KRow lo hi D w bv ⟨d.b, d.pos, x, d.r⟩
 off : d.off = min x d.r
 x0 : 0 ≤ x
 x1 : x ≤ 1099511627776
theorem KDecAt.only {lo hi D : Nat} {w w' : World} {bv : Value} {d : Rac} {x : Int} {S : List Nat} (h : KDecAt lo hi D w bv d x) (o : Only S w w') (hS : ∀ g ∈ S, hi ≤ g ∧ g ≠ D) : KDecAt lo hi D w' bv d x :=
 ⟨h.row.only o hS, h.off, h.x0, h.x1⟩
theorem KDecAt.quiet {lo hi D : Nat} {w w' : World} {bv : Value} {d : Rac} {x : Int} (h : KDecAt lo hi D w bv d x) (o : Only [] w w') : KDecAt lo hi D w' bv d x := h.only o (by simp)
theorem qDRk121 {p : Prop} (h : p := by
 go_wp2_with fail
 go_quiet (fail)
 go_wp2_with fail
 all_goals (refine bodyPost_end (results_none Tryz.results117 _ _ _) rfl (HPost.out _ _ ⟨rfl, HSet.out _ _ _ ((Only.refl _ _).drewN _) rfl ?_⟩); first | omega | (split <;> omega))) : p := h
theorem kdnext_any {lo hi D : Nat} {bv : Value} {d : Rac} {w : World} (h : KRow lo hi D w bv d) (r8 : ∀ x ∈ d.b, InK .u8 x) (hp : d.pos ≤ 1000000000000) (hx0 : 0 ≤ d.off) (hx1 : d.off ≤ 1099511627776) :
  Calls Tryz.prog 117 #[.pointer (some ⟨D, 0, none⟩)] w fun e w' => e = .returned (.tuple #[]) ∧ KRow lo hi D w' bv ⟨d.b, d.pos + 1, min (d.off * 256 + d.byte) 1099511627776, d.r⟩ ∧ Only [D] w w' := by
 refine hidQ fun Q HPost => ?_
 obtain ⟨pb, pp, po, pr⟩ := d
 have hrow := h.row
 obtain ⟨ba, bcap, rfl, hbc, hbm, hbat, hbcell⟩ := h.bytes.open
 obtain ⟨c0, c1, c2, c3⟩ := cells4 hrow
 have f1 := frozen_of_row w D 1 _ _ hrow
 have f2 := frozen_of_row w D 2 _ _ hrow
 have hbl : (pb.length : Int) ≤ 9223372036854775807 := by unfold maxLen at hbm; simp only at hbc; omega
 have hp0 : (0 : Int) ≤ (pp : Int) := by omega
 have hpi : (pp : Int) ≤ 1000000000000 := by simp only at hp; omega
 simp only at c0 c1 c2 c3 hbat hbcell hx0 hx1
 have hset : ∀ W N1 X1, Only [] w W → N1 = ((pp : Int) + 1) → X1 = min (po * 256 + (⟨pb, pp, po, pr⟩ : Rac).byte) 1099511627776 → KRow lo hi D ((W.setCell ⟨D, 1, none⟩ (.int .i64 N1)).setCell ⟨D, 2, none⟩ (.int .i64 X1)) (.slice ba pb.length bcap) ⟨pb, pp + 1, min (po * 256 + (⟨pb, pp, po, pr⟩ : Rac).byte) 1099511627776, pr⟩ ∧ Only [D] w ((W.setCell ⟨D, 1, none⟩ (.int .i64 N1)).setCell ⟨D, 2, none⟩ (.int .i64 X1)) := by
  rintro W N1 X1 o rfl rfl
  obtain ⟨x, y⟩ := (h.quiet o).set1 (pp + 1)
  obtain ⟨z, u⟩ := x.set2 (min (po * 256 + (⟨pb, pp, po, pr⟩ : Rac).byte) 1099511627776)
  exact ⟨z, ((o.mono (U := [D]) (by simp)).trans y (fun g h _ => h) (fun g h _ => h)).trans u (fun g h _ => h) (fun g h _ => h)⟩
 have HSet := lh hset
 have hby := Rac.byte_in (d := ⟨pb, pp, po, pr⟩) r8
 clear h hrow hset hbm hbc
 have hbyte : (⟨pb, pp, po, pr⟩ : Rac).byte = pb.getD pp 0 := rfl
 rw [hbyte] at HPost HSet hby
 by_cases hlt : pp < pb.length
 ·obtain ⟨b, off, rfl, _, _⟩ := hbat pp hlt
  have e1 := hbcell b off rfl pp hlt
  have hlti : (pp : Int) < (pb.length : Int) := by omega
  clear hbat hbcell
  generalize hx : pb.getD pp 0 = x at *
  have Hx := lh hx
  clear hx hbyte
  go_enter Tryz.func117, Tryz.ntmps117
  go_wp2_with fail
  go_quiet (fail)
  exact qDRk121
 ·have hlti : ¬ (pp : Int) < (pb.length : Int) := by omega
  have hx0' : pb.getD pp 0 = 0 := by rw [List.getD_eq_getElem?_getD, List.getElem?_eq_none (by omega)]; rfl
  rw [hx0'] at HPost HSet hby
  clear hbat hbcell hx0' hbyte
  go_enter Tryz.func117, Tryz.ntmps117
  exact qDRk121
theorem qDRk120 {p : Prop} (h : p := by
 rw [← hd2] at HM
 have HPos : Hid (d2.pos = pp) := lh (by rw [hd2])
 have hpp : pp ≤ 1000000000 := hp
 clear hd2 m1 m2 h ok hoff
 go_enter Tryz.func172, Tryz.ntmps172
 go_wp2_with fail
 generalize hWg : World.setCell _ _ _ = Wg
 rw [hWg] at HW
 have hp2 : d2.pos ≤ 1000000000 := by rw [HPos.out]; exact hp
 clear hWg c0 c1 c2 c3 f2 f3
 go_loopw [37] (fun u wr => ∃ (k : Nat) (dc : Rac) (x : Int), k ≤ 2 ∧ Hid (KDecAt lo hi D wr bv dc x) ∧ RacMid k dc ∧ Hid (Rac.fix k dc = Rac.fix 2 d2) ∧ dc.pos + k ≤ d2.pos + 2 ∧ Only [D] w wr) (fun _ wr => (4294967296 - intOf ((wr.cell? ⟨D, 3, none⟩).getD (.int .i64 0))).toNat)
 case atStart => exact ⟨2, d2, _, by omega, lh HW.out.1, HM.out, lh rfl, by omega, HW.out.2⟩
 case round =>
  obtain ⟨k, dc, x, hk, Hk, hm, Hfix, hpos, hq⟩ := hrel
  obtain ⟨c0, c1, c2, c3⟩ := cells4 Hk.out.row.row
  have f3 := frozen_of_row wr D 3 _ _ Hk.out.row.row
  have hr1 := hm.hi
  have hr0 := hm.r0
  have ho0 := hm.o0
  have ho1 := hm.o1
  have Hm := lh hm
  have HQ := lh hq
  have hoff := Hk.out.off
  have hx0 := Hk.out.x0
  have hx1 := Hk.out.x1
  obtain ⟨cb, cp, co, cr⟩ := dc
  simp only at c0 c1 c2 c3 hr1 hr0 ho0 ho1 hpos hoff
  clear hm hq
  by_cases hlt : cr < 16777216
  ·obtain ⟨k', rfl⟩ : ∃ k', k = k' + 1 := by
    cases k with
    | zero => have := Hm.out.lo; simp at this; omega
    | succ k' => exact ⟨k', rfl⟩
   have hby := Rac.byte_in Hm.out.r8
   obtain ⟨hk3, hq3⟩ := Hk.out.row.set3 (cr * 256)
   have Hn := lh (kdnext_any hk3 Hm.out.r8 (by simp only; omega) hx0 hx1)
   have Hq3 := lh hq3
   have Hoff := lh (show min (co * 256 + (⟨cb, cp, co, cr⟩ : Rac).byte) (cr * 256) = min (min (x * 256 + (⟨cb, cp, co, cr⟩ : Rac).byte) 1099511627776) (cr * 256) by omega)
   have Hx0 := lh (show 0 ≤ min (x * 256 + (⟨cb, cp, co, cr⟩ : Rac).byte) 1099511627776 by omega)
   clear hk3 hq3 hoff
   go_wp2_with fail
   go_at_call 117
   refine Hn.out.mono ?_
   rintro e w1 ⟨rfl, hk1, hq1⟩
   have Hk1 := lh hk1
   have HqA := lh ((HQ.out.trans Hq3.out (U := [D]) (fun g h _ => h) (fun g h _ => h)).trans hq1 (U := [D]) (fun g h _ => h) (fun g h _ => h))
   clear hk1 hq1
   go_wp2_with fail
   refine ⟨⟨k', Rac.shift ⟨cb, cp, co, cr⟩, _, by omega, lh ⟨Hk1.out, Hoff.out, Hx0.out, by omega⟩, Hm.out.shift hlt, lh ?_, ?_, HqA.out⟩, ?_⟩
   ·rw [← Hfix.out]; exact (if_pos hlt).symm
   ·show cp + 1 + k' ≤ _; omega
   ·rw [(cells4 Hk1.out.row).2.2.2, (cells4 Hk.out.row.row).2.2.2]
    simp only [intOf, Option.getD_some]
    omega
  ·have hlt' : 16777216 ≤ cr := by omega
   have hdone : Rac.fix 2 d2 = ⟨cb, cp, co, cr⟩ := by rw [← Hfix.out]; exact fix_done hlt
   have HDone := lh hdone
   clear hdone
   go_wp2_with fail
   refine HPost.out _ _ ?_
   rw [HN.out, HDone.out]
   exact ⟨rfl, ⟨x, Hk.out⟩, HQ.out⟩) : p := h
theorem kdnarrow_any {lo hi D : Nat} {bv : Value} {d : Rac} {x y : Int} {w : World} (h : KDecAt lo hi D w bv d y) (ok : RacOk d) (h1 : 8192 ≤ x) (h2 : x ≤ d.r - 8192) (hp : d.pos ≤ 1000000000) :
  Calls Tryz.prog 172 #[.pointer (some ⟨D, 0, none⟩), .int .i64 x] w fun e w' => (e = .returned (.bool (d.narrow x).1) ∧ (∃ y', KDecAt lo hi D w' bv (d.narrow x).2 y') ∧ Only [D] w w') := by
 refine hidQ fun Q HPost => ?_
 obtain ⟨m1, m2⟩ := narrow_mid ok h1 h2
 obtain ⟨c0, c1, c2, c3⟩ := cells4 h.row.row
 have f2 := frozen_of_row w D 2 _ _ h.row.row
 have f3 := frozen_of_row w D 3 _ _ h.row.row
 have HK := lh h
 have o0 := ok.o0
 have o1 := ok.o1
 have r1 := ok.hi
 have hoff := h.off
 have hy0 := h.x0
 have hy1 := h.x1
 obtain ⟨pb, pp, po, pr⟩ := d
 simp only at c0 c1 c2 c3 o0 o1 r1 h2 m1 m2 hoff
 by_cases hx : x ≤ po
 ·obtain ⟨d2, hd2⟩ : ∃ d2 : Rac, d2 = ⟨pb, pp, po - x, pr - x⟩ := ⟨_, rfl⟩
  have HN : Hid ((⟨pb, pp, po, pr⟩ : Rac).narrow x = (true, Rac.fix 2 d2)) := lh (by rw [hd2]; exact if_pos hx)
  have HM := lh (m1 hx)
  have hxy : x ≤ y := by omega
  have HW : Hid (KDecAt lo hi D ((w.setCell ⟨D, 2, none⟩ (.int .i64 (y - x))).setCell ⟨D, 3, none⟩ (.int .i64 (pr - x))) bv d2 (y - x) ∧ Only [D] w ((w.setCell ⟨D, 2, none⟩ (.int .i64 (y - x))).setCell ⟨D, 3, none⟩ (.int .i64 (pr - x)))) := lh (by
   obtain ⟨a, b⟩ := HK.out.row.set2 (y - x)
   obtain ⟨p, q⟩ := a.set3 (pr - x)
   exact ⟨⟨by rw [hd2]; exact p, by rw [hd2]; show po - x = min (y - x) (pr - x); omega, by omega, by omega⟩, b.trans q (fun g h _ => h) (fun g h _ => h)⟩)
  exact qDRk120
 ·obtain ⟨d2, hd2⟩ : ∃ d2 : Rac, d2 = ⟨pb, pp, po, x⟩ := ⟨_, rfl⟩
  have HN : Hid ((⟨pb, pp, po, pr⟩ : Rac).narrow x = (false, Rac.fix 2 d2)) := lh (by rw [hd2]; exact if_neg hx)
  have HM := lh (m2 hx)
  have hxy : ¬ x ≤ y := by omega
  have HW : Hid (KDecAt lo hi D (w.setCell ⟨D, 3, none⟩ (.int .i64 x)) bv d2 y ∧ Only [D] w (w.setCell ⟨D, 3, none⟩ (.int .i64 x))) := lh (by
   obtain ⟨p, q⟩ := HK.out.row.set3 x
   exact ⟨⟨by rw [hd2]; exact p, by rw [hd2]; show po = min y x; omega, by omega, by omega⟩, q⟩)
  exact qDRk120
theorem kdcode_any {lo hi D : Nat} {bv : Value} {d : Rac} {p y : Int} {w : World} (h : KDecAt lo hi D w bv d y) (ok : RacOk d) (h1 : 1 ≤ p) (h2 : p ≤ 2047) (hp : d.pos ≤ 1000000000) :
  Calls Tryz.prog 155 #[.pointer (some ⟨D, 0, none⟩), .int .i64 p] w fun e w' => e = .returned (.tuple #[.bool (d.narrow (d.r / 2048 * p)).1, .agg #[.int .i64 0, .slice none 0 0]]) ∧ (∃ y', KDecAt lo hi D w' bv (d.narrow (d.r / 2048 * p)).2 y') ∧ Only [D] w w' := by
 obtain ⟨w1, w2⟩ := chance_w ok.lo ok.hi h1 h2
 have hn := Only.new w (.cells #[.int .i64 0, .slice none 0 0] 45)
 have H := lh (kdnarrow_any (h.quiet hn) ok w1 w2 hp)
 obtain ⟨c0, c1, c2, c3⟩ := cells4 h.row.row
 have r0 := ok.lo
 have r1 := ok.hi
 have hz : IntKind.i64.wrap (d.r / 2048 * p) = d.r / 2048 * p := by rw [IntKind.wrap_i64]; omega
 have hdv : d.r.tdiv 2048 = d.r / 2048 := Int.tdiv_eq_ediv_of_nonneg (by omega)
 have hp1 : ¬ p < 1 := by omega
 have hp2 : ¬ 2047 < p := by omega
 have hDl := h.row.lt
 have hhD := h.row.hD
 have HN := lh hn
 have HR := lh (heap_alloc_new w (.cells #[.int .i64 0, .slice none 0 0] 45))
 clear h ok hn
 simp only at c0 c1 c2 c3
 go_enter Tryz.func155, Tryz.ntmps155
 go_wp2_with fail
 go_at_call 172
 refine H.out.mono ?_
 rintro e w1 ⟨rfl, hk, hq⟩
 have HE := lh (hq.rowAt HR.out (by rw [mSg]; omega))
 have Hk := lh hk
 have Hq := lh hq
 clear hk hq
 obtain ⟨z0, z1, y0, y1, -⟩ := row2 HE.out
 go_wp2_with fail
 obtain ⟨hrow, hon⟩ := row2_set (x := .int .i64 0) (y := .slice none 0 0) HE.out
 obtain ⟨y', hk'⟩ := Hk.out
 refine bodyPost_ret (results_tmp_cell Tryz.results155 _ _ w.heap.size _ _ _ _ _ rfl rfl hrow Tryz.underlying45 rfl (err_info _ rfl)) rfl ⟨rfl, ⟨y', hk'.only hon (fun g hg => ?_)⟩, ?_⟩
 ·rw [mSg] at hg; subst hg; exact ⟨by omega, by omega⟩
 ·exact ((HN.out.mono (U := [D]) (by simp)).trans Hq.out (U := [D]) (fun g h _ => h) (fun g h _ => h)).trans hon (U := [D]) (fun g h _ => h) (fun g hg hlt => by rw [mSg] at hg; omega)
theorem kdflat_any {lo hi D : Nat} {bv : Value} {d : Rac} {y : Int} {w : World} (h : KDecAt lo hi D w bv d y) (ok : RacOk d) (hp : d.pos ≤ 1000000000) :
  Calls Tryz.prog 153 #[.pointer (some ⟨D, 0, none⟩)] w fun e w' => e = .returned (.bool (d.narrow (d.r / 2)).1) ∧ (∃ y', KDecAt lo hi D w' bv (d.narrow (d.r / 2)).2 y') ∧ Only [D] w w' := by
 have r0 := ok.lo
 have r1 := ok.hi
 have H := lh (kdnarrow_any h ok (x := d.r / 2) (by omega) (by omega) hp)
 obtain ⟨c0, c1, c2, c3⟩ := cells4 h.row.row
 have hdv : d.r.tdiv 2 = d.r / 2 := Int.tdiv_eq_ediv_of_nonneg (by omega)
 clear h ok
 simp only at c0 c1 c2 c3
 go_enter Tryz.func153, Tryz.ntmps153
 go_wp2_with fail
 go_at_call 172
 refine H.out.mono ?_
 rintro e w1 ⟨rfl, hk, hq⟩
 go_wp2_with fail
 go_ret
 exact ⟨rfl, hk, hq⟩
theorem kdnew_any {lo hi : Nat} {v : Value} {l : List Int} {w : World} (h : Ints .u8 lo hi w v l) (hl : l.length ≤ 100000000) :
  Calls Tryz.prog 83 #[v] w fun e w' => ∃ D bv hi' y, e = .returned (.pointer (some ⟨D, 0, none⟩)) ∧ KDecAt w.heap.size hi' D w' bv (racNew l) y ∧ Only [] w w' ∧ w.heap.size ≤ hi' ∧ hi' ≤ D := by
 refine hidQ fun Q HPost => ?_
 have Hr := lh h.2
 obtain ⟨a, cap, hv, _⟩ := h.open
 subst hv
 have HC := lh (copyb_any h (by omega))
 clear h hl
 go_enter Tryz.func83, Tryz.ntmps83
 go_wp2_with fail
 go_at_call 42
 refine HC.out.mono ?_
 rintro e w1 ⟨bv, rfl, hown, hq1⟩
 obtain ⟨x1, x1cap, hx1, _⟩ := hown.ints.open
 subst hx1
 have HOwn := lh hown
 have HQ1 := lh hq1
 clear hown hq1
 go_wp2_with fail
 have hqn := Only.new w1 (.cells #[.slice x1 l.length x1cap, .int .i64 0, .int .i64 0, .int .i64 4294967295] 203)
 have hD0 : KRow w.heap.size w1.heap.size w1.heap.size (w1.alloc (.cells #[.slice x1 l.length x1cap, .int .i64 0, .int .i64 0, .int .i64 4294967295] 203)) (.slice x1 l.length x1cap) ⟨l, 0, offN l 0, 4294967295⟩ :=
  ⟨heap_alloc_new _ _, HOwn.out.ints.quiet hqn, Nat.le_refl _⟩
 have HD0 := lh hD0
 have HQ0 := lh (HQ1.out.q hqn)
 have hz1 := HQ1.out.size
 clear hqn hD0
 generalize World.alloc w1 _ = W2 at *
 generalize w1.heap.size = D at *
 go_loopw [4] (fun i wr => ∃ k : Nat, k ≤ 4 ∧ i = .int .i64 k ∧ Hid (KRow w.heap.size D D wr (.slice x1 l.length x1cap) ⟨l, k, offN l k, 4294967295⟩) ∧ Hid (Only [D] W2 wr)) (fun i _ => 4 - (intOf i).toNat)
 case atStart => exact ⟨0, by omega, rfl, HD0, lh (Only.refl _ _)⟩
 case round =>
  obtain ⟨k, hk, rfl, HD, HQ⟩ := hrel
  by_cases hlt : k < 4
  ·have hlti : (k : Int) < 4 := by omega
   have ho0 := (offN_in Hr.out k).1
   have ho1 := offN_small Hr.out hlt
   have hby := Rac.byte_in (d := ⟨l, k, offN l k, 4294967295⟩) Hr.out
   have Hn := lh (kdnext_any HD.out Hr.out (by simp only; omega) ho0 (by simp only; omega))
   have Hon : Hid (min (offN l k * 256 + (⟨l, k, offN l k, 4294967295⟩ : Rac).byte) 1099511627776 = offN l (k + 1)) := lh (by
    show _ = offN l k * 256 + (⟨l, k, offN l k, 4294967295⟩ : Rac).byte
    omega)
   clear ho0 ho1 hby
   go_wp2_with fail
   go_at_call 117
   refine Hn.out.mono ?_
   rintro e w3 ⟨rfl, hk1, hq1⟩
   have Hk1 := lh hk1
   have HqA := lh (HQ.out.trans hq1 (U := [D]) (fun g h _ => h) (fun g h _ => h))
   clear hk1 hq1 Hn
   go_wp2_with fail
   refine ⟨⟨k + 1, by omega, by go_num, lh ?_, HqA⟩, by simp [intOf]; omega⟩
   rw [← Hon.out]
   exact Hk1.out
  ·obtain rfl : k = 4 := by omega
   have hlti : ¬ ((4 : Nat) : Int) < 4 := by omega
   go_wp2_with fail
   have h4 := offN_in Hr.out 4
   refine HPost.out _ _ ⟨D, .slice x1 l.length x1cap, D, offN l 4, rfl, ?_, ?_, hz1, Nat.le_refl _⟩
   ·rw [racNew_off]; exact ⟨HD.out, by show offN l 4 = min (offN l 4) 4294967295; omega, h4.1, by omega⟩
   ·exact HQ0.out.trans HQ.out (by simp) (fun g hg hlt => by rw [mSg] at hg; omega)
/-- a coder: a bit by a context, a flat bit; the bit asked for is what a writer writes -/
structure CodO (σ : Type) where
 bit : Nat → Bool → σ → Bool × σ
 flat : Bool → σ → Bool × σ
section
variable {σ : Type} (C : CodO σ)
/-- how many ones stand ahead of a zero, at most k: asked is whether v is more than what was counted -/
def onesG (f : Nat → Nat) (v : Int) : Nat → Nat → σ → Nat × σ
 | 0, n, s => (n, s)
 | k + 1, n, s => if (C.bit (f n) (decide ((n : Int) < v)) s).1 then onesG f v k (n + 1) (C.bit (f n) (decide ((n : Int) < v)) s).2 else (n, (C.bit (f n) (decide ((n : Int) < v)) s).2)
def kindG (v : Int) (s : σ) : Nat × σ := onesG C (fun n => min n 63) v 3 0 s
/-- a mode that is asked, within its bounds -/
def modeG2 (m : Int) (s : σ) : Nat × σ :=
 if (C.bit 3 (decide (1 < m)) s).1 then (if (C.bit 5 (decide (m % 2 = 1)) (C.bit 3 (decide (1 < m)) s).2).1 then 3 else 2, (C.bit 5 (decide (m % 2 = 1)) (C.bit 3 (decide (1 < m)) s).2).2)
 else (if (C.bit 4 (decide (m % 2 = 1)) (C.bit 3 (decide (1 < m)) s).2).1 then 1 else 0, (C.bit 4 (decide (m % 2 = 1)) (C.bit 3 (decide (1 < m)) s).2).2)
def modeG (v : Int) (s : σ) : Nat × σ := modeG2 C (min (max v 0) 3) s
def partG3 (v : Int) (b : Bool) (s : σ) : Int × σ := (signD b (onesG C (fun n => 7 + min n 6) (max v (-v) - 1) 14 0 s).1, (onesG C (fun n => 7 + min n 6) (max v (-v) - 1) 14 0 s).2)
def partG2 (v : Int) (s : σ) : Int × σ :=
 if (C.bit 6 (decide (v ≠ 0)) s).1 then partG3 C v (C.flat (decide (v < 0)) (C.bit 6 (decide (v ≠ 0)) s).2).1 (C.flat (decide (v < 0)) (C.bit 6 (decide (v ≠ 0)) s).2).2 else (0, (C.bit 6 (decide (v ≠ 0)) s).2)
def partG (v : Int) (s : σ) : Int × σ := partG2 C (min (max v (-15)) 15) s
def flatsG (u : Int) : Nat → Nat → σ → Nat × σ
 | 0, n, s => (n, s)
 | k + 1, n, s => if (C.flat (decide ((2 : Int) ^ (n + 1) ≤ u)) s).1 then flatsG u k (n + 1) (C.flat (decide ((2 : Int) ^ (n + 1) ≤ u)) s).2 else (n, (C.flat (decide ((2 : Int) ^ (n + 1) ≤ u)) s).2)
def bitsG (u : Int) : Nat → Nat → σ → Nat × σ
 | 0, n, s => (n, s)
 | k + 1, n, s => bitsG u k (if (C.flat (decide (u / (2 : Int) ^ k % 2 = 1)) s).1 then 2 * n + 1 else 2 * n) (C.flat (decide (u / (2 : Int) ^ k % 2 = 1)) s).2
def greatG (u : Int) (s : σ) : Nat × σ := bitsG C u (flatsG C u 13 0 s).1 1 (flatsG C u 13 0 s).2
def sizeG (base : Nat) (v : Int) (s : σ) : Nat × σ :=
 if (onesG C (fun n => base + 17 + min n 7) v 14 0 s).1 = 14 then (13 + (greatG C (v - 13) (onesG C (fun n => base + 17 + min n 7) v 14 0 s).2).1, (greatG C (v - 13) (onesG C (fun n => base + 17 + min n 7) v 14 0 s).2).2)
 else onesG C (fun n => base + 17 + min n 7) v 14 0 s
def levelG (base : Nat) (v : Int) (s : σ) : Int × σ := (signD (C.flat (decide (v < 0)) s).1 (sizeG C base (max v (-v) - 1) (C.flat (decide (v < 0)) s).2).1, (sizeG C base (max v (-v) - 1) (C.flat (decide (v < 0)) s).2).2)
/-- are the levels at these places all 0? -/
def zerosAt (l : List Int) (o : List Nat) : Bool := o.all fun a => l.getD a 0 == 0
/-- levels, told in their order from the i-th on -/
def coefGoG (base last : Nat) (l : List Int) : List Nat → Nat → List Int → σ → Except Err (List Int) × σ
 | [], i, out, m => (.ok out, m)
 | a :: rest, i, out, m =>
  if i < last then
   if (C.bit (base + 1 + min i 7) (decide (l.getD a 0 ≠ 0)) m).1 then
    if (levelG C base (l.getD a 0) (C.bit (base + 1 + min i 7) (decide (l.getD a 0 ≠ 0)) m).2).1 < -16320 ∨ 16320 < (levelG C base (l.getD a 0) (C.bit (base + 1 + min i 7) (decide (l.getD a 0 ≠ 0)) m).2).1 then (.error ⟨[(sCoef, (i : Int))], 3⟩, (levelG C base (l.getD a 0) (C.bit (base + 1 + min i 7) (decide (l.getD a 0 ≠ 0)) m).2).2)
    else if (C.bit (base + 9 + min i 7) (zerosAt l rest) (levelG C base (l.getD a 0) (C.bit (base + 1 + min i 7) (decide (l.getD a 0 ≠ 0)) m).2).2).1 then (.ok (out.set a (levelG C base (l.getD a 0) (C.bit (base + 1 + min i 7) (decide (l.getD a 0 ≠ 0)) m).2).1), (C.bit (base + 9 + min i 7) (zerosAt l rest) (levelG C base (l.getD a 0) (C.bit (base + 1 + min i 7) (decide (l.getD a 0 ≠ 0)) m).2).2).2)
    else coefGoG base last l rest (i + 1) (out.set a (levelG C base (l.getD a 0) (C.bit (base + 1 + min i 7) (decide (l.getD a 0 ≠ 0)) m).2).1) (C.bit (base + 9 + min i 7) (zerosAt l rest) (levelG C base (l.getD a 0) (C.bit (base + 1 + min i 7) (decide (l.getD a 0 ≠ 0)) m).2).2).2
   else coefGoG base last l rest (i + 1) out (C.bit (base + 1 + min i 7) (decide (l.getD a 0 ≠ 0)) m).2
  else
   if (levelG C base (l.getD a 0) m).1 < -16320 ∨ 16320 < (levelG C base (l.getD a 0) m).1 then (.error ⟨[(sCoef, (i : Int))], 3⟩, (levelG C base (l.getD a 0) m).2)
   else coefGoG base last l rest (i + 1) (out.set a (levelG C base (l.getD a 0) m).1) (levelG C base (l.getD a 0) m).2
def zeroB (l : List Int) : Bool := l.all (· == 0)
def coefG (side : Nat) (l : List Int) (m : σ) : Except Err (List Int) × σ :=
 if (C.bit (baseD side) (!zeroB l) m).1 then coefGoG C (baseD side) (side * side - 1) l (orderD side) 0 (List.replicate (side * side) 0) (C.bit (baseD side) (!zeroB l) m).2
 else (.ok (List.replicate (side * side) 0), (C.bit (baseD side) (!zeroB l) m).2)
/-- a small square's four parts, from the i-th on: k are left; qm, ql: what is asked -/
def smallGoG (qm : List Int) (ql : List (List Int)) : Nat → List Int → List (List Int) → σ → Except Err (List Int × List (List Int)) × σ
 | 0, ms, ls, m => (.ok (ms, ls), m)
 | k + 1, ms, ls, m =>
  match (coefG C 4 (ql.getD ls.length []) (modeG C (qm.getD ms.length 0) m).2).1 with
  | .error e => (.error e, (coefG C 4 (ql.getD ls.length []) (modeG C (qm.getD ms.length 0) m).2).2)
  | .ok l => smallGoG qm ql k (ms ++ [((modeG C (qm.getD ms.length 0) m).1 : Int)]) (ls ++ [l]) (coefG C 4 (ql.getD ls.length []) (modeG C (qm.getD ms.length 0) m).2).2
/-- a square that is asked of a coder: its kind and its mode any numbers -/
structure AskD where
 kind : Int
 mode : Int
 modes : List Int
 vx : Int
 vy : Int
 large : List Int
 small : List (List Int)
def kindKG (key : Bool) (k : Int) (m : σ) : Nat × σ := if key then (if (C.flat (decide (k = 3)) m).1 then 3 else 2, (C.flat (decide (k = 3)) m).2) else kindG C k m
def partsG (q : AskD) (k : Nat) (m : σ) : Except Err SqD × σ :=
 if k = 3 then
  match (smallGoG C q.modes q.small 4 [] [] m).1 with
  | .error e => (.error e, (smallGoG C q.modes q.small 4 [] [] m).2)
  | .ok x => (.ok ⟨3, 0, x.1, 0, 0, [], x.2⟩, (smallGoG C q.modes q.small 4 [] [] m).2)
 else if k = 0 then (.ok sq0, m)
 else if k = 1 then
  match (coefG C 8 q.large (partG C q.vy (partG C q.vx m).2).2).1 with
  | .error e => (.error e, (coefG C 8 q.large (partG C q.vy (partG C q.vx m).2).2).2)
  | .ok l => (.ok ⟨1, 0, [0, 0, 0, 0], (partG C q.vx m).1, (partG C q.vy (partG C q.vx m).2).1, l, [[], [], [], []]⟩, (coefG C 8 q.large (partG C q.vy (partG C q.vx m).2).2).2)
 else
  match (coefG C 8 q.large (modeG C q.mode m).2).1 with
  | .error e => (.error e, (coefG C 8 q.large (modeG C q.mode m).2).2)
  | .ok l => (.ok ⟨2, (modeG C q.mode m).1, [0, 0, 0, 0], 0, 0, l, [[], [], [], []]⟩, (coefG C 8 q.large (modeG C q.mode m).2).2)
/-- a square, told by a coder -/
def squareG (key : Bool) (q : AskD) (m : σ) : Except Err SqD × σ :=
 match (partsG C q (kindKG C key q.kind m).1 (kindKG C key q.kind m).2).1 with
 | .error e => (.error (inD sSyntax (kindKG C key q.kind m).1 e), (partsG C q (kindKG C key q.kind m).1 (kindKG C key q.kind m).2).2)
 | .ok s => (.ok s, (partsG C q (kindKG C key q.kind m).1 (kindKG C key q.kind m).2).2)
end
/-! ### the one that reads -/
def rdC : CodO Mod := ⟨fun c _ m => bitD c m, fun _ m => flatD m⟩
theorem onesG_rd (f : Nat → Nat) (v : Int) : ∀ (k n : Nat) (m : Mod), onesG rdC f v k n m = onesD f k n m
 | 0, n, m => rfl
 | k + 1, n, m => by
  show (if (bitD (f n) m).1 then onesG rdC f v k (n + 1) (bitD (f n) m).2 else _) = _
  rw [onesG_rd f v k]
  rfl
theorem flatsG_rd (u : Int) : ∀ (k n : Nat) (m : Mod), flatsG rdC u k n m = flatsD k n m
 | 0, n, m => rfl
 | k + 1, n, m => by
  show (if (flatD m).1 then flatsG rdC u k (n + 1) (flatD m).2 else _) = _
  rw [flatsG_rd u k]
  rfl
theorem bitsG_rd (u : Int) : ∀ (k n : Nat) (m : Mod), bitsG rdC u k n m = bitsD k n m
 | 0, n, m => rfl
 | k + 1, n, m => bitsG_rd u k _ _
theorem kindG_rd (v : Int) (m : Mod) : kindG rdC v m = kindD m := onesG_rd _ _ _ _ _
theorem modeG_rd (v : Int) (m : Mod) : modeG rdC v m = modeD m := rfl
theorem partG_rd (v : Int) (m : Mod) : partG rdC v m = partD m := by
 unfold partG partG2 partG3 partD
 rw [onesG_rd]
 rfl
theorem greatG_rd (u : Int) (m : Mod) : greatG rdC u m = greatD m := by
 unfold greatG greatD
 rw [flatsG_rd, bitsG_rd]
theorem sizeG_rd (base : Nat) (v : Int) (m : Mod) : sizeG rdC base v m = sizeD base m := by
 unfold sizeG sizeD
 rw [onesG_rd, greatG_rd]
theorem levelG_rd (base : Nat) (v : Int) (m : Mod) : levelG rdC base v m = levelD base m := by
 unfold levelG levelD
 rw [sizeG_rd]
 rfl
theorem coefGoG_rd (base last : Nat) (l : List Int) : ∀ (o : List Nat) (i : Nat) (out : List Int) (m : Mod), coefGoG rdC base last l o i out m = coefGo base last o i out m
 | [], i, out, m => rfl
 | a :: rest, i, out, m => by
  unfold coefGoG coefGo
  simp only [levelG_rd, coefGoG_rd base last l rest]
  rfl
theorem coefG_rd (side : Nat) (l : List Int) (m : Mod) : coefG rdC side l m = coefD side m := by
 unfold coefG coefD
 rw [coefGoG_rd]
 rfl
theorem smallGoG_rd (qm : List Int) (ql : List (List Int)) : ∀ (k : Nat) (ms : List Int) (ls : List (List Int)) (m : Mod), smallGoG rdC qm ql k ms ls m = smallGo k ms ls m
 | 0, ms, ls, m => rfl
 | k + 1, ms, ls, m => by
  unfold smallGoG smallGo
  simp only [coefG_rd, modeG_rd, smallGoG_rd qm ql k]
  rfl
theorem kindKG_rd (key : Bool) (k : Int) (m : Mod) : kindKG rdC key k m = kindK key m := by
 unfold kindKG kindK
 rw [kindG_rd]
 rfl
theorem partsG_rd (q : AskD) (k : Nat) (m : Mod) : partsG rdC q k m = partsD k m := by
 unfold partsG partsD
 simp only [smallGoG_rd, coefG_rd, modeG_rd, partG_rd]
 rfl
theorem squareG_rd (key : Bool) (q : AskD) (m : Mod) : squareG rdC key q m = squareD key m := by
 unfold squareG squareD
 simp only [kindKG_rd, partsG_rd]
 rfl
/-- the cells of the document's coder -/
def kmodCells (rd : Bool) (e d : Value) (p : List Int) : List Value := .bool rd :: e :: d :: p.map (Value.int .i64)
abbrev KmRow (R : Nat) (w : World) (rd : Bool) (e d : Value) (p : List Int) : Prop := w.heap[R]? = some (.cells (kmodCells rd e d p).toArray 157 (0, 0))
theorem KmRow.cells {R : Nat} {w : World} {rd : Bool} {e d : Value} {p : List Int} (h : KmRow R w rd e d p) : w.cell? ⟨R, 0, none⟩ = some (.bool rd) ∧ w.cell? ⟨R, 1, none⟩ = some e ∧ w.cell? ⟨R, 2, none⟩ = some d := by
 refine ⟨?_, ?_, ?_⟩ <;> (rw [cell_of_row _ _ _ _ _ _ h]; rfl)
theorem KmRow.at {R : Nat} {w : World} {rd : Bool} {e d : Value} {p : List Int} (h : KmRow R w rd e d p) {c : Nat} (hc : c < p.length) {k : Nat} (hk : k = 3 + c) : w.cell? ⟨R, k, none⟩ = some (.int .i64 (p.getD c 0)) := by
 subst hk
 rw [cell_of_row _ _ _ _ _ _ h]
 unfold kmodCells
 rw [List.getElem?_toArray, show 3 + c = c + 1 + 1 + 1 by omega]
 simp [hc]
theorem KmRow.set {R : Nat} {w : World} {rd : Bool} {e d : Value} {p : List Int} (h : KmRow R w rd e d p) {c : Nat} {k : Nat} (hk : k = 3 + c) (x : Int) :
  KmRow R (w.setCell ⟨R, k, none⟩ (.int .i64 x)) rd e d (p.set c x) ∧ Only [R] w (w.setCell ⟨R, k, none⟩ (.int .i64 x)) := by
 subst hk
 refine ⟨?_, (Only.refl _ _).setCell (by simp) _⟩
 have hr := heap_setCell_same w R (3 + c) _ _ (.int .i64 x) h
 rw [KmRow, hr]
 congr 2
 rw [List.setIfInBounds_toArray, show 3 + c = c + 1 + 1 + 1 by omega]
 simp [kmodCells, List.map_set]
theorem KmRow.only {R : Nat} {w w' : World} {rd : Bool} {e d : Value} {p : List Int} {S : List Nat} (h : KmRow R w rd e d p) (o : Only S w w') (hS : R ∉ S) : KmRow R w' rd e d p := o.rowAt h hS
theorem kfresh_any {R : Nat} {w : World} {rd : Bool} {e d : Value} {p : List Int} (h : KmRow R w rd e d p) (hp : p.length = 64) :
  Calls Tryz.prog 82 #[.pointer (some ⟨R, 0, none⟩)] w fun en w' => en = .returned (.pointer (some ⟨R, 0, none⟩)) ∧ KmRow R w' rd e d (List.replicate 64 1024) ∧ Only [R] w w' := by
 have HK := lh h
 have Hp := lh hp
 clear h hp
 go_enter Tryz.func82, Tryz.ntmps82
 go_wp2_with fail
 go_loopw [3] (fun i wr => ∃ (k : Nat) (q : List Int), k ≤ 64 ∧ i = .int .i64 k ∧ Hid (KmRow R wr rd e d q) ∧ Hid (q.length = 64) ∧ Hid (∀ j, j < k → q.getD j 0 = 1024) ∧ Hid (Only [R] w wr)) (fun i _ => 64 - (intOf i).toNat)
 case atStart => exact ⟨0, p, by omega, rfl, HK, Hp, lh (fun j hj => absurd hj (by omega)), lh (Only.refl _ _)⟩
 case round =>
  obtain ⟨k, q, hk, rfl, Hr, Hq, Ha, HQ⟩ := hrel
  by_cases hlt : k < 64
  ·have hki : (k : Int) < 64 := by omega
   have hk0 : (0 : Int) ≤ (k : Int) := by omega
   have c0 := Hr.out.at (c := k) (by rw [Hq.out]; exact hlt) rfl
   have f0 := frozen_of_row wr R (3 + k) _ _ Hr.out
   have HS := lh (fun (j : Nat) (hj : j = 3 + k) => Hr.out.set (c := k) hj 1024)
   have Hlt := lh hlt
   go_wp2_with fail
   refine ⟨⟨k + 1, q.set k 1024, by omega, by go_num, lh (HS.out _ (by omega)).1, lh (by rw [List.length_set]; exact Hq.out), lh (fun j hj => ?_), lh (HQ.out.trans (HS.out _ (by omega)).2 (fun g h _ => h) (fun g h _ => h))⟩, by simp [intOf]; omega⟩
   rw [List.getD_eq_getElem?_getD]
   by_cases hjk : j = k
   ·subst hjk; rw [List.getElem?_set_self (by rw [Hq.out]; exact Hlt.out)]; rfl
   ·rw [List.getElem?_set_ne (Ne.symm hjk), ← List.getD_eq_getElem?_getD]; exact Ha.out j (by omega)
  ·obtain rfl : k = 64 := by omega
   have hki : ¬ ((64 : Nat) : Int) < 64 := by omega
   have hq : q = List.replicate 64 1024 := by
    refine List.ext_getElem (by rw [Hq.out, List.length_replicate]) (fun j h1 h2 => ?_)
    have := Ha.out j (by have := Hq.out; omega)
    rw [List.getD_eq_getElem?_getD, List.getElem?_eq_getElem h1] at this
    rw [List.getElem_replicate]; exact this
   rw [hq] at Hr
   clear hq
   go_wp2_with fail
   go_ret
   exact ⟨rfl, Hr.out, HQ.out⟩
/-- the document's coder that reads, in block R, its decoder in block D -/
structure KModAt (lo hi R D : Nat) (bv : Value) (w : World) (m : Mod) : Prop where
 row : KmRow R w true (.pointer none) (.pointer (some ⟨D, 0, none⟩)) m.p
 dec : ∃ y, KDecAt lo hi D w bv m.d y
 ok : ModOk m
 hR : hi ≤ R
 hD : hi ≤ D
 ne : R ≠ D
section
variable {lo hi R D : Nat} {bv : Value} {w w' : World} {m : Mod} {S : List Nat}
theorem KModAt.lt (h : KModAt lo hi R D bv w m) : R < w.heap.size ∧ D < w.heap.size := ⟨(Array.getElem?_eq_some_iff.1 h.row).1, h.dec.choose_spec.row.lt⟩
theorem KModAt.only (h : KModAt lo hi R D bv w m) (o : Only S w w') (hS : ∀ g ∈ S, hi ≤ g ∧ g ≠ R ∧ g ≠ D) : KModAt lo hi R D bv w' m :=
 ⟨h.row.only o (fun hm => (hS R hm).2.1 rfl), h.dec.imp (fun y k => k.only o (fun g hg => ⟨(hS g hg).1, (hS g hg).2.2⟩)), h.ok, h.hR, h.hD, h.ne⟩
/-- its range decoder, gone on -/
theorem KModAt.dec' (h : KModAt lo hi R D bv w m) {d : Rac} (o : Only [D] w w') (hd : ∃ y, KDecAt lo hi D w' bv d y) (hok : RacOk d) : KModAt lo hi R D bv w' ⟨m.p, d⟩ :=
 ⟨h.row.only o (by rw [mSg]; exact h.ne), hd, ⟨h.ok.len, h.ok.ch, hok⟩, h.hR, h.hD, h.ne⟩
theorem KModAt.learn (h : KModAt lo hi R D bv w m) {c k : Nat} (hk : k = 3 + c) {x : Int} (hx : 31 ≤ x ∧ x ≤ 2017) :
  KModAt lo hi R D bv (w.setCell ⟨R, k, none⟩ (.int .i64 x)) ⟨m.p.set c x, m.d⟩ ∧ Only [R] w (w.setCell ⟨R, k, none⟩ (.int .i64 x)) := by
 obtain ⟨a, o⟩ := h.row.set hk x
 refine ⟨⟨a, h.dec.imp (fun y k => k.only o (fun g hg => by rw [mSg] at hg; subst hg; exact ⟨h.hR, h.ne⟩)), ⟨by rw [List.length_set]; exact h.ok.len, fun y hy => ?_, h.ok.d⟩, h.hR, h.hD, h.ne⟩, o⟩
 rcases List.mem_or_eq_of_mem_set hy with hy | rfl
 ·exact h.ok.ch y hy
 ·exact hx
end
theorem kflat_any {lo hi R D : Nat} {bv : Value} {w : World} {m : Mod} (h : KModAt lo hi R D bv w m) (b : Bool) (hp : m.d.pos ≤ 1000000000) :
  Calls Tryz.prog 121 #[.pointer (some ⟨R, 0, none⟩), .bool b] w fun e w' => e = .returned (.bool (flatD m).1) ∧ KModAt lo hi R D bv w' (flatD m).2 ∧ Only [R, D] w w' := by
 obtain ⟨c0, c1, c2⟩ := h.row.cells
 have r0 := h.ok.d.lo
 have r1 := h.ok.d.hi
 have HN := lh (narrow_ok h.ok.d (w := m.d.r / 2) (by omega) (by omega))
 have HK := lh h
 obtain ⟨y, hy⟩ := h.dec
 have HC := lh (kdflat_any hy h.ok.d hp)
 clear h hy
 go_enter Tryz.func121, Tryz.ntmps121
 go_wp2_with fail
 go_at_call 153
 refine HC.out.mono ?_
 rintro e w2 ⟨rfl, hd2, hq2⟩
 go_wp2_with fail
 go_ret
 exact ⟨rfl, HK.out.dec' hq2 hd2 HN.out.1, hq2.mono (by simp)⟩
theorem qDRk130 {p : Prop} (h : p := by
 go_wp2_with fail
 refine HPost.out _ _ ?_
 rw [HB.out]
 refine ⟨rfl, (HL.out _ (by omega)).1, ?_⟩
 exact (Hq2.out.mono (U := [R, D]) (by simp)).trans (HL.out _ (by omega)).2 (fun g h _ => h) (fun g h _ => by rw [mSg] at h; simp [h])) : p := h
theorem kbit_any {lo hi R D : Nat} {bv : Value} {w : World} {m : Mod} (h : KModAt lo hi R D bv w m) {c : Nat} (hc : c < 64) (b : Bool) (hp : m.d.pos ≤ 1000000000) :
  Calls Tryz.prog 122 #[.pointer (some ⟨R, 0, none⟩), .int .i64 c, .bool b] w fun e w' => e = .returned (.bool (bitD c m).1) ∧ KModAt lo hi R D bv w' (bitD c m).2 ∧ Only [R, D] w w' := by
 refine hidQ fun Q HPost => ?_
 have hx := ch_at h.ok hc
 obtain ⟨c0, c1, c2⟩ := h.row.cells
 have cp := h.row.at (c := c) (by rw [h.ok.len]; exact hc) rfl
 obtain ⟨q1, q2⟩ := chance_w h.ok.d.lo h.ok.d.hi (p := m.p.getD c 0) (by omega) (by omega)
 have HN := lh (narrow_ok h.ok.d q1 q2)
 have HK := lh h
 have hci : (0 : Int) ≤ (c : Int) := by omega
 have hci1 : ¬ (c : Int) < 0 := by omega
 have hci2 : (c : Int) < 64 := by omega
 have hci3 : ¬ 63 < (c : Int) := by omega
 obtain ⟨y, hy⟩ := h.dec
 have HC := lh (kdcode_any hy h.ok.d (p := m.p.getD c 0) (by omega) (by omega) hp)
 have HB : Hid ((bitD c m) = ((m.d.narrow (m.d.r / 2048 * m.p.getD c 0)).1, ⟨m.p.set c (learnV (m.p.getD c 0) (m.d.narrow (m.d.r / 2048 * m.p.getD c 0)).1), (m.d.narrow (m.d.r / 2048 * m.p.getD c 0)).2⟩)) := lh rfl
 generalize hnw : m.d.narrow (m.d.r / 2048 * m.p.getD c 0) = NW at *
 obtain ⟨nb, nd⟩ := NW
 have hlen := lh h.ok.len
 clear h q1 q2 hnw hy
 generalize hpc : m.p.getD c 0 = x at *
 have Hpc := lh hpc
 have hd1 : x.tdiv 32 = x / 32 := Int.tdiv_eq_ediv_of_nonneg (by omega)
 have hd2 : (2048 - x).tdiv 32 = (2048 - x) / 32 := Int.tdiv_eq_ediv_of_nonneg (by omega)
 clear hpc
 go_enter Tryz.func122, Tryz.ntmps122
 go_wp2_with fail
 go_at_call 155
 refine HC.out.mono ?_
 rintro e w2 ⟨rfl, hd2', hq2⟩
 have Hm2 := lh (HK.out.dec' hq2 hd2' HN.out.1)
 have Hq2 := lh hq2
 clear hd2' hq2 HC c0 c1 c2 cp
 have cp := Hm2.out.row.at (c := c) (by show c < m.p.length; rw [hlen.out]; omega) rfl
 have f0 := frozen_of_row w2 R (3 + c) _ _ Hm2.out.row
 have HL := lh (fun (k : Nat) (hk : k = 3 + c) => Hm2.out.learn hk (learn_in nb hx))
 cases nb with
 | true =>
  exact qDRk130
 | false =>
  exact qDRk130
theorem kmnew_any {lo hi : Nat} {v : Value} {l : List Int} {w : World} (h : Ints .u8 lo hi w v l) (hl : l.length ≤ 100000000) :
  Calls Tryz.prog 50 #[v] w fun e w' => ∃ R D bv hi', e = .returned (.pointer (some ⟨R, 0, none⟩)) ∧ KModAt w.heap.size hi' R D bv w' (modNew l) ∧ Only [] w w' ∧ w.heap.size ≤ R ∧ w.heap.size ≤ D := by
 refine hidQ fun Q HPost => ?_
 have Hok := lh (modNew_ok h.2)
 obtain ⟨a, cap, hv, _⟩ := h.open
 subst hv
 have HN := lh (kdnew_any h hl)
 clear h hl
 go_enter Tryz.func50, Tryz.ntmps50
 go_wp2_with fail
 go_at_call 83
 refine HN.out.mono ?_
 rintro e w2 ⟨D, bv, hi', y, rfl, hd, hq2, hz1, hz2⟩
 have HD := lh hd
 have HQ2 := lh hq2
 clear hd hq2
 obtain ⟨C2, hC2⟩ : ∃ C : Array Value, C = (kmodCells true (.pointer none) (.pointer (some ⟨D, 0, none⟩)) (List.replicate 64 0)).toArray := ⟨_, rfl⟩
 have hb : (Instr.build 157 #[(0, .bool true), (2, .pointer (some ⟨D, 0, none⟩))]).run Tryz.prog w2 = .ok (.agg C2) w2 := by rw [hC2]; kernel_rfl
 have Hb := lh hb
 have HC2 := lh hC2
 clear hb hC2
 rename_i K0 hK0
 simp only []
 refine hK0 _ _ ?_
 clear hK0
 refine wpList_build rfl 157 [(0, .const (.bool true)), (2, .tmp 4)] rfl Hb.out ?_
 go_wp2_with fail
 have hqn := Only.new w2 (.cells C2 157)
 have hr : KmRow w2.heap.size (w2.alloc (.cells C2 157)) true (.pointer none) (.pointer (some ⟨D, 0, none⟩)) (List.replicate 64 0) := by rw [KmRow, ← HC2.out]; exact heap_alloc_new _ _
 have HF := lh (kfresh_any hr (by simp))
 have HQn := lh hqn
 have hz3 := HQ2.out.size
 have hz4 := HD.out.row.lt
 clear hqn hr
 go_at_call 82
 refine HF.out.mono ?_
 rintro e w4 ⟨rfl, hr4, hq4⟩
 have Hr4 := lh hr4
 have Hq4 := lh hq4
 clear hr4 hq4
 go_wp2_with fail
 refine HPost.out _ _ ⟨w2.heap.size, D, bv, hi', rfl, ⟨Hr4.out, ⟨y, (HD.out.quiet HQn.out).only Hq4.out (fun g hg => by rw [mSg] at hg; subst hg; exact ⟨by omega, by omega⟩)⟩, Hok.out, by omega, hz2, by omega⟩, (HQ2.out.q HQn.out).trans Hq4.out (by simp) (fun g hg hlt => by rw [mSg] at hg; omega), by omega, by omega⟩
/-! ### what every coder of the document's gives -/
/-- a step: what was not the coder's stays; its blocks are the ones it had, or new -/
def Went (F : List Nat) (w : World) (F' : List Nat) (w' : World) : Prop := Only F w w' ∧ ∀ g ∈ F', g ∈ F ∨ w.heap.size ≤ g
theorem Went.refl (F : List Nat) (w : World) : Went F w F w := ⟨Only.refl _ _, fun g h => .inl h⟩
theorem Went.trans {F F1 F2 : List Nat} {w w1 w2 : World} (h : Went F w F1 w1) (k : Went F1 w1 F2 w2) : Went F w F2 w2 :=
 ⟨h.1.trans k.1 (fun g h _ => h) (fun g hg hlt => (h.2 g hg).resolve_right (by omega)), fun g hg => (k.2 g hg).elim (fun a => h.2 g a) (fun a => .inr (Nat.le_trans h.1.size a))⟩
theorem Went.q {F F1 : List Nat} {w w1 w2 : World} (h : Went F w F1 w1) (k : Only [] w1 w2) : Went F w F1 w2 := ⟨h.1.trans k (fun g h _ => h) (by simp), h.2⟩
theorem Went.ahead {F F1 : List Nat} {w w1 w2 : World} (k : Only [] w w1) (h : Went F w1 F1 w2) : Went F w F1 w2 := ⟨k.trans h.1 (by simp) (fun g h _ => h), fun g hg => (h.2 g hg).imp_right (fun a => Nat.le_trans k.size a)⟩
/-- a coder of the document's, its struct in block R -/
structure KC (R : Nat) where
 σ : Type
 C : CodO σ
 reads : Bool
 base : Nat
 At : List Nat → World → σ → Prop
 Ok : Nat → σ → Prop
 ok_le : ∀ {n k : Nat} {s : σ}, Ok n s → n ≤ k → Ok k s
 ok_bit : ∀ {n : Nat} {s : σ} (c : Nat) (b : Bool), Ok n s → c < 64 → Ok (n + 2) (C.bit c b s).2
 ok_flat : ∀ {n : Nat} {s : σ} (b : Bool), Ok n s → Ok (n + 2) (C.flat b s).2
 only : ∀ {F S : List Nat} {w w' : World} {s : σ}, At F w s → Only S w w' → (∀ g ∈ S, base ≤ g ∧ g ∉ F) → At F w' s
 lt : ∀ {F : List Nat} {w : World} {s : σ}, At F w s → ∀ g ∈ F, g < w.heap.size
 base_le : ∀ {F : List Nat} {w : World} {s : σ}, At F w s → base ≤ w.heap.size
 cell : ∀ {F : List Nat} {w : World} {s : σ}, At F w s → w.cell? ⟨R, 0, none⟩ = some (.bool reads)
 bit : ∀ {F : List Nat} {w : World} {s : σ} {n : Nat} (c : Nat) (b : Bool), At F w s → Ok n s → n ≤ 900000000 → c < 64 →
  Calls Tryz.prog 122 #[.pointer (some ⟨R, 0, none⟩), .int .i64 c, .bool b] w fun e w' => e = .returned (.bool (C.bit c b s).1) ∧ ∃ F', At F' w' (C.bit c b s).2 ∧ Went F w F' w'
 flat : ∀ {F : List Nat} {w : World} {s : σ} {n : Nat} (b : Bool), At F w s → Ok n s → n ≤ 900000000 →
  Calls Tryz.prog 121 #[.pointer (some ⟨R, 0, none⟩), .bool b] w fun e w' => e = .returned (.bool (C.flat b s).1) ∧ ∃ F', At F' w' (C.flat b s).2 ∧ Went F w F' w'
theorem KC.quiet {R : Nat} (X : KC R) {F : List Nat} {w w' : World} {s : X.σ} (h : X.At F w s) (o : Only [] w w') : X.At F w' s := X.only h o (by simp)
/-- the one that reads -/
def kcRead (lo hi R D : Nat) (bv : Value) : KC R where
 σ := Mod
 C := rdC
 reads := true
 base := hi
 At := fun F w m => F = [R, D] ∧ KModAt lo hi R D bv w m
 Ok := fun n m => ModOk m ∧ m.d.pos ≤ n
 ok_le := fun h k => ⟨h.1, Nat.le_trans h.2 k⟩
 ok_bit := fun c b h hc => ⟨(bitD_adv h.1 hc).ok, by have := (bitD_adv h.1 hc).pos; have := h.2; show (bitD c _).2.d.pos ≤ _; omega⟩
 ok_flat := fun b h => ⟨(flatD_adv h.1).ok, by have := (flatD_adv h.1).pos; have := h.2; show (flatD _).2.d.pos ≤ _; omega⟩
 only := fun h o hS => ⟨h.1, h.2.only o (fun g hg => by
  have h1 := hS g hg
  rw [h.1] at h1
  simp only [List.mem_cons, List.not_mem_nil, or_false, not_or] at h1
  exact h1)⟩
 lt := fun h g hg => by
  rw [h.1] at hg
  have := h.2.lt
  simp only [List.mem_cons, List.not_mem_nil, or_false] at hg
  omega
 base_le := fun h => Nat.le_trans h.2.hR (Nat.le_of_lt h.2.lt.1)
 cell := fun h => h.2.row.cells.1
 bit := fun c b h ok hn hc => (kbit_any h.2 hc b (by have := ok.2; omega)).mono (fun e w' k => by obtain ⟨k1, k2, k3⟩ := k; exact ⟨k1, [R, D], ⟨rfl, k2⟩, by rw [h.1]; exact ⟨k3, fun g hg => .inl hg⟩⟩)
 flat := fun b h ok hn => (kflat_any h.2 b (by have := ok.2; omega)).mono (fun e w' k => by obtain ⟨k1, k2, k3⟩ := k; exact ⟨k1, [R, D], ⟨rfl, k2⟩, by rw [h.1]; exact ⟨k3, fun g hg => .inl hg⟩⟩)
end Go.Proofs.YthgpgbdkcdmbpaaGreatDoor
