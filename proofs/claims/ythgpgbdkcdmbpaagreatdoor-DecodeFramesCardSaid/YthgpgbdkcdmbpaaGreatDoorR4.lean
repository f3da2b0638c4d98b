/- Joined texts: DRkC4, DRkC8, DRkM. Conditions: each part names its own. -/
import Derived.Test.YthgpgbdkcdmbpaaGreatDoorR5
import Derived.Test.YthgpgbdkcdmbpaaGreatDoorK6
import Derived.Test.YthgpgbdkcdmbpaaGreatDoorK2
namespace Go.Proofs.YthgpgbdkcdmbpaaGreatDoor
open Go.RowKit
set_option linter.unusedVariables false
set_option linter.unusedSimpArgs false
set_option maxRecDepth 100000
set_option maxHeartbeats 16000000
theorem gcode4_any {R : Nat} (X : KC R) {F : List Nat} {w : World} {s : X.σ} {n0 lo' hi' : Nat} {lv : Value} {l : List Int} (h : X.At F w s) (hl : Ints .i64 lo' hi' w lv l) (hlen : l.length = 16) (hlev : LevOk l) (hap : ∀ g ∈ F, g < lo' ∨ hi' ≤ g) (hw : hi' ≤ w.heap.size) (ok : X.Ok n0 s) (hn : n0 ≤ 700000000) :
  Calls Tryz.prog 88 #[.pointer (some ⟨R, 0, none⟩), lv] w (CodeG X F w (coefG X.C 4 l s)) := by
 refine hidQ fun Q HPost => ?_
 obtain ⟨la, lcap, hlv, -⟩ := hl.open
 rw [hlen] at hlv
 subst hlv
 have hwi : withinB l (-16320) 16320 = true := within_lev hlev
 have HWi := lh (fun (wx : World) (o : Only [] w wx) => within_any (-16320) 16320 (hl.quiet o))
 rw [hwi] at HWi
 have HZe := lh (fun (wx : World) (o : Only [] w wx) => kzero_any (hl.quiet o))
 have HB0 := lh (fun (wx : World) (o : Only [] w wx) (b : Bool) (hb : b = !zeroB l) => (by subst hb; exact X.bit 14 _ (X.quiet h o) ok (by omega) (by omega) : Calls Tryz.prog 122 #[.pointer (some ⟨R, 0, none⟩), .int .i64 14, .bool b] wx _))
 have Hok1 := lh (X.ok_bit 14 (!zeroB l) ok (by omega))
 have HL := lh hl
 have HFlt := lh (X.lt h)
 have HBse := lh (X.base_le h)
 have Hap := lh hap
 have Hw := lh hw
 have Hlen := lh hlen
 have Hlev := lh hlev
 have HC : Hid (coefG X.C 4 l s = if (X.C.bit 14 (!zeroB l) s).1 then coefGoG X.C 14 15 l (orderD 4) 0 (List.replicate 16 0) (X.C.bit 14 (!zeroB l) s).2 else (.ok (List.replicate 16 0), (X.C.bit 14 (!zeroB l) s).2)) := lh rfl
 have HOc := lh (fun (wx : World) => korder4_any wx)
 have HODl := lh (orderD_len4)
 have HODt := lh (orderD_lt4)
 have HODn : Hid ((natI (orderD 4)).length = 16) := lh (by rw [show (natI (orderD 4)).length = (orderD 4).length by simp [natI]]; exact orderD_len4)
 generalize orderD 4 = OD at *
 have hn0 := Only.new w (.cells #[.int .i64 0, .slice none 0 0] 45)
 have HE0 : Hid ((w.alloc (.cells #[.int .i64 0, .slice none 0 0] 45)).heap[w.heap.size]? = some (.cells #[.int .i64 0, .slice none 0 0] 45 (0, 0))) := lh (heap_alloc_new w _)
 have HQ0 := lh hn0
 clear h hl hlev hap hw ok hwi hn0
 go_enter Tryz.func88, Tryz.ntmps88
 go_wp2_with fail
 generalize hW0 : World.alloc w _ = w0 at *
 have HZ0 : Hid (w.heap.size < w0.heap.size) := lh (Array.getElem?_eq_some_iff.1 HE0.out).1
 clear hW0
 go_at_call 23
 refine (HWi.out w0 HQ0.out).mono ?_
 rintro e w1 ⟨rfl, rfl⟩
 go_wp2_with fail
 go_at_call 123
 refine (kbase_any4 _).mono ?_
 rintro e w1 ⟨rfl, rfl⟩
 go_wp2_with fail
 go_at_call 124
 refine (HOc.out _).mono ?_
 rintro e w1 ⟨ov, rfl, hord, hq1⟩
 have hol : (natI OD).length = 16 := HODn.out
 obtain ⟨ob, ocap, hov, hob1, hob2⟩ := hord.form (by omega)
 rw [hol] at hov
 subst hov
 have HOrd1 := lh hord
 have HQ1 := lh (HQ0.out.q hq1)
 have HE1 := lh (hq1.row HE0.out)
 have HZ1 := lh (Nat.lt_of_lt_of_le HZ0.out hq1.size)
 have Hob := lh (And.intro (Nat.lt_of_lt_of_le HZ0.out hob1) hob2)
 clear hord hq1 hol hob1 hob2
 have hmk : ∀ W : World, (Instr.makeSlice 25 (.int .i64 16) (.int .i64 16)).run Tryz.prog W = .ok (.slice (some ⟨W.heap.size, 0, none⟩) 16 16) (W.alloc (.cells (madeCells #[.int .i64 0] 16) 3)) := fun wz => run_make_row' (P := Tryz.prog) 25 3 (.int .i64 0) 8 EI.ut (by kernel_rfl) rfl .i64 .i64 16 (by omega) (by omega) wz
 go_wp2_with fail
 clear hmk
 have hqn := Only.new w1 (.cells (madeCells #[.int .i64 0] 16) 3)
 have HOut : Hid (Own .i64 3 w1.heap.size (w1.alloc (.cells (madeCells #[.int .i64 0] 16) 3)) (.slice (some ⟨w1.heap.size, 0, none⟩) 16 16) (List.replicate 16 0)) := lh (own_made .i64 3 w1 16 (by simp [maxLen]))
 have HQ2 := lh (HQ1.out.q hqn)
 have HE2 := lh (hqn.row HE1.out)
 have HOrd := lh (HOrd1.out.quiet hqn)
 have HZg : Hid (w1.heap.size < (w1.alloc (.cells (madeCells #[.int .i64 0] 16) 3)).heap.size) := lh (by simp)
 generalize hW2 : World.alloc w1 _ = W2 at *
 clear hqn hW2 HOrd1 HE1 HE0
 generalize hgg : w1.heap.size = g at *
 clear hgg
 have HgF : Hid (g ∉ F) := lh (fun hx => by have := HFlt.out g hx; have := HZ1.out; omega)
 have HeF : Hid (w.heap.size ∉ g :: F) := lh (fun hx => by rcases List.mem_cons.1 hx with hx | hx; have := HZ1.out; omega; have := HFlt.out _ hx; omega)
 have HLs := lh (fun (wx : World) (o : Only (g :: F) W2 wx) => (HL.out.quiet HQ2.out).only o (fun x hx => by rcases List.mem_cons.1 hx with rfl | hx; right; have := HZ1.out; have := Hw.out; omega; exact Hap.out x hx))
 have HOs := lh (fun (wx : World) (o : Only (g :: F) W2 wx) => HOrd.out.only o (fun x hx e => by have e2 : ob = x := (by simpa [Value.ownBlock] using e); subst e2; rcases List.mem_cons.1 hx with hx | hx; have := Hob.out.2; omega; have := HFlt.out _ hx; have := Hob.out.1; omega))
 go_at_call 125
 refine (HZe.out W2 HQ2.out).mono ?_
 rintro e w2 ⟨rfl, rfl⟩
 go_wp2_with fail
 go_at_call 122
 refine (HB0.out W2 HQ2.out _ rfl).mono ?_
 rintro e w3 ⟨rfl, F1, hk3, hg3⟩
 have Hk3 := lh hk3
 have HL3 : Hid (CLoop g F W2 F1 w3) := lh (CLoop.went ⟨Only.refl _ _, fun x hx => .inl hx⟩ hg3)
 have HO3 : Hid (Own .i64 3 g w3 (.slice (some ⟨g, 0, none⟩) 16 16) (List.replicate 16 0)) := lh (HOut.out.only hg3.1 (fun x hx e => by have e2 : g = x := (by simpa [Value.ownBlock] using e); subst e2; exact HgF.out hx))
 clear hk3 hg3 HB0 HZe HWi HOut
 generalize X.C.bit 14 (!zeroB l) s = b1 at *
 obtain ⟨t1, s1⟩ := b1
 simp only at Hk3 HC Hok1 ⊢
 cases t1 with
 | false =>
  rw [if_neg (by simp)] at HC
  skip
  have HEj := lh (HL3.out.only.rowAt HE2.out HeF.out)
  obtain ⟨z0, z1, y0, y1, -⟩ := row2 HEj.out
  go_wp2_with fail
  obtain ⟨hrow, hon⟩ := row2_set (x := .int .i64 0) (y := .slice none 0 0) HEj.out
  refine bodyPost_ret (results_tmp_cell Tryz.results88 _ _ w.heap.size _ _ _ _ _ rfl rfl hrow Tryz.underlying45 rfl (err_info _ rfl)) rfl (HPost.out _ _ ?_)
  unfold CodeG
  rw [HC.out]
  have z1' := HZ1.out
  exact ⟨_, X.only Hk3.out hon (fun x hx => by rw [mSg] at hx; subst hx; exact ⟨HBse.out, fun hx => (HL3.out.new _ hx).elim (fun a => HeF.out (List.mem_cons_of_mem _ a)) (fun a => by have := HQ2.out.size; have := HZg.out; omega)⟩), CLoop.end HQ2.out HL3.out hon (by omega) (Nat.le_refl _), _, rfl, (HO3.out.only hon (fun x hx e => by have e2 : g = x := (by simpa [Value.ownBlock] using e); rw [mSg] at hx; omega)).lower (by omega), fun x e => by have e2 : g = x := (by simpa [Value.ownBlock] using e); subst e2; exact HL3.out.apart HZg.out HgF.out⟩
 | true =>
  rw [if_pos rfl] at HC
  go_wp2_with fail
  go_loopw [10] (fun i wr => ∃ (k : Nat) (Fc : List Nat) (sc : X.σ) (ol : List Int), k ≤ 16 ∧ i = .int .i64 k ∧ Hid (X.At Fc wr sc) ∧ Hid (CLoop g F W2 Fc wr) ∧ Hid (Own .i64 3 g wr (.slice (some ⟨g, 0, none⟩) 16 16) ol) ∧ Hid (ol.length = 16) ∧ Hid (coefGoG X.C 14 15 l (OD.drop k) k ol sc = coefGoG X.C 14 15 l OD 0 (List.replicate 16 0) s1) ∧ Hid (X.Ok (n0 + 2 + 90 * k) sc)) (fun i _ => 16 - (intOf i).toNat)
  case atStart => exact ⟨0, _, s1, _, by omega, rfl, Hk3, HL3, HO3, lh (by simp), lh rfl, lh (X.ok_le Hok1.out (by omega))⟩
  case round =>
   obtain ⟨k, Fc, sc, ol, hk, rfl, Hkc, HLc, HOc, Holen, He, Ho⟩ := hrel
   by_cases hlt : k < 16
   ·have hki : (k : Int) < 16 := by omega
    have hk0 : (0 : Int) ≤ (k : Int) := by omega
    obtain ⟨a, ⟨ha1, ha2⟩, hdrop⟩ : ∃ a, (a < 16 ∧ OD.getD k 0 = a) ∧ OD.drop k = a :: OD.drop (k + 1) := by
     have hk' : k < OD.length := by rw [HODl.out]; exact hlt
     exact ⟨OD[k], ⟨HODt.out _ (List.getElem_mem _), by simp [hk']⟩, List.drop_eq_getElem_cons hk'⟩
    obtain ⟨lb, loff, lcap', he, hlb1, hlb2, hc⟩ := (HLs.out wr HLc.out.only).at (i := a) (by rw [Hlen.out]; exact ha1)
    injection he with he1 he2 he3
    subst he1
    clear he2 he3 hlb1 hlb2
    have cl := hc
    have co := (HOs.out wr HLc.out.only).cellS HODn.out.symm (i := k) (by rw [HODn.out]; exact hlt)
    rw [natI_at2, ha2] at co
    have hai : (0 : Int) ≤ (a : Int) := by omega
    have hai2 : (a : Int) < 16 := by omega
    have hvr : -16320 ≤ l.getD a 0 ∧ l.getD a 0 ≤ 16320 := Hlev.out _ (by rw [List.getD_eq_getElem?_getD, List.getElem?_eq_getElem (by rw [Hlen.out]; exact ha1)]; exact List.getElem_mem _)
    have Hdrop := lh hdrop
    have Ha := lh (And.intro ha1 ha2)
    have Hlt := lh hlt
    have Hv : Hid (∃ v, v = l.getD a 0) := lh ⟨_, rfl⟩
    obtain ⟨v, hv⟩ := Hv.out
    rw [← hv] at cl hvr
    have Hv := lh hv
    clear hdrop ha2 hv hc
    have HSt := lh (fun (wx : World) (Fx : List Nat) (hx : Went Fc wr Fx wx) => (HOc.out.only hx.1 (fun x hx e => by have e2 : g = x := (by simpa [Value.ownBlock] using e); subst e2; exact HLc.out.apart HZg.out HgF.out hx) : Own .i64 3 g wx (.slice (some ⟨g, 0, none⟩) 16 16) ol))
    clear ha1
    go_upto_region 17 with (fail)
    go_cut [76] (fun s76 wx => ∃ (F7 : List Nat) (s7 : X.σ) (sk : Bool), s76 = .bool sk ∧ Hid (X.At F7 wx s7) ∧ Hid (Went Fc wr F7 wx) ∧ Hid ((k < 15 → X.C.bit (14 + 1 + min k 7) (decide (v ≠ 0)) sc = (!sk, s7)) ∧ (¬ k < 15 → sk = false ∧ s7 = sc)) ∧ Hid (X.Ok (n0 + 4 + 90 * k) s7))
    case first =>
     by_cases hkl : k < 15
     ·have hkli : (k : Int) < 15 := by omega
      have HB1 := lh (fun (wx : World) (Fx : List Nat) (hx : X.At Fx wx sc) (b : Bool) (hb : b = decide (v ≠ 0)) (y : Int) (hy : y = ((14 + 1 + min k 7 : Nat) : Int)) => (by subst hb; subst hy; exact X.bit (14 + 1 + min k 7) _ hx Ho.out (by omega) (by omega) : Calls Tryz.prog 122 #[.pointer (some ⟨R, 0, none⟩), .int .i64 y, .bool b] wx _))
      have Ok1 := lh (X.ok_bit (14 + 1 + min k 7) (decide (v ≠ 0)) Ho.out (by omega))
      obtain ⟨B1, hB1⟩ : ∃ y, y = X.C.bit (14 + 1 + min k 7) (decide (v ≠ 0)) sc := ⟨_, rfl⟩
      rw [← hB1] at HB1 Ok1
      obtain ⟨t1, s1'⟩ := B1
      simp only at HB1 Ok1
      have HB1e := lh hB1.symm
      clear hB1
      have Hkl := lh hkl
      clear cl co
      go_wp2_with fail
      all_goals
       go_at_call 122
       refine (HB1.out _ _ Hkc.out _ (by first | rfl | exact bne_dec _ _ | exact beq_dec _ _ | omega) _ (by omega)).mono ?_
       rintro e w7 ⟨rfl, F7, hk7, hg7⟩
       have Hk7 := lh hk7
       have Hg7 := lh (hg7)
       clear hk7 hg7
       go_wp2_with fail
       go_meet
       exact ⟨F7, s1', _, rfl, Hk7, Hg7, lh ⟨fun _ => by rw [HB1e.out, Bool.not_not], fun hh => absurd Hkl.out hh⟩, lh (X.ok_le Ok1.out (by omega))⟩
     ·have hkli : ¬ (k : Int) < 15 := by omega
      have Hkl := lh hkl
      clear cl co
      go_wp2_with fail
      go_meet
      exact ⟨Fc, sc, false, rfl, Hkc, lh (Went.refl _ _), lh ⟨fun hh => absurd hh Hkl.out, fun _ => ⟨rfl, rfl⟩⟩, lh (X.ok_le Ho.out (by omega))⟩
    case rest =>
     obtain ⟨F7, s7, sk, rfl, Hk7, Hg7, Hb7, Ok7⟩ := hcut
     clear cl co
     cases sk with
     | true =>
      have hkl : k < 15 := by rcases Nat.lt_or_ge k 15 with hh | hh; exact hh; exact absurd (Hb7.out.2 (by omega)).1 (by simp)
      have Hgo := lh (goG_skip (base := 14) (a := a) (l := l) (m := sc) (m1 := s7) (rest := OD.drop (k + 1)) (out := ol) hkl (by rw [← Hv.out]; exact Hb7.out.1 hkl))
      clear hkl
      have HO7 := lh (HSt.out _ _ Hg7.out)
      have HL7 := lh (HLc.out.went Hg7.out)
      go_wp2_with fail
      exact ⟨⟨k + 1, F7, _, ol, by have := Hlt.out; omega, by go_num, Hk7, HL7, HO7, Holen, lh (by rw [← He.out, Hdrop.out]; exact Hgo.out.symm), lh (X.ok_le Ok7.out (by omega))⟩, by simp [intOf]; have := Hlt.out; omega⟩
     | false =>
      have HFl := lh (fun (wx : World) (Fx : List Nat) (hx : X.At Fx wx s7) (b : Bool) (hb : b = decide (v < 0)) => (by subst hb; exact X.flat _ hx Ok7.out (by omega) : Calls Tryz.prog 121 #[.pointer (some ⟨R, 0, none⟩), .bool b] wx _))
      have ok2 := X.ok_flat (decide (v < 0)) Ok7.out
      obtain ⟨FL, hFL⟩ : ∃ y, y = X.C.flat (decide (v < 0)) s7 := ⟨_, rfl⟩
      rw [← hFL] at HFl ok2
      obtain ⟨neg, s2'⟩ := FL
      simp only at HFl ok2
      have Ok2 := lh ok2
      have HSz := lh (fun (wx : World) (Fx : List Nat) (hx : X.At Fx wx s2') (y : Int) (hy : y = max v (-v) - 1) => (by subst hy; exact gsize_any X hx (base := 14) (by omega) _ (by omega) Ok2.out (by omega) : Calls Tryz.prog 126 #[.pointer (some ⟨R, 0, none⟩), .int .i64 14, .int .i64 y] wx _))
      obtain ⟨ok3, hzn⟩ := sizeG_ok X (base := 14) (by omega) (max v (-v) - 1) ok2
      obtain ⟨SZ, hSZ⟩ : ∃ y, y = sizeG X.C 14 (max v (-v) - 1) s2' := ⟨_, rfl⟩
      rw [← hSZ] at HSz ok3 hzn
      obtain ⟨zn, s3'⟩ := SZ
      simp only at HSz ok3 hzn
      have Ok3 := lh ok3
      have HLe0 : Hid (levelG X.C 14 (l.getD a 0) s7 = (signD neg zn, s3')) := lh (levelG_eq (by rw [← Hv.out]; exact hFL.symm) (by rw [← Hv.out]; exact hSZ.symm))
      clear ok2 ok3 hFL hSZ
      obtain ⟨x, hx⟩ : ∃ x, signD neg zn = x := ⟨_, rfl⟩
      have HLe : Hid (levelG X.C 14 (l.getD a 0) s7 = (x, s3')) := lh (by rw [HLe0.out, hx])
      have Hx := lh hx
      have hxx : (x < -16320 ∨ 16320 < x) ↔ 16320 < (zn : Int) + 1 := by rw [← hx]; cases neg <;> simp only [signD] <;> first | (simp; omega) | omega
      clear hx HLe0
      have Hxx := lh hxx
      clear hxx
      go_wp2_with fail
      go_at_call 121
      refine (HFl.out _ _ Hk7.out _ (by first | rfl | exact bne_dec _ _ | exact beq_dec _ _ | omega)).mono ?_
      rintro e w8 ⟨rfl, F8, hk8, hg8⟩
      have Hk8 := lh hk8
      have Hg8 := lh (Hg7.out.trans hg8)
      clear hk8 hg8
      go_upto_region 19 with (fail)
      go_cut [13] (fun s13 wx => ∃ (F9 : List Nat), s13 = .int .i64 ((zn : Int) + 1) ∧ Hid (X.At F9 wx s3') ∧ Hid (Went Fc wr F9 wx))
      case first =>
       go_wp2_with fail
       all_goals
        go_at_call 126
        refine (HSz.out _ _ Hk8.out _ (by omega)).mono ?_
        rintro e w9 ⟨rfl, F9, hk9, hg9⟩
        have Hk9 := lh hk9
        have Hg9 := lh (Hg8.out.trans hg9)
        clear hk9 hg9
        go_wp2_with fail
        go_meet
        exact ⟨F9, rfl, Hk9, Hg9⟩
      case rest =>
       obtain ⟨F9, rfl, Hk9, Hg9⟩ := hcut
       have HL9 := lh (HLc.out.went Hg9.out)
       have HO9 := lh (HSt.out _ _ Hg9.out)
       by_cases hbz : 16320 < (zn : Int) + 1
       ·have hbad := Hxx.out.2 hbz
        have Hend : Hid (coefG X.C 4 l s = (.error ⟨[(sCoef, (k : Int))], 3⟩, s3')) := lh (by
         rw [HC.out, ← He.out, Hdrop.out]
         rcases Nat.lt_or_ge k 15 with hh | hh
         ·exact goG_bad hh (by rw [← Hv.out]; exact Hb7.out.1 hh) HLe.out hbad
         ·exact goG_bad' (by omega) (by rw [← (Hb7.out.2 (by omega)).2]; exact HLe.out) hbad)
        clear hbad
        have HE9 := lh (HL9.out.only.rowAt HE2.out HeF.out)
        go_wp2_with fail
        go_at_call 127
        refine (wrap_any _ _ 3 _ (by omega)).mono ?_
        rintro e w10 ⟨kv, rfl, ⟨sv, rfl, hcs⟩, hq10⟩
        obtain ⟨_, a2, cap2, hsv, _⟩ := id hcs
        subst hsv
        have Hcs := lh hcs
        have Hq10 := lh hq10
        clear hcs hq10
        have HE10 := lh (Hq10.out.row HE9.out)
        obtain ⟨z0, z1, y0, y1, -⟩ := row2 HE10.out
        go_wp2_with fail
        obtain ⟨hrow, hon⟩ := row2_set (x := .int .i64 3) (y := .slice a2 1 cap2) HE10.out
        refine bodyPost_ret (results_tmp_cell Tryz.results88 _ _ w.heap.size _ _ _ _ _ rfl rfl hrow Tryz.underlying45 rfl (err_info _ rfl)) rfl (HPost.out _ _ ?_)
        unfold CodeG
        rw [Hend.out]
        have z1' := HZ1.out
        have HL10 := HL9.out.quiet Hq10.out
        have z9 := HL9.out.only.size
        have zg := HZg.out
        have z2 := HQ2.out.size
        exact ⟨_, X.only (X.quiet Hk9.out Hq10.out) hon (fun x hx => by rw [mSg] at hx; subst hx; exact ⟨HBse.out, fun hx => (HL10.new _ hx).elim (fun a => HeF.out (List.mem_cons_of_mem _ a)) (fun a => by omega)⟩), CLoop.end HQ2.out HL10 hon (by omega) (Nat.le_refl _), _, rfl, (Hcs.out.only hon (fun x hx => by rw [mSg] at hx; subst hx; exact .inl (by omega))).mono (by omega) hon.size⟩
       ·have Hgood := lh (fun hh => hbz (Hxx.out.1 hh) : ¬ (x < -16320 ∨ 16320 < x))
        go_upto_if 94 with (fail)
        go_cut [13] (fun s13 wx => s13 = .int .i64 x ∧ wc = wx)
        case first =>
         have hxn := Hx.out
         cases neg with
         | true =>
          go_wp2_with fail
          go_meet
          exact ⟨by rw [← hxn]; show _ = Value.int .i64 (-(zn : Int) - 1); congr 1; omega, rfl⟩
         | false =>
          go_wp2_with fail
          go_meet
          exact ⟨by rw [← hxn]; rfl, rfl⟩
        case rest =>
         obtain ⟨rfl, rfl⟩ := hcut
         have co9 := (HOs.out wc HL9.out.only).cellS HODn.out.symm (i := k) (by rw [HODn.out]; exact Hlt.out)
         rw [natI_at2, Ha.out.2] at co9
         have cg9 := HO9.out.cellS Holen.out.symm (i := a) (by rw [Holen.out]; exact Ha.out.1)
         have fg9 := HO9.out.frzS Holen.out.symm a
         obtain ⟨hs1, hs2⟩ := HO9.out.storeS Holen.out.symm (x := x) (by rw [← Hx.out]; cases neg <;> simp only [signD, InK] <;> first | (simp; omega) | omega) a
         have HO10 := lh hs1
         have HL10 := lh (HL9.out.store hs2)
         have Hk10 := lh (X.only Hk9.out hs2 (fun y hy => by rw [mSg] at hy; subst hy; exact ⟨by have := HBse.out; have := HZ1.out; omega, HL9.out.apart HZg.out HgF.out⟩))
         clear hs1 hs2 hzn hvr
         go_upto_region 25 with (fail)
         generalize hW10 : World.setCell wc _ _ = w10 at *
         clear hW10 co9 cg9 fg9
         go_cut [123] (fun s123 wx => ∃ (F11 : List Nat) (s11 : X.σ) (t9 : Bool), s123 = .bool t9 ∧ Hid (X.At F11 wx s11) ∧ Hid (CLoop g F W2 F11 wx) ∧ Hid (Own .i64 3 g wx (.slice (some ⟨g, 0, none⟩) 16 16) (ol.set a x)) ∧ Hid ((k < 15 → X.C.bit (14 + 9 + min k 7) (zerosAt l (OD.drop (k + 1))) s3' = (t9, s11)) ∧ (¬ k < 15 → t9 = false ∧ s11 = s3')) ∧ Hid (X.Ok (n0 + 92 + 90 * k) s11))
         case first =>
          by_cases hkl : k < 15
          ·have hkli : (k : Int) < 15 := by omega
           have HB9 := lh (fun (wx : World) (Fx : List Nat) (hx : X.At Fx wx s3') (b : Bool) (hb : b = zerosAt l (OD.drop (k + 1))) (y : Int) (hy : y = ((14 + 9 + min k 7 : Nat) : Int)) => (by subst hb; subst hy; exact X.bit (14 + 9 + min k 7) _ hx Ok3.out (by omega) (by omega) : Calls Tryz.prog 122 #[.pointer (some ⟨R, 0, none⟩), .int .i64 y, .bool b] wx _))
           have Ok9 := lh (X.ok_bit (14 + 9 + min k 7) (zerosAt l (OD.drop (k + 1))) Ok3.out (by omega))
           have Hkl := lh hkl
           have HRs := lh (fun (y : Int) (hy : y = ((k + 1 : Nat) : Int)) => (by subst hy; exact krest_zero (HLs.out _ HL10.out.only) ((HOs.out _ HL10.out.only).ints) (by rw [Hlen.out]; exact HODt.out) (k + 1) (by rw [HODl.out]; have := Hlt.out; omega) : Calls Tryz.prog 128 #[_, .slice (some ⟨ob, 0, none⟩) 16 ocap, .int .i64 y] w10 _))
           go_wp2_with fail
           all_goals
            go_at_call 128
            refine (HRs.out _ (by omega)).mono ?_
            rintro e wy ⟨rfl, rfl⟩
            go_wp2_with fail
            go_at_call 122
            refine (HB9.out _ _ Hk10.out _ rfl _ (by omega)).mono ?_
            rintro e w11 ⟨rfl, F11, hk11, hg11⟩
            have Hk11 := lh hk11
            have HL11 := lh (HL10.out.went hg11)
            have HO11 := lh (HO10.out.only hg11.1 (fun y hy e => by have e2 : g = y := (by simpa [Value.ownBlock] using e); subst e2; exact HL10.out.apart HZg.out HgF.out hy))
            clear hk11 hg11
            go_wp2_with fail
            go_meet
            exact ⟨F11, _, _, rfl, Hk11, HL11, HO11, lh ⟨fun _ => rfl, fun hh => absurd Hkl.out hh⟩, lh (X.ok_le Ok9.out (by omega))⟩
          ·have hkli : ¬ (k : Int) < 15 := by omega
           have Hkl := lh hkl
           go_wp2_with fail
           go_meet
           exact ⟨F9, s3', false, rfl, Hk10, HL10, HO10, lh ⟨fun hh => absurd hh Hkl.out, fun _ => ⟨rfl, rfl⟩⟩, lh (X.ok_le Ok3.out (by omega))⟩
         case rest =>
          obtain ⟨F11, s11, t9, rfl, Hk11, HL11, HO11, Hb9, Ok9⟩ := hcut
          cases t9 with
          | true =>
           have hkl : k < 15 := by rcases Nat.lt_or_ge k 15 with hh | hh; exact hh; exact absurd (Hb9.out.2 (by omega)).1 (by simp)
           have Hend : Hid (coefG X.C 4 l s = (.ok (ol.set a x), s11)) := lh (by rw [HC.out, ← He.out, Hdrop.out]; exact goG_done hkl (by rw [← Hv.out]; exact Hb7.out.1 hkl) HLe.out Hgood.out (Hb9.out.1 hkl))
           clear hkl
           have HEj := lh (HL11.out.only.rowAt HE2.out HeF.out)
           obtain ⟨z0, z1, y0, y1, -⟩ := row2 HEj.out
           go_wp2_with fail
           obtain ⟨hrow, hon⟩ := row2_set (x := .int .i64 0) (y := .slice none 0 0) HEj.out
           refine bodyPost_ret (results_tmp_cell Tryz.results88 _ _ w.heap.size _ _ _ _ _ rfl rfl hrow Tryz.underlying45 rfl (err_info _ rfl)) rfl (HPost.out _ _ ?_)
           unfold CodeG
           rw [Hend.out]
           have z1' := HZ1.out
           exact ⟨_, X.only Hk11.out hon (fun x hx => by rw [mSg] at hx; subst hx; exact ⟨HBse.out, fun hx => (HL11.out.new _ hx).elim (fun a => HeF.out (List.mem_cons_of_mem _ a)) (fun a => by have := HQ2.out.size; have := HZg.out; omega)⟩), CLoop.end HQ2.out HL11.out hon (by omega) (Nat.le_refl _), _, rfl, (HO11.out.only hon (fun x hx e => by have e2 : g = x := (by simpa [Value.ownBlock] using e); rw [mSg] at hx; omega)).lower (by omega), fun x e => by have e2 : g = x := (by simpa [Value.ownBlock] using e); subst e2; exact HL11.out.apart HZg.out HgF.out⟩
          | false =>
           have Hgo : Hid (coefGoG X.C 14 15 l (a :: OD.drop (k + 1)) k ol sc = coefGoG X.C 14 15 l (OD.drop (k + 1)) (k + 1) (ol.set a x) s11) := lh (by
            rcases Nat.lt_or_ge k 15 with hh | hh
            ·exact goG_more hh (by rw [← Hv.out]; exact Hb7.out.1 hh) HLe.out Hgood.out (Hb9.out.1 hh)
            ·rw [(Hb9.out.2 (by omega)).2]
             exact goG_more' (by omega) (by rw [← (Hb7.out.2 (by omega)).2]; exact HLe.out) Hgood.out)
           go_wp2_with fail
           exact ⟨⟨k + 1, F11, _, _, by have := Hlt.out; omega, by go_num, Hk11, HL11, HO11, lh (by rw [List.length_set]; exact Holen.out), lh (by rw [← He.out, Hdrop.out]; exact Hgo.out.symm), lh (X.ok_le Ok9.out (by omega))⟩, by simp [intOf]; have := Hlt.out; omega⟩
   ·obtain rfl : k = 16 := by omega
    have hki : ¬ ((16 : Nat) : Int) < 16 := by omega
    have Hend : Hid (coefG X.C 4 l s = (.ok ol, sc)) := lh (by rw [HC.out, ← He.out, List.drop_eq_nil_of_le (by rw [HODl.out]; omega)]; rfl)
    have HEj := lh (HLc.out.only.rowAt HE2.out HeF.out)
    obtain ⟨z0, z1, y0, y1, -⟩ := row2 HEj.out
    go_wp2_with fail
    obtain ⟨hrow, hon⟩ := row2_set (x := .int .i64 0) (y := .slice none 0 0) HEj.out
    refine bodyPost_ret (results_tmp_cell Tryz.results88 _ _ w.heap.size _ _ _ _ _ rfl rfl hrow Tryz.underlying45 rfl (err_info _ rfl)) rfl (HPost.out _ _ ?_)
    unfold CodeG
    rw [Hend.out]
    have z1' := HZ1.out
    exact ⟨_, X.only Hkc.out hon (fun x hx => by rw [mSg] at hx; subst hx; exact ⟨HBse.out, fun hx => (HLc.out.new _ hx).elim (fun a => HeF.out (List.mem_cons_of_mem _ a)) (fun a => by have := HQ2.out.size; have := HZg.out; omega)⟩), CLoop.end HQ2.out HLc.out hon (by omega) (Nat.le_refl _), _, rfl, (HOc.out.only hon (fun x hx e => by have e2 : g = x := (by simpa [Value.ownBlock] using e); rw [mSg] at hx; omega)).lower (by omega), fun x e => by have e2 : g = x := (by simpa [Value.ownBlock] using e); subst e2; exact HLc.out.apart HZg.out HgF.out⟩
theorem gcode8_any {R : Nat} (X : KC R) {F : List Nat} {w : World} {s : X.σ} {n0 lo' hi' : Nat} {lv : Value} {l : List Int} (h : X.At F w s) (hl : Ints .i64 lo' hi' w lv l) (hlen : l.length = 64) (hlev : LevOk l) (hap : ∀ g ∈ F, g < lo' ∨ hi' ≤ g) (hw : hi' ≤ w.heap.size) (ok : X.Ok n0 s) (hn : n0 ≤ 700000000) :
  Calls Tryz.prog 88 #[.pointer (some ⟨R, 0, none⟩), lv] w (CodeG X F w (coefG X.C 8 l s)) := by
 refine hidQ fun Q HPost => ?_
 obtain ⟨la, lcap, hlv, -⟩ := hl.open
 rw [hlen] at hlv
 subst hlv
 have hwi : withinB l (-16320) 16320 = true := within_lev hlev
 have HWi := lh (fun (wx : World) (o : Only [] w wx) => within_any (-16320) 16320 (hl.quiet o))
 rw [hwi] at HWi
 have HZe := lh (fun (wx : World) (o : Only [] w wx) => kzero_any (hl.quiet o))
 have HB0 := lh (fun (wx : World) (o : Only [] w wx) (b : Bool) (hb : b = !zeroB l) => (by subst hb; exact X.bit 39 _ (X.quiet h o) ok (by omega) (by omega) : Calls Tryz.prog 122 #[.pointer (some ⟨R, 0, none⟩), .int .i64 39, .bool b] wx _))
 have Hok1 := lh (X.ok_bit 39 (!zeroB l) ok (by omega))
 have HL := lh hl
 have HFlt := lh (X.lt h)
 have HBse := lh (X.base_le h)
 have Hap := lh hap
 have Hw := lh hw
 have Hlen := lh hlen
 have Hlev := lh hlev
 have HC : Hid (coefG X.C 8 l s = if (X.C.bit 39 (!zeroB l) s).1 then coefGoG X.C 39 63 l (orderD 8) 0 (List.replicate 64 0) (X.C.bit 39 (!zeroB l) s).2 else (.ok (List.replicate 64 0), (X.C.bit 39 (!zeroB l) s).2)) := lh rfl
 have HOc := lh (fun (wx : World) => korder8_any wx)
 have HODl := lh (orderD_len8)
 have HODt := lh (orderD_lt8)
 have HODn : Hid ((natI (orderD 8)).length = 64) := lh (by rw [show (natI (orderD 8)).length = (orderD 8).length by simp [natI]]; exact orderD_len8)
 generalize orderD 8 = OD at *
 have hn0 := Only.new w (.cells #[.int .i64 0, .slice none 0 0] 45)
 have HE0 : Hid ((w.alloc (.cells #[.int .i64 0, .slice none 0 0] 45)).heap[w.heap.size]? = some (.cells #[.int .i64 0, .slice none 0 0] 45 (0, 0))) := lh (heap_alloc_new w _)
 have HQ0 := lh hn0
 clear h hl hlev hap hw ok hwi hn0
 go_enter Tryz.func88, Tryz.ntmps88
 go_wp2_with fail
 generalize hW0 : World.alloc w _ = w0 at *
 have HZ0 : Hid (w.heap.size < w0.heap.size) := lh (Array.getElem?_eq_some_iff.1 HE0.out).1
 clear hW0
 go_at_call 23
 refine (HWi.out w0 HQ0.out).mono ?_
 rintro e w1 ⟨rfl, rfl⟩
 go_wp2_with fail
 go_at_call 123
 refine (kbase_any8 _).mono ?_
 rintro e w1 ⟨rfl, rfl⟩
 go_wp2_with fail
 go_at_call 124
 refine (HOc.out _).mono ?_
 rintro e w1 ⟨ov, rfl, hord, hq1⟩
 have hol : (natI OD).length = 64 := HODn.out
 obtain ⟨ob, ocap, hov, hob1, hob2⟩ := hord.form (by omega)
 rw [hol] at hov
 subst hov
 have HOrd1 := lh hord
 have HQ1 := lh (HQ0.out.q hq1)
 have HE1 := lh (hq1.row HE0.out)
 have HZ1 := lh (Nat.lt_of_lt_of_le HZ0.out hq1.size)
 have Hob := lh (And.intro (Nat.lt_of_lt_of_le HZ0.out hob1) hob2)
 clear hord hq1 hol hob1 hob2
 have hmk : ∀ W : World, (Instr.makeSlice 25 (.int .i64 64) (.int .i64 64)).run Tryz.prog W = .ok (.slice (some ⟨W.heap.size, 0, none⟩) 64 64) (W.alloc (.cells (madeCells #[.int .i64 0] 64) 3)) := fun wz => run_make_row' (P := Tryz.prog) 25 3 (.int .i64 0) 8 EI.ut (by kernel_rfl) rfl .i64 .i64 64 (by omega) (by omega) wz
 go_wp2_with fail
 clear hmk
 have hqn := Only.new w1 (.cells (madeCells #[.int .i64 0] 64) 3)
 have HOut : Hid (Own .i64 3 w1.heap.size (w1.alloc (.cells (madeCells #[.int .i64 0] 64) 3)) (.slice (some ⟨w1.heap.size, 0, none⟩) 64 64) (List.replicate 64 0)) := lh (own_made .i64 3 w1 64 (by simp [maxLen]))
 have HQ2 := lh (HQ1.out.q hqn)
 have HE2 := lh (hqn.row HE1.out)
 have HOrd := lh (HOrd1.out.quiet hqn)
 have HZg : Hid (w1.heap.size < (w1.alloc (.cells (madeCells #[.int .i64 0] 64) 3)).heap.size) := lh (by simp)
 generalize hW2 : World.alloc w1 _ = W2 at *
 clear hqn hW2 HOrd1 HE1 HE0
 generalize hgg : w1.heap.size = g at *
 clear hgg
 have HgF : Hid (g ∉ F) := lh (fun hx => by have := HFlt.out g hx; have := HZ1.out; omega)
 have HeF : Hid (w.heap.size ∉ g :: F) := lh (fun hx => by rcases List.mem_cons.1 hx with hx | hx; have := HZ1.out; omega; have := HFlt.out _ hx; omega)
 have HLs := lh (fun (wx : World) (o : Only (g :: F) W2 wx) => (HL.out.quiet HQ2.out).only o (fun x hx => by rcases List.mem_cons.1 hx with rfl | hx; right; have := HZ1.out; have := Hw.out; omega; exact Hap.out x hx))
 have HOs := lh (fun (wx : World) (o : Only (g :: F) W2 wx) => HOrd.out.only o (fun x hx e => by have e2 : ob = x := (by simpa [Value.ownBlock] using e); subst e2; rcases List.mem_cons.1 hx with hx | hx; have := Hob.out.2; omega; have := HFlt.out _ hx; have := Hob.out.1; omega))
 go_at_call 125
 refine (HZe.out W2 HQ2.out).mono ?_
 rintro e w2 ⟨rfl, rfl⟩
 go_wp2_with fail
 go_at_call 122
 refine (HB0.out W2 HQ2.out _ rfl).mono ?_
 rintro e w3 ⟨rfl, F1, hk3, hg3⟩
 have Hk3 := lh hk3
 have HL3 : Hid (CLoop g F W2 F1 w3) := lh (CLoop.went ⟨Only.refl _ _, fun x hx => .inl hx⟩ hg3)
 have HO3 : Hid (Own .i64 3 g w3 (.slice (some ⟨g, 0, none⟩) 64 64) (List.replicate 64 0)) := lh (HOut.out.only hg3.1 (fun x hx e => by have e2 : g = x := (by simpa [Value.ownBlock] using e); subst e2; exact HgF.out hx))
 clear hk3 hg3 HB0 HZe HWi HOut
 generalize X.C.bit 39 (!zeroB l) s = b1 at *
 obtain ⟨t1, s1⟩ := b1
 simp only at Hk3 HC Hok1 ⊢
 cases t1 with
 | false =>
  rw [if_neg (by simp)] at HC
  skip
  have HEj := lh (HL3.out.only.rowAt HE2.out HeF.out)
  obtain ⟨z0, z1, y0, y1, -⟩ := row2 HEj.out
  go_wp2_with fail
  obtain ⟨hrow, hon⟩ := row2_set (x := .int .i64 0) (y := .slice none 0 0) HEj.out
  refine bodyPost_ret (results_tmp_cell Tryz.results88 _ _ w.heap.size _ _ _ _ _ rfl rfl hrow Tryz.underlying45 rfl (err_info _ rfl)) rfl (HPost.out _ _ ?_)
  unfold CodeG
  rw [HC.out]
  have z1' := HZ1.out
  exact ⟨_, X.only Hk3.out hon (fun x hx => by rw [mSg] at hx; subst hx; exact ⟨HBse.out, fun hx => (HL3.out.new _ hx).elim (fun a => HeF.out (List.mem_cons_of_mem _ a)) (fun a => by have := HQ2.out.size; have := HZg.out; omega)⟩), CLoop.end HQ2.out HL3.out hon (by omega) (Nat.le_refl _), _, rfl, (HO3.out.only hon (fun x hx e => by have e2 : g = x := (by simpa [Value.ownBlock] using e); rw [mSg] at hx; omega)).lower (by omega), fun x e => by have e2 : g = x := (by simpa [Value.ownBlock] using e); subst e2; exact HL3.out.apart HZg.out HgF.out⟩
 | true =>
  rw [if_pos rfl] at HC
  go_wp2_with fail
  go_loopw [10] (fun i wr => ∃ (k : Nat) (Fc : List Nat) (sc : X.σ) (ol : List Int), k ≤ 64 ∧ i = .int .i64 k ∧ Hid (X.At Fc wr sc) ∧ Hid (CLoop g F W2 Fc wr) ∧ Hid (Own .i64 3 g wr (.slice (some ⟨g, 0, none⟩) 64 64) ol) ∧ Hid (ol.length = 64) ∧ Hid (coefGoG X.C 39 63 l (OD.drop k) k ol sc = coefGoG X.C 39 63 l OD 0 (List.replicate 64 0) s1) ∧ Hid (X.Ok (n0 + 2 + 90 * k) sc)) (fun i _ => 64 - (intOf i).toNat)
  case atStart => exact ⟨0, _, s1, _, by omega, rfl, Hk3, HL3, HO3, lh (by simp), lh rfl, lh (X.ok_le Hok1.out (by omega))⟩
  case round =>
   obtain ⟨k, Fc, sc, ol, hk, rfl, Hkc, HLc, HOc, Holen, He, Ho⟩ := hrel
   by_cases hlt : k < 64
   ·have hki : (k : Int) < 64 := by omega
    have hk0 : (0 : Int) ≤ (k : Int) := by omega
    obtain ⟨a, ⟨ha1, ha2⟩, hdrop⟩ : ∃ a, (a < 64 ∧ OD.getD k 0 = a) ∧ OD.drop k = a :: OD.drop (k + 1) := by
     have hk' : k < OD.length := by rw [HODl.out]; exact hlt
     exact ⟨OD[k], ⟨HODt.out _ (List.getElem_mem _), by simp [hk']⟩, List.drop_eq_getElem_cons hk'⟩
    obtain ⟨lb, loff, lcap', he, hlb1, hlb2, hc⟩ := (HLs.out wr HLc.out.only).at (i := a) (by rw [Hlen.out]; exact ha1)
    injection he with he1 he2 he3
    subst he1
    clear he2 he3 hlb1 hlb2
    have cl := hc
    have co := (HOs.out wr HLc.out.only).cellS HODn.out.symm (i := k) (by rw [HODn.out]; exact hlt)
    rw [natI_at2, ha2] at co
    have hai : (0 : Int) ≤ (a : Int) := by omega
    have hai2 : (a : Int) < 64 := by omega
    have hvr : -16320 ≤ l.getD a 0 ∧ l.getD a 0 ≤ 16320 := Hlev.out _ (by rw [List.getD_eq_getElem?_getD, List.getElem?_eq_getElem (by rw [Hlen.out]; exact ha1)]; exact List.getElem_mem _)
    have Hdrop := lh hdrop
    have Ha := lh (And.intro ha1 ha2)
    have Hlt := lh hlt
    have Hv : Hid (∃ v, v = l.getD a 0) := lh ⟨_, rfl⟩
    obtain ⟨v, hv⟩ := Hv.out
    rw [← hv] at cl hvr
    have Hv := lh hv
    clear hdrop ha2 hv hc
    have HSt := lh (fun (wx : World) (Fx : List Nat) (hx : Went Fc wr Fx wx) => (HOc.out.only hx.1 (fun x hx e => by have e2 : g = x := (by simpa [Value.ownBlock] using e); subst e2; exact HLc.out.apart HZg.out HgF.out hx) : Own .i64 3 g wx (.slice (some ⟨g, 0, none⟩) 64 64) ol))
    clear ha1
    go_upto_region 17 with (fail)
    go_cut [76] (fun s76 wx => ∃ (F7 : List Nat) (s7 : X.σ) (sk : Bool), s76 = .bool sk ∧ Hid (X.At F7 wx s7) ∧ Hid (Went Fc wr F7 wx) ∧ Hid ((k < 63 → X.C.bit (39 + 1 + min k 7) (decide (v ≠ 0)) sc = (!sk, s7)) ∧ (¬ k < 63 → sk = false ∧ s7 = sc)) ∧ Hid (X.Ok (n0 + 4 + 90 * k) s7))
    case first =>
     by_cases hkl : k < 63
     ·have hkli : (k : Int) < 63 := by omega
      have HB1 := lh (fun (wx : World) (Fx : List Nat) (hx : X.At Fx wx sc) (b : Bool) (hb : b = decide (v ≠ 0)) (y : Int) (hy : y = ((39 + 1 + min k 7 : Nat) : Int)) => (by subst hb; subst hy; exact X.bit (39 + 1 + min k 7) _ hx Ho.out (by omega) (by omega) : Calls Tryz.prog 122 #[.pointer (some ⟨R, 0, none⟩), .int .i64 y, .bool b] wx _))
      have Ok1 := lh (X.ok_bit (39 + 1 + min k 7) (decide (v ≠ 0)) Ho.out (by omega))
      obtain ⟨B1, hB1⟩ : ∃ y, y = X.C.bit (39 + 1 + min k 7) (decide (v ≠ 0)) sc := ⟨_, rfl⟩
      rw [← hB1] at HB1 Ok1
      obtain ⟨t1, s1'⟩ := B1
      simp only at HB1 Ok1
      have HB1e := lh hB1.symm
      clear hB1
      have Hkl := lh hkl
      clear cl co
      go_wp2_with fail
      all_goals
       go_at_call 122
       refine (HB1.out _ _ Hkc.out _ (by first | rfl | exact bne_dec _ _ | exact beq_dec _ _ | omega) _ (by omega)).mono ?_
       rintro e w7 ⟨rfl, F7, hk7, hg7⟩
       have Hk7 := lh hk7
       have Hg7 := lh (hg7)
       clear hk7 hg7
       go_wp2_with fail
       go_meet
       exact ⟨F7, s1', _, rfl, Hk7, Hg7, lh ⟨fun _ => by rw [HB1e.out, Bool.not_not], fun hh => absurd Hkl.out hh⟩, lh (X.ok_le Ok1.out (by omega))⟩
     ·have hkli : ¬ (k : Int) < 63 := by omega
      have Hkl := lh hkl
      clear cl co
      go_wp2_with fail
      go_meet
      exact ⟨Fc, sc, false, rfl, Hkc, lh (Went.refl _ _), lh ⟨fun hh => absurd hh Hkl.out, fun _ => ⟨rfl, rfl⟩⟩, lh (X.ok_le Ho.out (by omega))⟩
    case rest =>
     obtain ⟨F7, s7, sk, rfl, Hk7, Hg7, Hb7, Ok7⟩ := hcut
     clear cl co
     cases sk with
     | true =>
      have hkl : k < 63 := by rcases Nat.lt_or_ge k 63 with hh | hh; exact hh; exact absurd (Hb7.out.2 (by omega)).1 (by simp)
      have Hgo := lh (goG_skip (base := 39) (a := a) (l := l) (m := sc) (m1 := s7) (rest := OD.drop (k + 1)) (out := ol) hkl (by rw [← Hv.out]; exact Hb7.out.1 hkl))
      clear hkl
      have HO7 := lh (HSt.out _ _ Hg7.out)
      have HL7 := lh (HLc.out.went Hg7.out)
      go_wp2_with fail
      exact ⟨⟨k + 1, F7, _, ol, by have := Hlt.out; omega, by go_num, Hk7, HL7, HO7, Holen, lh (by rw [← He.out, Hdrop.out]; exact Hgo.out.symm), lh (X.ok_le Ok7.out (by omega))⟩, by simp [intOf]; have := Hlt.out; omega⟩
     | false =>
      have HFl := lh (fun (wx : World) (Fx : List Nat) (hx : X.At Fx wx s7) (b : Bool) (hb : b = decide (v < 0)) => (by subst hb; exact X.flat _ hx Ok7.out (by omega) : Calls Tryz.prog 121 #[.pointer (some ⟨R, 0, none⟩), .bool b] wx _))
      have ok2 := X.ok_flat (decide (v < 0)) Ok7.out
      obtain ⟨FL, hFL⟩ : ∃ y, y = X.C.flat (decide (v < 0)) s7 := ⟨_, rfl⟩
      rw [← hFL] at HFl ok2
      obtain ⟨neg, s2'⟩ := FL
      simp only at HFl ok2
      have Ok2 := lh ok2
      have HSz := lh (fun (wx : World) (Fx : List Nat) (hx : X.At Fx wx s2') (y : Int) (hy : y = max v (-v) - 1) => (by subst hy; exact gsize_any X hx (base := 39) (by omega) _ (by omega) Ok2.out (by omega) : Calls Tryz.prog 126 #[.pointer (some ⟨R, 0, none⟩), .int .i64 39, .int .i64 y] wx _))
      obtain ⟨ok3, hzn⟩ := sizeG_ok X (base := 39) (by omega) (max v (-v) - 1) ok2
      obtain ⟨SZ, hSZ⟩ : ∃ y, y = sizeG X.C 39 (max v (-v) - 1) s2' := ⟨_, rfl⟩
      rw [← hSZ] at HSz ok3 hzn
      obtain ⟨zn, s3'⟩ := SZ
      simp only at HSz ok3 hzn
      have Ok3 := lh ok3
      have HLe0 : Hid (levelG X.C 39 (l.getD a 0) s7 = (signD neg zn, s3')) := lh (levelG_eq (by rw [← Hv.out]; exact hFL.symm) (by rw [← Hv.out]; exact hSZ.symm))
      clear ok2 ok3 hFL hSZ
      obtain ⟨x, hx⟩ : ∃ x, signD neg zn = x := ⟨_, rfl⟩
      have HLe : Hid (levelG X.C 39 (l.getD a 0) s7 = (x, s3')) := lh (by rw [HLe0.out, hx])
      have Hx := lh hx
      have hxx : (x < -16320 ∨ 16320 < x) ↔ 16320 < (zn : Int) + 1 := by rw [← hx]; cases neg <;> simp only [signD] <;> first | (simp; omega) | omega
      clear hx HLe0
      have Hxx := lh hxx
      clear hxx
      go_wp2_with fail
      go_at_call 121
      refine (HFl.out _ _ Hk7.out _ (by first | rfl | exact bne_dec _ _ | exact beq_dec _ _ | omega)).mono ?_
      rintro e w8 ⟨rfl, F8, hk8, hg8⟩
      have Hk8 := lh hk8
      have Hg8 := lh (Hg7.out.trans hg8)
      clear hk8 hg8
      go_upto_region 19 with (fail)
      go_cut [13] (fun s13 wx => ∃ (F9 : List Nat), s13 = .int .i64 ((zn : Int) + 1) ∧ Hid (X.At F9 wx s3') ∧ Hid (Went Fc wr F9 wx))
      case first =>
       go_wp2_with fail
       all_goals
        go_at_call 126
        refine (HSz.out _ _ Hk8.out _ (by omega)).mono ?_
        rintro e w9 ⟨rfl, F9, hk9, hg9⟩
        have Hk9 := lh hk9
        have Hg9 := lh (Hg8.out.trans hg9)
        clear hk9 hg9
        go_wp2_with fail
        go_meet
        exact ⟨F9, rfl, Hk9, Hg9⟩
      case rest =>
       obtain ⟨F9, rfl, Hk9, Hg9⟩ := hcut
       have HL9 := lh (HLc.out.went Hg9.out)
       have HO9 := lh (HSt.out _ _ Hg9.out)
       by_cases hbz : 16320 < (zn : Int) + 1
       ·have hbad := Hxx.out.2 hbz
        have Hend : Hid (coefG X.C 8 l s = (.error ⟨[(sCoef, (k : Int))], 3⟩, s3')) := lh (by
         rw [HC.out, ← He.out, Hdrop.out]
         rcases Nat.lt_or_ge k 63 with hh | hh
         ·exact goG_bad hh (by rw [← Hv.out]; exact Hb7.out.1 hh) HLe.out hbad
         ·exact goG_bad' (by omega) (by rw [← (Hb7.out.2 (by omega)).2]; exact HLe.out) hbad)
        clear hbad
        have HE9 := lh (HL9.out.only.rowAt HE2.out HeF.out)
        go_wp2_with fail
        go_at_call 127
        refine (wrap_any _ _ 3 _ (by omega)).mono ?_
        rintro e w10 ⟨kv, rfl, ⟨sv, rfl, hcs⟩, hq10⟩
        obtain ⟨_, a2, cap2, hsv, _⟩ := id hcs
        subst hsv
        have Hcs := lh hcs
        have Hq10 := lh hq10
        clear hcs hq10
        have HE10 := lh (Hq10.out.row HE9.out)
        obtain ⟨z0, z1, y0, y1, -⟩ := row2 HE10.out
        go_wp2_with fail
        obtain ⟨hrow, hon⟩ := row2_set (x := .int .i64 3) (y := .slice a2 1 cap2) HE10.out
        refine bodyPost_ret (results_tmp_cell Tryz.results88 _ _ w.heap.size _ _ _ _ _ rfl rfl hrow Tryz.underlying45 rfl (err_info _ rfl)) rfl (HPost.out _ _ ?_)
        unfold CodeG
        rw [Hend.out]
        have z1' := HZ1.out
        have HL10 := HL9.out.quiet Hq10.out
        have z9 := HL9.out.only.size
        have zg := HZg.out
        have z2 := HQ2.out.size
        exact ⟨_, X.only (X.quiet Hk9.out Hq10.out) hon (fun x hx => by rw [mSg] at hx; subst hx; exact ⟨HBse.out, fun hx => (HL10.new _ hx).elim (fun a => HeF.out (List.mem_cons_of_mem _ a)) (fun a => by omega)⟩), CLoop.end HQ2.out HL10 hon (by omega) (Nat.le_refl _), _, rfl, (Hcs.out.only hon (fun x hx => by rw [mSg] at hx; subst hx; exact .inl (by omega))).mono (by omega) hon.size⟩
       ·have Hgood := lh (fun hh => hbz (Hxx.out.1 hh) : ¬ (x < -16320 ∨ 16320 < x))
        go_upto_if 94 with (fail)
        go_cut [13] (fun s13 wx => s13 = .int .i64 x ∧ wc = wx)
        case first =>
         have hxn := Hx.out
         cases neg with
         | true =>
          go_wp2_with fail
          go_meet
          exact ⟨by rw [← hxn]; show _ = Value.int .i64 (-(zn : Int) - 1); congr 1; omega, rfl⟩
         | false =>
          go_wp2_with fail
          go_meet
          exact ⟨by rw [← hxn]; rfl, rfl⟩
        case rest =>
         obtain ⟨rfl, rfl⟩ := hcut
         have co9 := (HOs.out wc HL9.out.only).cellS HODn.out.symm (i := k) (by rw [HODn.out]; exact Hlt.out)
         rw [natI_at2, Ha.out.2] at co9
         have cg9 := HO9.out.cellS Holen.out.symm (i := a) (by rw [Holen.out]; exact Ha.out.1)
         have fg9 := HO9.out.frzS Holen.out.symm a
         obtain ⟨hs1, hs2⟩ := HO9.out.storeS Holen.out.symm (x := x) (by rw [← Hx.out]; cases neg <;> simp only [signD, InK] <;> first | (simp; omega) | omega) a
         have HO10 := lh hs1
         have HL10 := lh (HL9.out.store hs2)
         have Hk10 := lh (X.only Hk9.out hs2 (fun y hy => by rw [mSg] at hy; subst hy; exact ⟨by have := HBse.out; have := HZ1.out; omega, HL9.out.apart HZg.out HgF.out⟩))
         clear hs1 hs2 hzn hvr
         go_upto_region 25 with (fail)
         generalize hW10 : World.setCell wc _ _ = w10 at *
         clear hW10 co9 cg9 fg9
         go_cut [123] (fun s123 wx => ∃ (F11 : List Nat) (s11 : X.σ) (t9 : Bool), s123 = .bool t9 ∧ Hid (X.At F11 wx s11) ∧ Hid (CLoop g F W2 F11 wx) ∧ Hid (Own .i64 3 g wx (.slice (some ⟨g, 0, none⟩) 64 64) (ol.set a x)) ∧ Hid ((k < 63 → X.C.bit (39 + 9 + min k 7) (zerosAt l (OD.drop (k + 1))) s3' = (t9, s11)) ∧ (¬ k < 63 → t9 = false ∧ s11 = s3')) ∧ Hid (X.Ok (n0 + 92 + 90 * k) s11))
         case first =>
          by_cases hkl : k < 63
          ·have hkli : (k : Int) < 63 := by omega
           have HB9 := lh (fun (wx : World) (Fx : List Nat) (hx : X.At Fx wx s3') (b : Bool) (hb : b = zerosAt l (OD.drop (k + 1))) (y : Int) (hy : y = ((39 + 9 + min k 7 : Nat) : Int)) => (by subst hb; subst hy; exact X.bit (39 + 9 + min k 7) _ hx Ok3.out (by omega) (by omega) : Calls Tryz.prog 122 #[.pointer (some ⟨R, 0, none⟩), .int .i64 y, .bool b] wx _))
           have Ok9 := lh (X.ok_bit (39 + 9 + min k 7) (zerosAt l (OD.drop (k + 1))) Ok3.out (by omega))
           have Hkl := lh hkl
           have HRs := lh (fun (y : Int) (hy : y = ((k + 1 : Nat) : Int)) => (by subst hy; exact krest_zero (HLs.out _ HL10.out.only) ((HOs.out _ HL10.out.only).ints) (by rw [Hlen.out]; exact HODt.out) (k + 1) (by rw [HODl.out]; have := Hlt.out; omega) : Calls Tryz.prog 128 #[_, .slice (some ⟨ob, 0, none⟩) 64 ocap, .int .i64 y] w10 _))
           go_wp2_with fail
           all_goals
            go_at_call 128
            refine (HRs.out _ (by omega)).mono ?_
            rintro e wy ⟨rfl, rfl⟩
            go_wp2_with fail
            go_at_call 122
            refine (HB9.out _ _ Hk10.out _ rfl _ (by omega)).mono ?_
            rintro e w11 ⟨rfl, F11, hk11, hg11⟩
            have Hk11 := lh hk11
            have HL11 := lh (HL10.out.went hg11)
            have HO11 := lh (HO10.out.only hg11.1 (fun y hy e => by have e2 : g = y := (by simpa [Value.ownBlock] using e); subst e2; exact HL10.out.apart HZg.out HgF.out hy))
            clear hk11 hg11
            go_wp2_with fail
            go_meet
            exact ⟨F11, _, _, rfl, Hk11, HL11, HO11, lh ⟨fun _ => rfl, fun hh => absurd Hkl.out hh⟩, lh (X.ok_le Ok9.out (by omega))⟩
          ·have hkli : ¬ (k : Int) < 63 := by omega
           have Hkl := lh hkl
           go_wp2_with fail
           go_meet
           exact ⟨F9, s3', false, rfl, Hk10, HL10, HO10, lh ⟨fun hh => absurd hh Hkl.out, fun _ => ⟨rfl, rfl⟩⟩, lh (X.ok_le Ok3.out (by omega))⟩
         case rest =>
          obtain ⟨F11, s11, t9, rfl, Hk11, HL11, HO11, Hb9, Ok9⟩ := hcut
          cases t9 with
          | true =>
           have hkl : k < 63 := by rcases Nat.lt_or_ge k 63 with hh | hh; exact hh; exact absurd (Hb9.out.2 (by omega)).1 (by simp)
           have Hend : Hid (coefG X.C 8 l s = (.ok (ol.set a x), s11)) := lh (by rw [HC.out, ← He.out, Hdrop.out]; exact goG_done hkl (by rw [← Hv.out]; exact Hb7.out.1 hkl) HLe.out Hgood.out (Hb9.out.1 hkl))
           clear hkl
           have HEj := lh (HL11.out.only.rowAt HE2.out HeF.out)
           obtain ⟨z0, z1, y0, y1, -⟩ := row2 HEj.out
           go_wp2_with fail
           obtain ⟨hrow, hon⟩ := row2_set (x := .int .i64 0) (y := .slice none 0 0) HEj.out
           refine bodyPost_ret (results_tmp_cell Tryz.results88 _ _ w.heap.size _ _ _ _ _ rfl rfl hrow Tryz.underlying45 rfl (err_info _ rfl)) rfl (HPost.out _ _ ?_)
           unfold CodeG
           rw [Hend.out]
           have z1' := HZ1.out
           exact ⟨_, X.only Hk11.out hon (fun x hx => by rw [mSg] at hx; subst hx; exact ⟨HBse.out, fun hx => (HL11.out.new _ hx).elim (fun a => HeF.out (List.mem_cons_of_mem _ a)) (fun a => by have := HQ2.out.size; have := HZg.out; omega)⟩), CLoop.end HQ2.out HL11.out hon (by omega) (Nat.le_refl _), _, rfl, (HO11.out.only hon (fun x hx e => by have e2 : g = x := (by simpa [Value.ownBlock] using e); rw [mSg] at hx; omega)).lower (by omega), fun x e => by have e2 : g = x := (by simpa [Value.ownBlock] using e); subst e2; exact HL11.out.apart HZg.out HgF.out⟩
          | false =>
           have Hgo : Hid (coefGoG X.C 39 63 l (a :: OD.drop (k + 1)) k ol sc = coefGoG X.C 39 63 l (OD.drop (k + 1)) (k + 1) (ol.set a x) s11) := lh (by
            rcases Nat.lt_or_ge k 63 with hh | hh
            ·exact goG_more hh (by rw [← Hv.out]; exact Hb7.out.1 hh) HLe.out Hgood.out (Hb9.out.1 hh)
            ·rw [(Hb9.out.2 (by omega)).2]
             exact goG_more' (by omega) (by rw [← (Hb7.out.2 (by omega)).2]; exact HLe.out) Hgood.out)
           go_wp2_with fail
           exact ⟨⟨k + 1, F11, _, _, by have := Hlt.out; omega, by go_num, Hk11, HL11, HO11, lh (by rw [List.length_set]; exact Holen.out), lh (by rw [← He.out, Hdrop.out]; exact Hgo.out.symm), lh (X.ok_le Ok9.out (by omega))⟩, by simp [intOf]; have := Hlt.out; omega⟩
   ·obtain rfl : k = 64 := by omega
    have hki : ¬ ((64 : Nat) : Int) < 64 := by omega
    have Hend : Hid (coefG X.C 8 l s = (.ok ol, sc)) := lh (by rw [HC.out, ← He.out, List.drop_eq_nil_of_le (by rw [HODl.out]; omega)]; rfl)
    have HEj := lh (HLc.out.only.rowAt HE2.out HeF.out)
    obtain ⟨z0, z1, y0, y1, -⟩ := row2 HEj.out
    go_wp2_with fail
    obtain ⟨hrow, hon⟩ := row2_set (x := .int .i64 0) (y := .slice none 0 0) HEj.out
    refine bodyPost_ret (results_tmp_cell Tryz.results88 _ _ w.heap.size _ _ _ _ _ rfl rfl hrow Tryz.underlying45 rfl (err_info _ rfl)) rfl (HPost.out _ _ ?_)
    unfold CodeG
    rw [Hend.out]
    have z1' := HZ1.out
    exact ⟨_, X.only Hkc.out hon (fun x hx => by rw [mSg] at hx; subst hx; exact ⟨HBse.out, fun hx => (HLc.out.new _ hx).elim (fun a => HeF.out (List.mem_cons_of_mem _ a)) (fun a => by have := HQ2.out.size; have := HZg.out; omega)⟩), CLoop.end HQ2.out HLc.out hon (by omega) (Nat.le_refl _), _, rfl, (HOc.out.only hon (fun x hx e => by have e2 : g = x := (by simpa [Value.ownBlock] using e); rw [mSg] at hx; omega)).lower (by omega), fun x e => by have e2 : g = x := (by simpa [Value.ownBlock] using e); subst e2; exact HLc.out.apart HZg.out HgF.out⟩
section
variable {R : Nat} (X : KC R)
theorem levelG_ok {base : Nat} (hb : base ≤ 39) (v : Int) {n : Nat} {s : X.σ} (h : X.Ok n s) : X.Ok (n + 82) (levelG X.C base v s).2 := by
 unfold levelG
 exact X.ok_le (sizeG_ok X hb _ (X.ok_flat _ h)).1 (by omega)
theorem coefGoG_ok {base last : Nat} (hb : base ≤ 39) {l : List Int} : ∀ (o : List Nat) (i : Nat) (out : List Int) {n : Nat} {s : X.σ}, X.Ok n s →
  X.Ok (n + 86 * o.length) (coefGoG X.C base last l o i out s).2 ∧ ∀ r, (coefGoG X.C base last l o i out s).1 = .ok r → r.length = out.length := by
 intro o
 induction o with
 | nil => intro i out n s h; exact ⟨h, fun r e => by cases e; rfl⟩
 | cons a rest ih =>
  intro i out n s h
  have hl : (a :: rest).length = rest.length + 1 := rfl
  unfold coefGoG
  by_cases hi : i < last
  ·rw [if_pos hi]
   have A := X.ok_bit (base + 1 + min i 7) (decide (l.getD a 0 ≠ 0)) h (by omega)
   generalize X.C.bit (base + 1 + min i 7) (decide (l.getD a 0 ≠ 0)) s = b1 at *
   have B := levelG_ok X hb (l.getD a 0) A
   generalize levelG X.C base (l.getD a 0) b1.2 = lv at *
   have C := X.ok_bit (base + 9 + min i 7) (zerosAt l rest) B (by omega)
   generalize X.C.bit (base + 9 + min i 7) (zerosAt l rest) lv.2 = b9 at *
   split
   ·split
    ·exact ⟨X.ok_le B (by omega), fun r e => by cases e⟩
    ·split
     ·exact ⟨X.ok_le C (by omega), fun r e => by cases e; simp⟩
     ·have D := ih (i + 1) (out.set a lv.1) C
      exact ⟨X.ok_le D.1 (by omega), fun r e => by rw [D.2 r e]; simp⟩
   ·have D := ih (i + 1) out A
    exact ⟨X.ok_le D.1 (by omega), D.2⟩
  ·rw [if_neg hi]
   have B := levelG_ok X hb (l.getD a 0) h
   generalize levelG X.C base (l.getD a 0) s = lv at *
   split
   ·exact ⟨X.ok_le B (by omega), fun r e => by cases e⟩
   ·have D := ih (i + 1) (out.set a lv.1) B
    exact ⟨X.ok_le D.1 (by omega), fun r e => by rw [D.2 r e]; simp⟩
theorem baseD_le (side : Nat) : baseD side ≤ 39 := by unfold baseD; split <;> omega
theorem coefG_ok {side : Nat} {l : List Int} {n : Nat} {s : X.σ} (h : X.Ok n s) : X.Ok (n + 2 + 86 * (orderD side).length) (coefG X.C side l s).2 ∧ ∀ r, (coefG X.C side l s).1 = .ok r → r.length = side * side := by
 unfold coefG
 have hb := baseD_le side
 have A := X.ok_bit (baseD side) (!zeroB l) h (by omega)
 split
 ·have D := coefGoG_ok X hb (last := side * side - 1) (l := l) (orderD side) 0 (List.replicate (side * side) 0) A
  exact ⟨D.1, fun r e => by rw [D.2 r e]; simp⟩
 ·exact ⟨X.ok_le A (by omega), fun r e => by cases e; simp⟩
theorem coefG4_ok {l : List Int} {n : Nat} {s : X.σ} (h : X.Ok n s) : X.Ok (n + 1400) (coefG X.C 4 l s).2 ∧ ∀ r, (coefG X.C 4 l s).1 = .ok r → r.length = 16 := by
 have D := coefG_ok X (side := 4) (l := l) h
 rw [orderD_len4] at D
 exact ⟨X.ok_le D.1 (by omega), D.2⟩
end
section
variable {σ : Type} {C : CodO σ} {qm : List Int} {ql : List (List Int)} {k : Nat} {ms : List Int} {ls : List (List Int)} {m m1 m2 : σ} {mo : Nat} {l : List Int} {e : Err}
theorem smallGoG_more (h1 : modeG C (qm.getD ms.length 0) m = (mo, m1)) (h2 : coefG C 4 (ql.getD ls.length []) m1 = (.ok l, m2)) : smallGoG C qm ql (k + 1) ms ls m = smallGoG C qm ql k (ms ++ [(mo : Int)]) (ls ++ [l]) m2 := by
 rw [smallGoG, h1]; simp only [h2]
theorem smallGoG_bad (h1 : modeG C (qm.getD ms.length 0) m = (mo, m1)) (h2 : coefG C 4 (ql.getD ls.length []) m1 = (.error e, m2)) : smallGoG C qm ql (k + 1) ms ls m = (.error e, m2) := by
 rw [smallGoG, h1]; simp only [h2]
end
theorem take_set_snoc {α : Type} {l : List α} {k : Nat} (h : k < l.length) (x : α) : (l.set k x).take (k + 1) = l.take k ++ [x] := by
 rw [List.take_succ_eq_append_getElem (by simpa using h), List.take_set_of_le (Nat.le_refl _), List.getElem_set_self]
/-- the lists of a square's four parts, as they are made: each in a block of its own, apart from the coder's -/
structure QSm (O : Nat) (F : List Nat) (w : World) (vq : List Value) (ls : List (List Int)) : Prop where
 len : vq.length = 4
 at_ : ∀ j, j < 4 → (vq.getD j nilS = nilS ∧ ls.getD j [] = []) ∨ ∃ g, O + 1 < g ∧ g < w.heap.size ∧ g ∉ F ∧ Ints .i64 g (g + 1) w (vq.getD j nilS) (ls.getD j [])
section
variable {O : Nat} {F F' : List Nat} {w w' : World} {vq : List Value} {ls : List (List Int)}
theorem QSm.nil (O : Nat) (F : List Nat) (w : World) : QSm O F w [nilS, nilS, nilS, nilS] [] :=
 ⟨rfl, fun j hj => .inl ⟨by rcases (by omega : j = 0 ∨ j = 1 ∨ j = 2 ∨ j = 3) with rfl | rfl | rfl | rfl <;> rfl, by simp⟩⟩
theorem QSm.went (h : QSm O F w vq ls) (g : Went F w F' w') : QSm O F' w' vq ls := by
 refine ⟨h.len, fun j hj => (h.at_ j hj).imp_right ?_⟩
 rintro ⟨b, h1, h2, h3, h4⟩
 exact ⟨b, h1, Nat.lt_of_lt_of_le h2 g.1.size, fun hx => (g.2 b hx).elim h3 (fun hh => by omega), h4.only g.1 (fun x hx => by
  by_cases e : x = b
  ·subst e; exact absurd hx h3
  ·omega)⟩
theorem QSm.store (h : QSm O F w vq ls) {S : List Nat} (g : Only S w w') (hS : ∀ x ∈ S, x ≤ O + 1) : QSm O F w' vq ls := by
 refine ⟨h.len, fun j hj => (h.at_ j hj).imp_right ?_⟩
 rintro ⟨b, h1, h2, h3, h4⟩
 exact ⟨b, h1, Nat.lt_of_lt_of_le h2 g.size, h3, h4.only g (fun x hx => by have := hS x hx; omega)⟩
theorem QSm.ins (h : QSm O F w vq ls) (L : List Int) (hL : L = []) : SqIn (O + 1) w.heap.size w nilS vq L ls := by
 subst hL
 refine ⟨Ints.nil _ _ _ _, h.len, fun j hj => ?_⟩
 rcases h.at_ j hj with ⟨e1, e2⟩ | ⟨b, h1, h2, h3, h4⟩
 ·rw [e1, e2]; exact Ints.nil _ _ _ _
 ·exact h4.mono (by omega) (by omega)
theorem QSm.set (h : QSm O F w vq ls) {k : Nat} (hk : k < 4) (hl : ls.length = k) {v : Value} {l : List Int} {g : Nat} (h1 : O + 1 < g) (h2 : g < w.heap.size) (h3 : g ∉ F) (h4 : Ints .i64 g (g + 1) w v l) : QSm O F w (vq.set k v) (ls ++ [l]) := by
 refine ⟨by rw [List.length_set]; exact h.len, fun j hj => ?_⟩
 by_cases e : j = k
 ·subst e
  refine .inr ⟨g, h1, h2, h3, ?_⟩
  rw [List.getD_eq_getElem?_getD, List.getElem?_set_self (by rw [h.len]; exact hk), List.getD_eq_getElem?_getD, List.getElem?_append_right (by omega)]
  simp only [hl, Nat.sub_self]
  exact h4
 ·have e1 : (vq.set k v).getD j nilS = vq.getD j nilS := by rw [List.getD_eq_getElem?_getD, List.getElem?_set_ne (Ne.symm e), ← List.getD_eq_getElem?_getD]
  have e2 : (ls ++ [l]).getD j [] = ls.getD j [] := by
   rw [List.getD_eq_getElem?_getD, List.getD_eq_getElem?_getD]
   by_cases hlt : j < ls.length
   ·rw [List.getElem?_append_left hlt]
   ·rw [List.getElem?_eq_none (by simp; omega), List.getElem?_eq_none (by omega)]
  rw [e1, e2]
  exact h.at_ j hj
end
theorem ints_nar {lo hi g cap n : Nat} {w : World} {l : List Int} (h : Ints .i64 lo hi w (.slice (some ⟨g, 0, none⟩) n cap) l) : Ints .i64 g (g + 1) w (.slice (some ⟨g, 0, none⟩) n cap) l := by
 obtain ⟨⟨h1, a, c, e, h3, h4, h5⟩, h6⟩ := h
 refine ⟨⟨h1, a, c, e, h3, h4, fun hp => ?_⟩, h6⟩
 obtain ⟨b, off, ea, x, y, hc⟩ := h5 hp
 rw [ea] at e
 injection e with e1 e2 e3
 injection e1 with e1
 injection e1 with e1 e2
 exact ⟨b, off, ea, by omega, by omega, hc⟩
/-- a list that was made, in its block -/
theorem own_narrow {base : Nat} {w : World} {v : Value} {l : List Int} (h : Own .i64 3 base w v l) (hl : 0 < l.length) : ∃ g cap, v = .slice (some ⟨g, 0, none⟩) l.length cap ∧ base ≤ g ∧ g < w.heap.size ∧ Ints .i64 g (g + 1) w v l := by
 obtain ⟨g, cap, rfl, h1, h2⟩ := h.form hl
 exact ⟨g, cap, rfl, h1, h2, ints_nar h.ints⟩
end Go.Proofs.YthgpgbdkcdmbpaaGreatDoor
