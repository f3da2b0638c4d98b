/- Joined texts: DCoef8, DCoef4. Conditions: each part names its own. -/
import Derived.Test.YtmgbbgffkakcaaaGreatDoorT1
import Derived.Test.YtmgbbgffkakcaaaGreatDoorS2
namespace Go.Proofs.YtmgbbgffkakcaaaGreatDoor
open Go.RowKit
set_option linter.unusedVariables false
set_option linter.unusedSimpArgs false
set_option maxRecDepth 100000
set_option maxHeartbeats 16000000
theorem qDCoef80 {p : Prop} (h : p := by
 go_wp2_with fail
 go_at_call 193
 refine (HLv7.out _ Hk7.out).mono ?_
 rintro e w8 ⟨rfl, hk8, hq8⟩
 have Hk8 := lh hk8
 have HQ8 := lh (HQ7.out.three hq8)
 clear hk8 hq8
 go_wp2_with fail
 go_at_call 75
 refine (in_any _ _ (ErrV.code w8.heap.size w8.heap.size w8 3) (Nat.le_refl _) (Nat.le_refl _)).mono ?_
 rintro e w9 ⟨ev, rfl, hev, hq9⟩
 have Hev := lh hev
 have Hq9 := lh hq9
 clear hev hq9
 go_wp2_with fail
 refine HPost.out _ _ ?_
 unfold CoefP
 rw [Hend.out]
 obtain ⟨n1, n2, n3, n4, n5, n6, n7, n8⟩ := HNum.out
 have hA := HQW6.out.own3 HQ8.out n7
 exact ⟨hA.trans Hq9.out (fun g h _ => h) (by simp), Hk8.out.quiet Hq9.out, ev, rfl, Hev.out.mono hA.size (Nat.le_refl _)⟩) : p := h
theorem code8_any {lo hi R D lo' hi' : Nat} {bv lv : Value} {w : World} {m : Mod} (h : ModAt lo hi R D bv w m) (hl : Ints .i64 lo' hi' w lv (List.replicate 64 0)) (hR : R < lo' ∨ hi' ≤ R) (hD : D < lo' ∨ hi' ≤ D) (hw : hi' ≤ w.heap.size) (hp : m.d.pos ≤ 700000000) :
  Calls Tryz.prog 145 #[cv R, lv] w (CoefP lo hi R D bv w (coefD 8 m)) := by
 refine hidQ fun Q HPost => ?_
 have mb := mBit R
 have nb := nBit R
 have HCheck := lh (coefCheck_any hl (by simp))
 have hcn : checkL (List.replicate 64 (0 : Int)) = none := by unfold checkL; rw [if_neg (by simp), zeros_lev]; rfl
 rw [hcn] at HCheck
 have HL := lh hl
 have HZero := lh (fun (W : World) (o : Only [] w W) => zero_any (hl.quiet o) (by simp))
 obtain ⟨la, lcap, hlv, -, -, hlat, -⟩ := hl.open
 rw [List.length_replicate] at hlv hlat
 subst hlv
 have Hlat := lh hlat
 have HK := lh h
 have hap := (bitD_adv h.ok (c := 39) (by omega)).pos
 have HB := lh (fun (W : World) (o : Only [] w W) (b : Bool) => bit_any (h.quiet o) (c := 39) (by omega) b (by omega))
 have HLt := lh (And.intro h.lt (And.intro h.hR h.dec.hD))
 have HW := lh hw
 clear h hl hcn hlat hw
 go_enter Tryz.func145, Tryz.ntmps145
 go_wp2_with fail
 go_at_call 190
 refine HCheck.out.mono ?_
 rintro e w1 ⟨⟨u, rfl, hu⟩, hq1⟩
 have hu' : u = .nilIface := hu
 subst hu'
 have HQ1 := lh hq1
 clear hq1 hu
 go_wp2_with fail
 go_at_call 191
 refine (base_any8 _).mono ?_
 rintro e w2 ⟨rfl, rfl⟩
 go_wp2_with fail
 go_at_call 192
 refine (order8_any _).mono ?_
 rintro e w2 ⟨ov, rfl, hord, hq2⟩
 have hol : (natI (orderD 8)).length = 64 := by simp [natI, orderD_8]
 obtain ⟨ob, ocap, hov, hob1, hob2⟩ := hord.form (by omega)
 rw [hol] at hov
 subst hov
 have HOrd := lh hord
 have HQ2 := lh (HQ1.out.q hq2)
 have hz1 := HQ1.out.size
 clear hord hq2 hol
 have hmk : ∀ W : World, (Instr.makeSlice 22 (.int .i64 64) (.int .i64 64)).run Tryz.prog W = .ok (.slice (some ⟨W.heap.size, 0, none⟩) 64 64) (W.alloc (.cells (madeCells #[.int .i64 0] 64) 3)) := fun W => run_make_row' (P := Tryz.prog) 22 3 (.int .i64 0) 8 EI.ut (by kernel_rfl) rfl .i64 .i64 64 (by omega) (by omega) W
 go_wp2_with fail
 clear hmk
 have hqn := Only.new w2 (.cells (madeCells #[.int .i64 0] 64) 3)
 have hout := own_made .i64 3 w2 64 (by simp [maxLen])
 have HOut := lh hout
 have HQ3 := lh (HQ2.out.q hqn)
 have HOrd3 := lh (HOrd.out.quiet hqn)
 have hzw := HQ2.out.size
 have hz3 : w2.heap.size < (w2.alloc (.cells (madeCells #[.int .i64 0] 64) 3)).heap.size := by simp
 clear hqn hout HOrd
 generalize World.alloc w2 _ = W3 at *
 generalize w2.heap.size = g at *
 have Hm1 := lh (bitD_adv HK.out.ok (c := 39) (by omega))
 have HNum : Hid (R < w.heap.size ∧ D < w.heap.size ∧ hi ≤ R ∧ hi ≤ D ∧ w.heap.size ≤ ob ∧ ob < g ∧ w.heap.size ≤ g ∧ g < W3.heap.size) := lh (by obtain ⟨⟨a, b⟩, c, d⟩ := HLt.out; omega)
 clear HLt hob1 hob2 hz1 hzw hz3 HQ1 HQ2 HCheck
 cases hbit : (bitD 39 m).1 with
 | false =>
  have Hfin : Hid (coefD 8 m = (.ok (List.replicate 64 0), (bitD 39 m).2)) := lh (by unfold coefD; rw [show baseD 8 = 39 from rfl, hbit]; rfl)
  rw [hbit] at HB
  clear hbit Hm1
  refine wp_region_held_drew (S := (fun _ => True)) (by kernel_rfl) ?_ (fun hHeld => ?_)
  ·trivial
  refine tk 0 37 ?_
  refine tk 1 38 ?_
  refine tk 2 39 ?_
  refine tk 5 42 ?_
  refine tk 6 43 ?_
  refine tk 7 44 ?_
  refine rdy (rdc 3 40 (fun K hK => ?_) .nil)
  go_simp
  go_at_call 81; refine (HZero.out _ HQ3.out.drew).mono ?_; rintro e w5 ⟨rfl, hq5⟩; rw [zeros_nz]; have HQ5 := lh (HQ3.out.drew.q hq5); have HQ35 := lh ((Only.refl [] W3).drew.q hq5); clear hq5; simp only [Bool.not_false]
  refine hK.out _ _ ?_ (fun hHeld => ?_)
  ·trivial
  clear hK K
  try simp only [Act.put, List.setIfInBounds_toArray, List.set_cons_zero, List.set_cons_succ]
  refine tk 4 41 ?_
  refine rdy (rdc 8 45 (fun K hK => ?_) .nil)
  go_simp
  go_at_call 255; refine (HB.out _ HQ5.out _).mono ?_; rintro e w6 ⟨rfl, hk6, hq6⟩; have Hk6 := lh hk6; have HQ6 := lh hq6; clear hk6 hq6
  refine hK.out _ _ ?_ (fun hHeld => ?_)
  ·trivial
  clear hK K
  try simp only [Act.put, List.setIfInBounds_toArray, List.set_cons_zero, List.set_cons_succ]
  refine tk 9 46 ?_
  refine wpAnyH_done (by kernel_rfl) ?_ _
  go_wp2_with fail
  refine HPost.out _ _ ?_
  unfold CoefP
  rw [Hfin.out]
  obtain ⟨n1, n2, n3, n4, n5, n6, n7, n8⟩ := HNum.out
  refine ⟨(HQ5.out.mono (U := [R, D]) (by simp)).both HQ6.out, Hk6.out, _, rfl, ?_⟩
  exact (((HOut.out.quiet HQ35.out).only HQ6.out (fun x hx e => by simp [Value.ownBlock] at e; simp at hx; omega)).lower n7)
 | true =>
  have Hfin : Hid (coefD 8 m = coefGo 39 63 (orderD 8) 0 (List.replicate 64 0) (bitD 39 m).2) := lh (by
   have e1 : (8 * 8 - 1 : Nat) = 63 := rfl
   have e2 : (8 * 8 : Nat) = 64 := rfl
   unfold coefD
   rw [show baseD 8 = 39 from rfl, hbit, if_pos rfl, e1, e2])
  rw [hbit] at HB
  have hap2 := Hm1.out.pos
  clear hbit Hm1
  generalize (bitD 39 m).2 = m1 at *
  refine wp_region_held_drew (S := (fun _ => True)) (by kernel_rfl) ?_ (fun hHeld => ?_)
  ·trivial
  refine tk 0 37 ?_
  refine tk 1 38 ?_
  refine tk 2 39 ?_
  refine tk 5 42 ?_
  refine tk 6 43 ?_
  refine tk 7 44 ?_
  refine rdy (rdc 3 40 (fun K hK => ?_) .nil)
  go_simp
  go_at_call 81; refine (HZero.out _ HQ3.out.drew).mono ?_; rintro e w5 ⟨rfl, hq5⟩; rw [zeros_nz]; have HQ5 := lh (HQ3.out.drew.q hq5); have HQ35 := lh ((Only.refl [] W3).drew.q hq5); clear hq5; simp only [Bool.not_false]
  refine hK.out _ _ ?_ (fun hHeld => ?_)
  ·trivial
  clear hK K
  try simp only [Act.put, List.setIfInBounds_toArray, List.set_cons_zero, List.set_cons_succ]
  refine tk 4 41 ?_
  refine rdy (rdc 8 45 (fun K hK => ?_) .nil)
  go_simp
  go_at_call 255; refine (HB.out _ HQ5.out _).mono ?_; rintro e w6 ⟨rfl, hk6, hq6⟩; have Hk6 := lh hk6; have HQ6 := lh hq6; clear hk6 hq6
  refine hK.out _ _ ?_ (fun hHeld => ?_)
  ·trivial
  clear hK K
  try simp only [Act.put, List.setIfInBounds_toArray, List.set_cons_zero, List.set_cons_succ]
  refine tk 9 46 ?_
  refine wpAnyH_done (by kernel_rfl) ?_ _
  have HL6 : Hid (Ints .i64 lo' hi' w6 (.slice la 64 lcap) (List.replicate 64 (0 : Int))) := lh ((HL.out.quiet HQ5.out).only HQ6.out (fun x hx => by simp only [List.mem_cons, List.not_mem_nil, or_false] at hx; rcases hx with hx | hx <;> rw [hx]; exact hR; exact hD))
  have HOut6 := lh ((HOut.out.quiet HQ35.out).only HQ6.out (fun x hx e => by obtain ⟨n1, n2, n3, n4, n5, n6, n7, n8⟩ := HNum.out; simp [Value.ownBlock] at e; simp at hx; omega))
  have HOrd6 := lh ((HOrd3.out.quiet HQ35.out).only HQ6.out (fun x hx e => by obtain ⟨n1, n2, n3, n4, n5, n6, n7, n8⟩ := HNum.out; simp [Value.ownBlock] at e; simp at hx; omega))
  have HQW6 := lh ((HQ5.out.mono (U := [R, D]) (by simp)).both HQ6.out)
  have HZ6 := lh (Nat.le_trans HQ35.out.size HQ6.out.size)
  obtain ⟨la', lcap', hle, -, -, hlat6, hlcell6⟩ := HL6.out.open
  injection hle with hle1 hle2 hle3
  subst hle1
  rw [List.length_replicate] at hlat6 hlcell6
  have Hlat6 := lh hlat6
  have Hlcell6 := lh hlcell6
  clear hle2 hle3 hlat6 hlcell6 HL HOut HOrd3 HQ3 HQ5 HQ35 HQ6 HB HZero HL6 Hlat
  go_wp2_with fail
  go_loopw [12, 50] (fun lf i wr => ∃ k : Nat, k ≤ 64 ∧ i = .int .i64 k ∧ lf = .int .i64 0 ∧ w6 = wr) (fun _ i _ => 64 - (intOf i).toNat)
  case atStart => exact ⟨0, by omega, rfl, rfl, rfl⟩
  case round =>
   obtain ⟨k, hk, rfl, rfl, rfl⟩ := hrel
   by_cases hlt : k < 64
   ·have hki : (k : Int) < 64 := by omega
    have hk0 : (0 : Int) ≤ (k : Int) := by omega
    obtain ⟨lb, loff, rfl, _, _⟩ := Hlat6.out k hlt
    have c0 := Hlcell6.out lb loff rfl k hlt
    rw [zeros_at] at c0
    go_wp2_with fail
    exact ⟨⟨k + 1, by omega, by go_num, by first | rfl | trivial, by first | rfl | trivial⟩, by simp [intOf]; omega⟩
   ·obtain rfl : k = 64 := by omega
    have hki : ¬ ((64 : Nat) : Int) < 64 := by omega
    clear hlt hk
    go_wp2_with fail
    go_loopw [12, 61] (fun lf i wx => ∃ (k : Nat) (mc : Mod) (ol : List Int), k ≤ 64 ∧ i = .int .i64 k ∧ lf = .int .i64 0 ∧ Hid (ModAt lo hi R D bv wx mc) ∧ Hid (Own .i64 3 g wx (.slice (some ⟨g, 0, none⟩) 64 64) ol) ∧ Hid (ol.length = 64) ∧ Hid (coefGo 39 63 ((orderD 8).drop k) k ol mc = coefGo 39 63 (orderD 8) 0 (List.replicate 64 0) m1) ∧ mc.d.pos ≤ m1.d.pos + 90 * k ∧ Hid (Only [R, D, g] w6 wx)) (fun _ i _ => 64 - (intOf i).toNat)
    case atStart => exact ⟨0, m1, _, by omega, rfl, rfl, Hk6, HOut6, lh (by simp), lh rfl, by omega, lh (Only.refl _ _)⟩
    case round =>
     obtain ⟨k, mc, ol, hk, rfl, rfl, Hkc, HOc, Hlen, He, hpos, HQc⟩ := hrel
     by_cases hlt : k < 64
     ·have hki2 : (k : Int) < 64 := by omega
      have hk0 : (0 : Int) ≤ (k : Int) := by omega
      obtain ⟨a, ha, hdrop⟩ : ∃ a, (a < 64 ∧ (orderD 8).getD k 0 = a) ∧ (orderD 8).drop k = a :: (orderD 8).drop (k + 1) := by
       have hk' : k < (orderD 8).length := by rw [orderD_len8]; exact hlt
       refine ⟨(orderD 8)[k], ⟨orderD_lt8 _ (List.getElem_mem _), by simp [hk']⟩, List.drop_eq_getElem_cons hk'⟩
      obtain ⟨ha1, ha2⟩ := ha
      obtain ⟨lb, loff, rfl, hlb1, hlb2⟩ := Hlat6.out a ha1
      have cl6 := Hlcell6.out lb loff rfl a ha1
      rw [zeros_at] at cl6
      have co6 := HOrd6.out.cellS (by simp [natI, orderD_8]) (i := k) (by simp [natI, orderD_8]; omega)
      rw [natI_at, ha2] at co6
      have HNe : Hid (lb ∉ [R, D, g] ∧ ob ∉ [R, D, g] ∧ g ≠ R ∧ g ≠ D) := lh (by
       obtain ⟨n1, n2, n3, n4, n5, n6, n7, n8⟩ := HNum.out
       have := HW.out
       simp only [List.mem_cons, List.not_mem_nil, or_false]
       omega)
      have cl := HQc.out.cell cl6 HNe.out.1
      have co := HQc.out.cell co6 HNe.out.2.1
      have hai : (0 : Int) ≤ (a : Int) := by omega
      have hai2 : (a : Int) < 64 := by omega
      have Hdrop := lh hdrop
      have hgR : ∀ x ∈ [R, D], (Value.slice (some ⟨g, 0, none⟩) 64 64).ownBlock ≠ some x := fun x hx e => by
       have e' : g = x := by simpa [Value.ownBlock] using e
       have := HNe.out.2.2
       simp only [List.mem_cons, List.not_mem_nil, or_false] at hx
       omega
      have HgR := lh hgR
      have hgM : ∀ x ∈ [g], hi ≤ x ∧ x ≠ R ∧ x ≠ D := fun x hx => by
       rw [mSg] at hx
       obtain ⟨n1, n2, n3, n4, n5, n6, n7, n8⟩ := HNum.out
       have := HNe.out.2.2
       omega
      have HgM := lh hgM
      clear cl6 co6 hdrop ha2 hlb1 hlb2 hgR hgM
      have HLv := lh (fun (W : World) (mx : Mod) (hx : ModAt lo hi R D bv W mx) (hpx : mx.d.pos ≤ m1.d.pos + 90 * k + 2) => mlevel_any (base := 39) hx (by omega) (by omega))
      have HBt := lh (fun (W : World) (mx : Mod) (hx : ModAt lo hi R D bv W mx) (hpx : mx.d.pos ≤ m1.d.pos + 90 * k + 86) (c : Nat) (hc : c < 64) (y : Int) (hy : y = (c : Int)) (b : Bool) => (by subst hy; exact bit_any hx hc b (by omega) : Calls Tryz.prog 255 #[.pointer (some ⟨R, 0, none⟩), .int .i64 y, .bool b] W _))
      by_cases hkl : k < 63
      ·have hkli : (k : Int) < 63 := by omega
       have hadv := bitD_adv Hkc.out.ok (c := 39 + 1 + min k 7) (by omega)
       have hp7 : (bitD (39 + 1 + min k 7) mc).2.d.pos ≤ m1.d.pos + 90 * k + 2 := by have := hadv.pos; omega
       have Hok7 := lh hadv.ok
       have HB1 := lh (fun (y : Int) (hy : y = ((39 + 1 + min k 7 : Nat) : Int)) (b : Bool) => HBt.out wr mc Hkc.out (by omega) (39 + 1 + min k 7) (by omega) y hy b)
       clear hadv
       cases hb1 : (bitD (39 + 1 + min k 7) mc).1 with
       | false =>
        have Hgo := lh (coefGo_skip (base := 39) (a := a) (rest := (orderD 8).drop (k + 1)) (out := ol) hkl hb1)
        rw [hb1] at HB1
        clear hb1
        go_wp2_with fail
        all_goals
         go_at_call 255
         refine (HB1.out _ (by omega) _).mono ?_
         rintro e w7 ⟨rfl, hk7, hq7⟩
         have Hk7 := lh hk7
         have HO7 := lh (HOc.out.only hq7 HgR.out)
         have HQ7 := lh (HQc.out.three hq7)
         clear hk7 hq7
         go_wp2_with fail
         exact ⟨⟨k + 1, _, ol, by omega, by go_num, by first | rfl | trivial, Hk7, HO7, Hlen, lh (by rw [← Hgo.out, ← Hdrop.out]; exact He.out), by omega, HQ7⟩, by simp [intOf]; omega⟩
       | true =>
        have hadv8 := (levelD_adv (base := 39) (by omega) Hok7.out).1
        have hp8 : (levelD 39 (bitD (39 + 1 + min k 7) mc).2).2.d.pos ≤ m1.d.pos + 90 * k + 84 := by have := hadv8.pos; omega
        have Hok8 := lh hadv8.ok
        clear hadv8
        by_cases hv : (levelD 39 (bitD (39 + 1 + min k 7) mc).2).1 < -16320 ∨ 16320 < (levelD 39 (bitD (39 + 1 + min k 7) mc).2).1
        ·have Hend : Hid (coefD 8 m = (.error ⟨[(sCoef, (k : Int))], 3⟩, (levelD 39 (bitD (39 + 1 + min k 7) mc).2).2)) := lh (by rw [Hfin.out, ← He.out, Hdrop.out]; exact coefGo_bad hkl hb1 hv)
         rw [hb1] at HB1
         clear hb1
         generalize (bitD (39 + 1 + min k 7) mc).2 = m7 at *
         have HLv7 := lh (fun (W : World) (hx : ModAt lo hi R D bv W m7) => HLv.out W m7 hx hp7)
         generalize levelD 39 m7 = LV at *
         obtain ⟨x, m8⟩ := LV
         simp only at hv hp8 Hok8 Hend HLv7
         go_wp2_with fail
         all_goals
          go_at_call 255
          refine (HB1.out _ (by omega) _).mono ?_
          rintro e w7 ⟨rfl, hk7, hq7⟩
          have Hk7 := lh hk7
          have HO7 := lh (HOc.out.only hq7 HgR.out)
          have HQ7 := lh (HQc.out.three hq7)
          clear hk7 hq7
          rcases hv with hv | hv
          ·exact qDCoef80
          ·have hv1 : ¬ x < -16320 := by omega
           exact qDCoef80
        ·by_cases hdummy : True
         ·cases hb2 : (bitD (39 + 9 + min k 7) (levelD 39 (bitD (39 + 1 + min k 7) mc).2).2).1 with
          | true =>
           have Hend : Hid (coefD 8 m = (.ok (ol.set a (levelD 39 (bitD (39 + 1 + min k 7) mc).2).1), (bitD (39 + 9 + min k 7) (levelD 39 (bitD (39 + 1 + min k 7) mc).2).2).2)) := lh (by rw [Hfin.out, ← He.out, Hdrop.out]; exact coefGo_done hkl hb1 hv hb2)
           rw [hb1] at HB1
           have HB9 := lh (fun (W : World) (hx : ModAt lo hi R D bv W (levelD 39 (bitD (39 + 1 + min k 7) mc).2).2) (y : Int) (hy : y = ((39 + 9 + min k 7 : Nat) : Int)) (b : Bool) => HBt.out W _ hx (by omega) (39 + 9 + min k 7) (by omega) y hy b)
           rw [hb2] at HB9
           clear hb1 hb2
           generalize (bitD (39 + 1 + min k 7) mc).2 = m7 at *
           have HLv7 := lh (fun (W : World) (hx : ModAt lo hi R D bv W m7) => HLv.out W m7 hx hp7)
           generalize levelD 39 m7 = LV at *
           obtain ⟨x, m8⟩ := LV
           simp only at hv hp8 Hok8 Hend HLv7 HB9
           have hv1 : ¬ x < -16320 := by omega
           have hv2 : ¬ 16320 < x := by omega
           have hin : InK .i64 x := by simp only [InK]; omega
           go_wp2_with fail
           all_goals
            go_at_call 255
            refine (HB1.out _ (by omega) _).mono ?_
            rintro e w7 ⟨rfl, hk7, hq7⟩
            have Hk7 := lh hk7
            have HO7 := lh (HOc.out.only hq7 HgR.out)
            have HQ7 := lh (HQc.out.three hq7)
            clear hk7 hq7
            go_wp2_with fail
            go_at_call 193
            refine (HLv7.out _ Hk7.out).mono ?_
            rintro e w8 ⟨rfl, hk8, hq8⟩
            have ho8 := HO7.out.only hq8 HgR.out
            have cg := ho8.cellS Hlen.out.symm (i := a) (by have := Hlen.out; omega)
            have fg := ho8.frzS Hlen.out.symm a
            obtain ⟨hs1, hs2⟩ := ho8.storeS Hlen.out.symm hin a
            have HO8s := lh hs1
            have Hk8s := lh (hk8.only hs2 HgM.out)
            have HQ8s := lh ((HQ7.out.three hq8).third hs2)
            clear hk8 hq8 ho8 hs1 hs2
            go_wp2_with fail
            all_goals
             go_at_call 255
             refine (HB9.out _ Hk8s.out _ (by omega) _).mono ?_
             rintro e w10 ⟨rfl, hk10, hq10⟩
             have Hk10 := lh hk10
             have HO10 := lh (HO8s.out.only hq10 HgR.out)
             have HQ10 := lh (HQ8s.out.three hq10)
             clear hk10 hq10
             go_wp2_with fail
             refine HPost.out _ _ ?_
             unfold CoefP
             rw [Hend.out]
             obtain ⟨n1, n2, n3, n4, n5, n6, n7, n8⟩ := HNum.out
             exact ⟨HQW6.out.own3 HQ10.out n7, Hk10.out, _, rfl, HO10.out.lower n7⟩
          | false =>
           have Hgo := lh (coefGo_more (base := 39) (a := a) (rest := (orderD 8).drop (k + 1)) (out := ol) hkl hb1 hv hb2)
           have hpm := (bitD_adv Hok8.out (c := 39 + 9 + min k 7) (by omega)).pos
           rw [hb1] at HB1
           have HB9 := lh (fun (W : World) (hx : ModAt lo hi R D bv W (levelD 39 (bitD (39 + 1 + min k 7) mc).2).2) (y : Int) (hy : y = ((39 + 9 + min k 7 : Nat) : Int)) (b : Bool) => HBt.out W _ hx (by omega) (39 + 9 + min k 7) (by omega) y hy b)
           rw [hb2] at HB9
           clear hb1 hb2
           generalize (bitD (39 + 1 + min k 7) mc).2 = m7 at *
           have HLv7 := lh (fun (W : World) (hx : ModAt lo hi R D bv W m7) => HLv.out W m7 hx hp7)
           generalize levelD 39 m7 = LV at *
           obtain ⟨x, m8⟩ := LV
           simp only at hv hp8 Hok8 Hgo hpm HLv7 HB9
           have hv1 : ¬ x < -16320 := by omega
           have hv2 : ¬ 16320 < x := by omega
           have hin : InK .i64 x := by simp only [InK]; omega
           go_wp2_with fail
           all_goals
            go_at_call 255
            refine (HB1.out _ (by omega) _).mono ?_
            rintro e w7 ⟨rfl, hk7, hq7⟩
            have Hk7 := lh hk7
            have HO7 := lh (HOc.out.only hq7 HgR.out)
            have HQ7 := lh (HQc.out.three hq7)
            clear hk7 hq7
            go_wp2_with fail
            go_at_call 193
            refine (HLv7.out _ Hk7.out).mono ?_
            rintro e w8 ⟨rfl, hk8, hq8⟩
            have ho8 := HO7.out.only hq8 HgR.out
            have cg := ho8.cellS Hlen.out.symm (i := a) (by have := Hlen.out; omega)
            have fg := ho8.frzS Hlen.out.symm a
            obtain ⟨hs1, hs2⟩ := ho8.storeS Hlen.out.symm hin a
            have HO8s := lh hs1
            have Hk8s := lh (hk8.only hs2 HgM.out)
            have HQ8s := lh ((HQ7.out.three hq8).third hs2)
            clear hk8 hq8 ho8 hs1 hs2
            go_wp2_with fail
            all_goals
             go_at_call 255
             refine (HB9.out _ Hk8s.out _ (by omega) _).mono ?_
             rintro e w10 ⟨rfl, hk10, hq10⟩
             have Hk10 := lh hk10
             have HO10 := lh (HO8s.out.only hq10 HgR.out)
             have HQ10 := lh (HQ8s.out.three hq10)
             clear hk10 hq10
             go_wp2_with fail
             exact ⟨⟨k + 1, _, ol.set a x, by omega, by go_num, by first | rfl | trivial, Hk10, HO10, lh (by rw [List.length_set]; exact Hlen.out), lh (by rw [← Hgo.out, ← Hdrop.out]; exact He.out), by omega, HQ10⟩, by simp [intOf]; omega⟩
         ·exact absurd trivial hdummy
      ·have hkli : ¬ (k : Int) < 63 := by omega
       have hadv8 := (levelD_adv (base := 39) (by omega) Hkc.out.ok).1
       have hp8 : (levelD 39 mc).2.d.pos ≤ m1.d.pos + 90 * k + 82 := by have := hadv8.pos; omega
       clear hadv8
       have HLv7 := lh (fun (W : World) (hx : ModAt lo hi R D bv W mc) => HLv.out W mc hx (by omega))
       by_cases hv : (levelD 39 mc).1 < -16320 ∨ 16320 < (levelD 39 mc).1
       ·have Hend : Hid (coefD 8 m = (.error ⟨[(sCoef, (k : Int))], 3⟩, (levelD 39 mc).2)) := lh (by rw [Hfin.out, ← He.out, Hdrop.out]; exact coefGo_bad' hkl hv)
        generalize levelD 39 mc = LV at *
        obtain ⟨x, m8⟩ := LV
        simp only at hv hp8 Hend HLv7
        have Hk7 := Hkc
        have HO7 := HOc
        have HQ7 := HQc
        rcases hv with hv | hv
        ·exact qDCoef80
        ·have hv1 : ¬ x < -16320 := by omega
         exact qDCoef80
       ·have Hgo := lh (coefGo_more' (base := 39) (a := a) (rest := (orderD 8).drop (k + 1)) (out := ol) hkl hv)
        generalize levelD 39 mc = LV at *
        obtain ⟨x, m8⟩ := LV
        simp only at hv hp8 Hgo HLv7
        have hv1 : ¬ x < -16320 := by omega
        have hv2 : ¬ 16320 < x := by omega
        have hin : InK .i64 x := by simp only [InK]; omega
        have Hk7 := Hkc
        have HO7 := HOc
        have HQ7 := HQc
        go_wp2_with fail
        go_at_call 193
        refine (HLv7.out _ Hk7.out).mono ?_
        rintro e w8 ⟨rfl, hk8, hq8⟩
        have ho8 := HO7.out.only hq8 HgR.out
        have cg := ho8.cellS Hlen.out.symm (i := a) (by have := Hlen.out; omega)
        have fg := ho8.frzS Hlen.out.symm a
        obtain ⟨hs1, hs2⟩ := ho8.storeS Hlen.out.symm hin a
        have HO8s := lh hs1
        have Hk8s := lh (hk8.only hs2 HgM.out)
        have HQ8s := lh ((HQ7.out.three hq8).third hs2)
        clear hk8 hq8 ho8 hs1 hs2
        go_wp2_with fail
        exact ⟨⟨k + 1, _, ol.set a x, by omega, by go_num, by first | rfl | trivial, Hk8s, HO8s, lh (by rw [List.length_set]; exact Hlen.out), lh (by rw [← Hgo.out, ← Hdrop.out]; exact He.out), by omega, HQ8s⟩, by simp [intOf]; omega⟩
     ·obtain rfl : k = 64 := by omega
      have hki2 : ¬ ((64 : Nat) : Int) < 64 := by omega
      have Hend : Hid (coefD 8 m = (.ok ol, mc)) := lh (by rw [Hfin.out, ← He.out, List.drop_eq_nil_of_le (by rw [orderD_len8]; omega)]; rfl)
      go_wp2_with fail
      refine HPost.out _ _ ?_
      unfold CoefP
      rw [Hend.out]
      obtain ⟨n1, n2, n3, n4, n5, n6, n7, n8⟩ := HNum.out
      exact ⟨HQW6.out.own3 HQc.out n7, Hkc.out, _, rfl, HOc.out.lower n7⟩
theorem qDCoef40 {p : Prop} (h : p := by
 go_wp2_with fail
 go_at_call 193
 refine (HLv7.out _ Hk7.out).mono ?_
 rintro e w8 ⟨rfl, hk8, hq8⟩
 have Hk8 := lh hk8
 have HQ8 := lh (HQ7.out.three hq8)
 clear hk8 hq8
 go_wp2_with fail
 go_at_call 75
 refine (in_any _ _ (ErrV.code w8.heap.size w8.heap.size w8 3) (Nat.le_refl _) (Nat.le_refl _)).mono ?_
 rintro e w9 ⟨ev, rfl, hev, hq9⟩
 have Hev := lh hev
 have Hq9 := lh hq9
 clear hev hq9
 go_wp2_with fail
 refine HPost.out _ _ ?_
 unfold CoefP
 rw [Hend.out]
 obtain ⟨n1, n2, n3, n4, n5, n6, n7, n8⟩ := HNum.out
 have hA := HQW6.out.own3 HQ8.out n7
 exact ⟨hA.trans Hq9.out (fun g h _ => h) (by simp), Hk8.out.quiet Hq9.out, ev, rfl, Hev.out.mono hA.size (Nat.le_refl _)⟩) : p := h
theorem code4_any {lo hi R D lo' hi' : Nat} {bv lv : Value} {w : World} {m : Mod} (h : ModAt lo hi R D bv w m) (hl : Ints .i64 lo' hi' w lv (List.replicate 16 0)) (hR : R < lo' ∨ hi' ≤ R) (hD : D < lo' ∨ hi' ≤ D) (hw : hi' ≤ w.heap.size) (hp : m.d.pos ≤ 700000000) :
  Calls Tryz.prog 145 #[cv R, lv] w (CoefP lo hi R D bv w (coefD 4 m)) := by
 refine hidQ fun Q HPost => ?_
 have mb := mBit R
 have nb := nBit R
 have HCheck := lh (coefCheck_any hl (by simp))
 have hcn : checkL (List.replicate 16 (0 : Int)) = none := by unfold checkL; rw [if_neg (by simp), zeros_lev]; rfl
 rw [hcn] at HCheck
 have HL := lh hl
 have HZero := lh (fun (W : World) (o : Only [] w W) => zero_any (hl.quiet o) (by simp))
 obtain ⟨la, lcap, hlv, -, -, hlat, -⟩ := hl.open
 rw [List.length_replicate] at hlv hlat
 subst hlv
 have Hlat := lh hlat
 have HK := lh h
 have hap := (bitD_adv h.ok (c := 14) (by omega)).pos
 have HB := lh (fun (W : World) (o : Only [] w W) (b : Bool) => bit_any (h.quiet o) (c := 14) (by omega) b (by omega))
 have HLt := lh (And.intro h.lt (And.intro h.hR h.dec.hD))
 have HW := lh hw
 clear h hl hcn hlat hw
 go_enter Tryz.func145, Tryz.ntmps145
 go_wp2_with fail
 go_at_call 190
 refine HCheck.out.mono ?_
 rintro e w1 ⟨⟨u, rfl, hu⟩, hq1⟩
 have hu' : u = .nilIface := hu
 subst hu'
 have HQ1 := lh hq1
 clear hq1 hu
 go_wp2_with fail
 go_at_call 191
 refine (base_any4 _).mono ?_
 rintro e w2 ⟨rfl, rfl⟩
 go_wp2_with fail
 go_at_call 192
 refine (order4_any _).mono ?_
 rintro e w2 ⟨ov, rfl, hord, hq2⟩
 have hol : (natI (orderD 4)).length = 16 := by simp [natI, orderD_4]
 obtain ⟨ob, ocap, hov, hob1, hob2⟩ := hord.form (by omega)
 rw [hol] at hov
 subst hov
 have HOrd := lh hord
 have HQ2 := lh (HQ1.out.q hq2)
 have hz1 := HQ1.out.size
 clear hord hq2 hol
 have hmk : ∀ W : World, (Instr.makeSlice 22 (.int .i64 16) (.int .i64 16)).run Tryz.prog W = .ok (.slice (some ⟨W.heap.size, 0, none⟩) 16 16) (W.alloc (.cells (madeCells #[.int .i64 0] 16) 3)) := fun W => run_make_row' (P := Tryz.prog) 22 3 (.int .i64 0) 8 EI.ut (by kernel_rfl) rfl .i64 .i64 16 (by omega) (by omega) W
 go_wp2_with fail
 clear hmk
 have hqn := Only.new w2 (.cells (madeCells #[.int .i64 0] 16) 3)
 have hout := own_made .i64 3 w2 16 (by simp [maxLen])
 have HOut := lh hout
 have HQ3 := lh (HQ2.out.q hqn)
 have HOrd3 := lh (HOrd.out.quiet hqn)
 have hzw := HQ2.out.size
 have hz3 : w2.heap.size < (w2.alloc (.cells (madeCells #[.int .i64 0] 16) 3)).heap.size := by simp
 clear hqn hout HOrd
 generalize World.alloc w2 _ = W3 at *
 generalize w2.heap.size = g at *
 have Hm1 := lh (bitD_adv HK.out.ok (c := 14) (by omega))
 have HNum : Hid (R < w.heap.size ∧ D < w.heap.size ∧ hi ≤ R ∧ hi ≤ D ∧ w.heap.size ≤ ob ∧ ob < g ∧ w.heap.size ≤ g ∧ g < W3.heap.size) := lh (by obtain ⟨⟨a, b⟩, c, d⟩ := HLt.out; omega)
 clear HLt hob1 hob2 hz1 hzw hz3 HQ1 HQ2 HCheck
 cases hbit : (bitD 14 m).1 with
 | false =>
  have Hfin : Hid (coefD 4 m = (.ok (List.replicate 16 0), (bitD 14 m).2)) := lh (by unfold coefD; rw [show baseD 4 = 14 from rfl, hbit]; rfl)
  rw [hbit] at HB
  clear hbit Hm1
  refine wp_region_held_drew (S := (fun _ => True)) (by kernel_rfl) ?_ (fun hHeld => ?_)
  ·trivial
  refine tk 0 37 ?_
  refine tk 1 38 ?_
  refine tk 2 39 ?_
  refine tk 5 42 ?_
  refine tk 6 43 ?_
  refine tk 7 44 ?_
  refine rdy (rdc 3 40 (fun K hK => ?_) .nil)
  go_simp
  go_at_call 81; refine (HZero.out _ HQ3.out.drew).mono ?_; rintro e w5 ⟨rfl, hq5⟩; rw [zeros_nz]; have HQ5 := lh (HQ3.out.drew.q hq5); have HQ35 := lh ((Only.refl [] W3).drew.q hq5); clear hq5; simp only [Bool.not_false]
  refine hK.out _ _ ?_ (fun hHeld => ?_)
  ·trivial
  clear hK K
  try simp only [Act.put, List.setIfInBounds_toArray, List.set_cons_zero, List.set_cons_succ]
  refine tk 4 41 ?_
  refine rdy (rdc 8 45 (fun K hK => ?_) .nil)
  go_simp
  go_at_call 255; refine (HB.out _ HQ5.out _).mono ?_; rintro e w6 ⟨rfl, hk6, hq6⟩; have Hk6 := lh hk6; have HQ6 := lh hq6; clear hk6 hq6
  refine hK.out _ _ ?_ (fun hHeld => ?_)
  ·trivial
  clear hK K
  try simp only [Act.put, List.setIfInBounds_toArray, List.set_cons_zero, List.set_cons_succ]
  refine tk 9 46 ?_
  refine wpAnyH_done (by kernel_rfl) ?_ _
  go_wp2_with fail
  refine HPost.out _ _ ?_
  unfold CoefP
  rw [Hfin.out]
  obtain ⟨n1, n2, n3, n4, n5, n6, n7, n8⟩ := HNum.out
  refine ⟨(HQ5.out.mono (U := [R, D]) (by simp)).both HQ6.out, Hk6.out, _, rfl, ?_⟩
  exact (((HOut.out.quiet HQ35.out).only HQ6.out (fun x hx e => by simp [Value.ownBlock] at e; simp at hx; omega)).lower n7)
 | true =>
  have Hfin : Hid (coefD 4 m = coefGo 14 15 (orderD 4) 0 (List.replicate 16 0) (bitD 14 m).2) := lh (by
   have e1 : (4 * 4 - 1 : Nat) = 15 := rfl
   have e2 : (4 * 4 : Nat) = 16 := rfl
   unfold coefD
   rw [show baseD 4 = 14 from rfl, hbit, if_pos rfl, e1, e2])
  rw [hbit] at HB
  have hap2 := Hm1.out.pos
  clear hbit Hm1
  generalize (bitD 14 m).2 = m1 at *
  refine wp_region_held_drew (S := (fun _ => True)) (by kernel_rfl) ?_ (fun hHeld => ?_)
  ·trivial
  refine tk 0 37 ?_
  refine tk 1 38 ?_
  refine tk 2 39 ?_
  refine tk 5 42 ?_
  refine tk 6 43 ?_
  refine tk 7 44 ?_
  refine rdy (rdc 3 40 (fun K hK => ?_) .nil)
  go_simp
  go_at_call 81; refine (HZero.out _ HQ3.out.drew).mono ?_; rintro e w5 ⟨rfl, hq5⟩; rw [zeros_nz]; have HQ5 := lh (HQ3.out.drew.q hq5); have HQ35 := lh ((Only.refl [] W3).drew.q hq5); clear hq5; simp only [Bool.not_false]
  refine hK.out _ _ ?_ (fun hHeld => ?_)
  ·trivial
  clear hK K
  try simp only [Act.put, List.setIfInBounds_toArray, List.set_cons_zero, List.set_cons_succ]
  refine tk 4 41 ?_
  refine rdy (rdc 8 45 (fun K hK => ?_) .nil)
  go_simp
  go_at_call 255; refine (HB.out _ HQ5.out _).mono ?_; rintro e w6 ⟨rfl, hk6, hq6⟩; have Hk6 := lh hk6; have HQ6 := lh hq6; clear hk6 hq6
  refine hK.out _ _ ?_ (fun hHeld => ?_)
  ·trivial
  clear hK K
  try simp only [Act.put, List.setIfInBounds_toArray, List.set_cons_zero, List.set_cons_succ]
  refine tk 9 46 ?_
  refine wpAnyH_done (by kernel_rfl) ?_ _
  have HL6 : Hid (Ints .i64 lo' hi' w6 (.slice la 16 lcap) (List.replicate 16 (0 : Int))) := lh ((HL.out.quiet HQ5.out).only HQ6.out (fun x hx => by simp only [List.mem_cons, List.not_mem_nil, or_false] at hx; rcases hx with hx | hx <;> rw [hx]; exact hR; exact hD))
  have HOut6 := lh ((HOut.out.quiet HQ35.out).only HQ6.out (fun x hx e => by obtain ⟨n1, n2, n3, n4, n5, n6, n7, n8⟩ := HNum.out; simp [Value.ownBlock] at e; simp at hx; omega))
  have HOrd6 := lh ((HOrd3.out.quiet HQ35.out).only HQ6.out (fun x hx e => by obtain ⟨n1, n2, n3, n4, n5, n6, n7, n8⟩ := HNum.out; simp [Value.ownBlock] at e; simp at hx; omega))
  have HQW6 := lh ((HQ5.out.mono (U := [R, D]) (by simp)).both HQ6.out)
  have HZ6 := lh (Nat.le_trans HQ35.out.size HQ6.out.size)
  obtain ⟨la', lcap', hle, -, -, hlat6, hlcell6⟩ := HL6.out.open
  injection hle with hle1 hle2 hle3
  subst hle1
  rw [List.length_replicate] at hlat6 hlcell6
  have Hlat6 := lh hlat6
  have Hlcell6 := lh hlcell6
  clear hle2 hle3 hlat6 hlcell6 HL HOut HOrd3 HQ3 HQ5 HQ35 HQ6 HB HZero HL6 Hlat
  go_wp2_with fail
  go_loopw [12, 50] (fun lf i wr => ∃ k : Nat, k ≤ 16 ∧ i = .int .i64 k ∧ lf = .int .i64 0 ∧ w6 = wr) (fun _ i _ => 16 - (intOf i).toNat)
  case atStart => exact ⟨0, by omega, rfl, rfl, rfl⟩
  case round =>
   obtain ⟨k, hk, rfl, rfl, rfl⟩ := hrel
   by_cases hlt : k < 16
   ·have hki : (k : Int) < 16 := by omega
    have hk0 : (0 : Int) ≤ (k : Int) := by omega
    obtain ⟨lb, loff, rfl, _, _⟩ := Hlat6.out k hlt
    have c0 := Hlcell6.out lb loff rfl k hlt
    rw [zeros_at] at c0
    go_wp2_with fail
    exact ⟨⟨k + 1, by omega, by go_num, by first | rfl | trivial, by first | rfl | trivial⟩, by simp [intOf]; omega⟩
   ·obtain rfl : k = 16 := by omega
    have hki : ¬ ((16 : Nat) : Int) < 16 := by omega
    clear hlt hk
    go_wp2_with fail
    go_loopw [12, 61] (fun lf i wx => ∃ (k : Nat) (mc : Mod) (ol : List Int), k ≤ 16 ∧ i = .int .i64 k ∧ lf = .int .i64 0 ∧ Hid (ModAt lo hi R D bv wx mc) ∧ Hid (Own .i64 3 g wx (.slice (some ⟨g, 0, none⟩) 16 16) ol) ∧ Hid (ol.length = 16) ∧ Hid (coefGo 14 15 ((orderD 4).drop k) k ol mc = coefGo 14 15 (orderD 4) 0 (List.replicate 16 0) m1) ∧ mc.d.pos ≤ m1.d.pos + 90 * k ∧ Hid (Only [R, D, g] w6 wx)) (fun _ i _ => 16 - (intOf i).toNat)
    case atStart => exact ⟨0, m1, _, by omega, rfl, rfl, Hk6, HOut6, lh (by simp), lh rfl, by omega, lh (Only.refl _ _)⟩
    case round =>
     obtain ⟨k, mc, ol, hk, rfl, rfl, Hkc, HOc, Hlen, He, hpos, HQc⟩ := hrel
     by_cases hlt : k < 16
     ·have hki2 : (k : Int) < 16 := by omega
      have hk0 : (0 : Int) ≤ (k : Int) := by omega
      obtain ⟨a, ha, hdrop⟩ : ∃ a, (a < 16 ∧ (orderD 4).getD k 0 = a) ∧ (orderD 4).drop k = a :: (orderD 4).drop (k + 1) := by
       have hk' : k < (orderD 4).length := by rw [orderD_len4]; exact hlt
       refine ⟨(orderD 4)[k], ⟨orderD_lt4 _ (List.getElem_mem _), by simp [hk']⟩, List.drop_eq_getElem_cons hk'⟩
      obtain ⟨ha1, ha2⟩ := ha
      obtain ⟨lb, loff, rfl, hlb1, hlb2⟩ := Hlat6.out a ha1
      have cl6 := Hlcell6.out lb loff rfl a ha1
      rw [zeros_at] at cl6
      have co6 := HOrd6.out.cellS (by simp [natI, orderD_4]) (i := k) (by simp [natI, orderD_4]; omega)
      rw [natI_at, ha2] at co6
      have HNe : Hid (lb ∉ [R, D, g] ∧ ob ∉ [R, D, g] ∧ g ≠ R ∧ g ≠ D) := lh (by
       obtain ⟨n1, n2, n3, n4, n5, n6, n7, n8⟩ := HNum.out
       have := HW.out
       simp only [List.mem_cons, List.not_mem_nil, or_false]
       omega)
      have cl := HQc.out.cell cl6 HNe.out.1
      have co := HQc.out.cell co6 HNe.out.2.1
      have hai : (0 : Int) ≤ (a : Int) := by omega
      have hai2 : (a : Int) < 16 := by omega
      have Hdrop := lh hdrop
      have hgR : ∀ x ∈ [R, D], (Value.slice (some ⟨g, 0, none⟩) 16 16).ownBlock ≠ some x := fun x hx e => by
       have e' : g = x := by simpa [Value.ownBlock] using e
       have := HNe.out.2.2
       simp only [List.mem_cons, List.not_mem_nil, or_false] at hx
       omega
      have HgR := lh hgR
      have hgM : ∀ x ∈ [g], hi ≤ x ∧ x ≠ R ∧ x ≠ D := fun x hx => by
       rw [mSg] at hx
       obtain ⟨n1, n2, n3, n4, n5, n6, n7, n8⟩ := HNum.out
       have := HNe.out.2.2
       omega
      have HgM := lh hgM
      clear cl6 co6 hdrop ha2 hlb1 hlb2 hgR hgM
      have HLv := lh (fun (W : World) (mx : Mod) (hx : ModAt lo hi R D bv W mx) (hpx : mx.d.pos ≤ m1.d.pos + 90 * k + 2) => mlevel_any (base := 14) hx (by omega) (by omega))
      have HBt := lh (fun (W : World) (mx : Mod) (hx : ModAt lo hi R D bv W mx) (hpx : mx.d.pos ≤ m1.d.pos + 90 * k + 86) (c : Nat) (hc : c < 64) (y : Int) (hy : y = (c : Int)) (b : Bool) => (by subst hy; exact bit_any hx hc b (by omega) : Calls Tryz.prog 255 #[.pointer (some ⟨R, 0, none⟩), .int .i64 y, .bool b] W _))
      by_cases hkl : k < 15
      ·have hkli : (k : Int) < 15 := by omega
       have hadv := bitD_adv Hkc.out.ok (c := 14 + 1 + min k 7) (by omega)
       have hp7 : (bitD (14 + 1 + min k 7) mc).2.d.pos ≤ m1.d.pos + 90 * k + 2 := by have := hadv.pos; omega
       have Hok7 := lh hadv.ok
       have HB1 := lh (fun (y : Int) (hy : y = ((14 + 1 + min k 7 : Nat) : Int)) (b : Bool) => HBt.out wr mc Hkc.out (by omega) (14 + 1 + min k 7) (by omega) y hy b)
       clear hadv
       cases hb1 : (bitD (14 + 1 + min k 7) mc).1 with
       | false =>
        have Hgo := lh (coefGo_skip (base := 14) (a := a) (rest := (orderD 4).drop (k + 1)) (out := ol) hkl hb1)
        rw [hb1] at HB1
        clear hb1
        go_wp2_with fail
        all_goals
         go_at_call 255
         refine (HB1.out _ (by omega) _).mono ?_
         rintro e w7 ⟨rfl, hk7, hq7⟩
         have Hk7 := lh hk7
         have HO7 := lh (HOc.out.only hq7 HgR.out)
         have HQ7 := lh (HQc.out.three hq7)
         clear hk7 hq7
         go_wp2_with fail
         exact ⟨⟨k + 1, _, ol, by omega, by go_num, by first | rfl | trivial, Hk7, HO7, Hlen, lh (by rw [← Hgo.out, ← Hdrop.out]; exact He.out), by omega, HQ7⟩, by simp [intOf]; omega⟩
       | true =>
        have hadv8 := (levelD_adv (base := 14) (by omega) Hok7.out).1
        have hp8 : (levelD 14 (bitD (14 + 1 + min k 7) mc).2).2.d.pos ≤ m1.d.pos + 90 * k + 84 := by have := hadv8.pos; omega
        have Hok8 := lh hadv8.ok
        clear hadv8
        by_cases hv : (levelD 14 (bitD (14 + 1 + min k 7) mc).2).1 < -16320 ∨ 16320 < (levelD 14 (bitD (14 + 1 + min k 7) mc).2).1
        ·have Hend : Hid (coefD 4 m = (.error ⟨[(sCoef, (k : Int))], 3⟩, (levelD 14 (bitD (14 + 1 + min k 7) mc).2).2)) := lh (by rw [Hfin.out, ← He.out, Hdrop.out]; exact coefGo_bad hkl hb1 hv)
         rw [hb1] at HB1
         clear hb1
         generalize (bitD (14 + 1 + min k 7) mc).2 = m7 at *
         have HLv7 := lh (fun (W : World) (hx : ModAt lo hi R D bv W m7) => HLv.out W m7 hx hp7)
         generalize levelD 14 m7 = LV at *
         obtain ⟨x, m8⟩ := LV
         simp only at hv hp8 Hok8 Hend HLv7
         go_wp2_with fail
         all_goals
          go_at_call 255
          refine (HB1.out _ (by omega) _).mono ?_
          rintro e w7 ⟨rfl, hk7, hq7⟩
          have Hk7 := lh hk7
          have HO7 := lh (HOc.out.only hq7 HgR.out)
          have HQ7 := lh (HQc.out.three hq7)
          clear hk7 hq7
          rcases hv with hv | hv
          ·exact qDCoef40
          ·have hv1 : ¬ x < -16320 := by omega
           exact qDCoef40
        ·by_cases hdummy : True
         ·cases hb2 : (bitD (14 + 9 + min k 7) (levelD 14 (bitD (14 + 1 + min k 7) mc).2).2).1 with
          | true =>
           have Hend : Hid (coefD 4 m = (.ok (ol.set a (levelD 14 (bitD (14 + 1 + min k 7) mc).2).1), (bitD (14 + 9 + min k 7) (levelD 14 (bitD (14 + 1 + min k 7) mc).2).2).2)) := lh (by rw [Hfin.out, ← He.out, Hdrop.out]; exact coefGo_done hkl hb1 hv hb2)
           rw [hb1] at HB1
           have HB9 := lh (fun (W : World) (hx : ModAt lo hi R D bv W (levelD 14 (bitD (14 + 1 + min k 7) mc).2).2) (y : Int) (hy : y = ((14 + 9 + min k 7 : Nat) : Int)) (b : Bool) => HBt.out W _ hx (by omega) (14 + 9 + min k 7) (by omega) y hy b)
           rw [hb2] at HB9
           clear hb1 hb2
           generalize (bitD (14 + 1 + min k 7) mc).2 = m7 at *
           have HLv7 := lh (fun (W : World) (hx : ModAt lo hi R D bv W m7) => HLv.out W m7 hx hp7)
           generalize levelD 14 m7 = LV at *
           obtain ⟨x, m8⟩ := LV
           simp only at hv hp8 Hok8 Hend HLv7 HB9
           have hv1 : ¬ x < -16320 := by omega
           have hv2 : ¬ 16320 < x := by omega
           have hin : InK .i64 x := by simp only [InK]; omega
           go_wp2_with fail
           all_goals
            go_at_call 255
            refine (HB1.out _ (by omega) _).mono ?_
            rintro e w7 ⟨rfl, hk7, hq7⟩
            have Hk7 := lh hk7
            have HO7 := lh (HOc.out.only hq7 HgR.out)
            have HQ7 := lh (HQc.out.three hq7)
            clear hk7 hq7
            go_wp2_with fail
            go_at_call 193
            refine (HLv7.out _ Hk7.out).mono ?_
            rintro e w8 ⟨rfl, hk8, hq8⟩
            have ho8 := HO7.out.only hq8 HgR.out
            have cg := ho8.cellS Hlen.out.symm (i := a) (by have := Hlen.out; omega)
            have fg := ho8.frzS Hlen.out.symm a
            obtain ⟨hs1, hs2⟩ := ho8.storeS Hlen.out.symm hin a
            have HO8s := lh hs1
            have Hk8s := lh (hk8.only hs2 HgM.out)
            have HQ8s := lh ((HQ7.out.three hq8).third hs2)
            clear hk8 hq8 ho8 hs1 hs2
            go_wp2_with fail
            all_goals
             go_at_call 255
             refine (HB9.out _ Hk8s.out _ (by omega) _).mono ?_
             rintro e w10 ⟨rfl, hk10, hq10⟩
             have Hk10 := lh hk10
             have HO10 := lh (HO8s.out.only hq10 HgR.out)
             have HQ10 := lh (HQ8s.out.three hq10)
             clear hk10 hq10
             go_wp2_with fail
             refine HPost.out _ _ ?_
             unfold CoefP
             rw [Hend.out]
             obtain ⟨n1, n2, n3, n4, n5, n6, n7, n8⟩ := HNum.out
             exact ⟨HQW6.out.own3 HQ10.out n7, Hk10.out, _, rfl, HO10.out.lower n7⟩
          | false =>
           have Hgo := lh (coefGo_more (base := 14) (a := a) (rest := (orderD 4).drop (k + 1)) (out := ol) hkl hb1 hv hb2)
           have hpm := (bitD_adv Hok8.out (c := 14 + 9 + min k 7) (by omega)).pos
           rw [hb1] at HB1
           have HB9 := lh (fun (W : World) (hx : ModAt lo hi R D bv W (levelD 14 (bitD (14 + 1 + min k 7) mc).2).2) (y : Int) (hy : y = ((14 + 9 + min k 7 : Nat) : Int)) (b : Bool) => HBt.out W _ hx (by omega) (14 + 9 + min k 7) (by omega) y hy b)
           rw [hb2] at HB9
           clear hb1 hb2
           generalize (bitD (14 + 1 + min k 7) mc).2 = m7 at *
           have HLv7 := lh (fun (W : World) (hx : ModAt lo hi R D bv W m7) => HLv.out W m7 hx hp7)
           generalize levelD 14 m7 = LV at *
           obtain ⟨x, m8⟩ := LV
           simp only at hv hp8 Hok8 Hgo hpm HLv7 HB9
           have hv1 : ¬ x < -16320 := by omega
           have hv2 : ¬ 16320 < x := by omega
           have hin : InK .i64 x := by simp only [InK]; omega
           go_wp2_with fail
           all_goals
            go_at_call 255
            refine (HB1.out _ (by omega) _).mono ?_
            rintro e w7 ⟨rfl, hk7, hq7⟩
            have Hk7 := lh hk7
            have HO7 := lh (HOc.out.only hq7 HgR.out)
            have HQ7 := lh (HQc.out.three hq7)
            clear hk7 hq7
            go_wp2_with fail
            go_at_call 193
            refine (HLv7.out _ Hk7.out).mono ?_
            rintro e w8 ⟨rfl, hk8, hq8⟩
            have ho8 := HO7.out.only hq8 HgR.out
            have cg := ho8.cellS Hlen.out.symm (i := a) (by have := Hlen.out; omega)
            have fg := ho8.frzS Hlen.out.symm a
            obtain ⟨hs1, hs2⟩ := ho8.storeS Hlen.out.symm hin a
            have HO8s := lh hs1
            have Hk8s := lh (hk8.only hs2 HgM.out)
            have HQ8s := lh ((HQ7.out.three hq8).third hs2)
            clear hk8 hq8 ho8 hs1 hs2
            go_wp2_with fail
            all_goals
             go_at_call 255
             refine (HB9.out _ Hk8s.out _ (by omega) _).mono ?_
             rintro e w10 ⟨rfl, hk10, hq10⟩
             have Hk10 := lh hk10
             have HO10 := lh (HO8s.out.only hq10 HgR.out)
             have HQ10 := lh (HQ8s.out.three hq10)
             clear hk10 hq10
             go_wp2_with fail
             exact ⟨⟨k + 1, _, ol.set a x, by omega, by go_num, by first | rfl | trivial, Hk10, HO10, lh (by rw [List.length_set]; exact Hlen.out), lh (by rw [← Hgo.out, ← Hdrop.out]; exact He.out), by omega, HQ10⟩, by simp [intOf]; omega⟩
         ·exact absurd trivial hdummy
      ·have hkli : ¬ (k : Int) < 15 := by omega
       have hadv8 := (levelD_adv (base := 14) (by omega) Hkc.out.ok).1
       have hp8 : (levelD 14 mc).2.d.pos ≤ m1.d.pos + 90 * k + 82 := by have := hadv8.pos; omega
       clear hadv8
       have HLv7 := lh (fun (W : World) (hx : ModAt lo hi R D bv W mc) => HLv.out W mc hx (by omega))
       by_cases hv : (levelD 14 mc).1 < -16320 ∨ 16320 < (levelD 14 mc).1
       ·have Hend : Hid (coefD 4 m = (.error ⟨[(sCoef, (k : Int))], 3⟩, (levelD 14 mc).2)) := lh (by rw [Hfin.out, ← He.out, Hdrop.out]; exact coefGo_bad' hkl hv)
        generalize levelD 14 mc = LV at *
        obtain ⟨x, m8⟩ := LV
        simp only at hv hp8 Hend HLv7
        have Hk7 := Hkc
        have HO7 := HOc
        have HQ7 := HQc
        rcases hv with hv | hv
        ·exact qDCoef40
        ·have hv1 : ¬ x < -16320 := by omega
         exact qDCoef40
       ·have Hgo := lh (coefGo_more' (base := 14) (a := a) (rest := (orderD 4).drop (k + 1)) (out := ol) hkl hv)
        generalize levelD 14 mc = LV at *
        obtain ⟨x, m8⟩ := LV
        simp only at hv hp8 Hgo HLv7
        have hv1 : ¬ x < -16320 := by omega
        have hv2 : ¬ 16320 < x := by omega
        have hin : InK .i64 x := by simp only [InK]; omega
        have Hk7 := Hkc
        have HO7 := HOc
        have HQ7 := HQc
        go_wp2_with fail
        go_at_call 193
        refine (HLv7.out _ Hk7.out).mono ?_
        rintro e w8 ⟨rfl, hk8, hq8⟩
        have ho8 := HO7.out.only hq8 HgR.out
        have cg := ho8.cellS Hlen.out.symm (i := a) (by have := Hlen.out; omega)
        have fg := ho8.frzS Hlen.out.symm a
        obtain ⟨hs1, hs2⟩ := ho8.storeS Hlen.out.symm hin a
        have HO8s := lh hs1
        have Hk8s := lh (hk8.only hs2 HgM.out)
        have HQ8s := lh ((HQ7.out.three hq8).third hs2)
        clear hk8 hq8 ho8 hs1 hs2
        go_wp2_with fail
        exact ⟨⟨k + 1, _, ol.set a x, by omega, by go_num, by first | rfl | trivial, Hk8s, HO8s, lh (by rw [List.length_set]; exact Hlen.out), lh (by rw [← Hgo.out, ← Hdrop.out]; exact He.out), by omega, HQ8s⟩, by simp [intOf]; omega⟩
     ·obtain rfl : k = 16 := by omega
      have hki2 : ¬ ((16 : Nat) : Int) < 16 := by omega
      have Hend : Hid (coefD 4 m = (.ok ol, mc)) := lh (by rw [Hfin.out, ← He.out, List.drop_eq_nil_of_le (by rw [orderD_len4]; omega)]; rfl)
      go_wp2_with fail
      refine HPost.out _ _ ?_
      unfold CoefP
      rw [Hend.out]
      obtain ⟨n1, n2, n3, n4, n5, n6, n7, n8⟩ := HNum.out
      exact ⟨HQW6.out.own3 HQc.out n7, Hkc.out, _, rfl, HOc.out.lower n7⟩
end Go.Proofs.YtmgbbgffkakcaaaGreatDoor
