/- Joined texts: KAllA. Conditions: each part names its own. -/
import Derived.Test.YtmbjehnddgcboaaGreatDoorZKAllX
/- The document's container, read whole: the ways out 1, 6, 2. Conditions: the reader lies in a block behind its units, at their beginning. -/
namespace Go.Proofs.YtmbjehnddgcboaaGreatDoor
open Go.RowKit
set_option linter.unusedVariables false
set_option linter.unusedSimpArgs false
set_option maxRecDepth 100000 in
set_option maxHeartbeats 16000000 in
theorem kall_1 {K : KS} {R lo hi : Nat} {bv : Value} {w : World} (h : KRd K R w 0 0) (hb : Ints .u8 lo hi w bv K.l) (hR : R < lo ∨ hi ≤ R) (hhi2 : hi ≤ w.heap.size) (htag : (allX K.l).1 = 1) :
    Calls Tryz.prog 19 #[.pointer (some ⟨R, 0, none⟩), bv] w (KAllP K R w (allX K.l).2) := by
  suffices key : ∀ Q : Ending → World → Prop, Hid (∀ e w', KAllP K R w (allX K.l).2 e w' → Q e w') → Calls Tryz.prog 19 #[.pointer (some ⟨R, 0, none⟩), bv] w Q from key _ (Lib.hid fun _ _ h => h)
  intro Q HPost
  have HTag := Lib.hid htag
  clear htag
  have hRl := h.lt
  have hhi := h.hiR
  have HK := Lib.hid h
  have HB := Lib.hid hb
  have hsmall := Lib.hid h.small
  obtain ⟨ba, bcap, rfl, hbc, hbm, hbat, -⟩ := hb.open
  have Hbat := Lib.hid hbat
  have Hbc := Lib.hid hbc
  have hbcm : (bcap : Int) ≤ 9223372036854775807 := by unfold maxLen at hbm; omega
  clear hbat
  have hO : ∀ o o' o'', Only [] w (((w.alloc o).alloc o').alloc o'') := fun o o' o'' => ((Only.new _ _).q (Only.new _ _)).q (Only.new _ _)
  have HO := Lib.hid hO
  have HT := Lib.hid (fun o o' o'' => ktake_any (h.quiet (hO o o' o'')))
  have HA4 : Hid ((((w.alloc zAll).alloc zErr).alloc zAll).heap[w.heap.size]? = some zAll) := Lib.hid (by rw [Below.heap_alloc _ _ _ (by simp; omega), Below.heap_alloc _ _ _ (by simp)]; exact heap_alloc_new _ _)
  have HA5 : Hid ((((w.alloc zAll).alloc zErr).alloc zAll).heap[w.heap.size + 1]? = some zErr) := Lib.hid (by rw [Below.heap_alloc _ _ _ (by simp)]; exact heap_alloc_new' (by simp))
  have HA6 : Hid ((((w.alloc zAll).alloc zErr).alloc zAll).heap[w.heap.size + 1 + 1]? = some zAll) := Lib.hid (heap_alloc_new' (by simp))
  have hall : allX K.l = match (headR K.l 0 0).1 with
    | .error e => (tagH K.l, (.error e, (headR K.l 0 0).2))
    | .ok h => bodyX K.l h (partsR K.l h.F h.parts h.parts.toNat 0 0 (headR K.l 0 0).2.1 (headR K.l 0 0).2.2) := rfl
  rw [headR_peek] at hall
  unfold tagH at hall
  have Hall := Lib.hid hall
  clear h hb hO hall hbm
  cases hpk : peekR K.l 0 with
  | error er =>
    have Hfin : Hid (allX K.l = (1, .error er, 0, 0)) := Lib.hid (by rw [Hall.out, hpk])
    have hne := kpeekR_err hpk
    have hcb : (er.code == 0) = false := by rw [beq_eq_false_iff_ne]; exact hne.1
    have Hpk := Lib.hid hpk
    clear hpk hne Hall
    go_enter Tryz.func19, Tryz.ntmps19
    go_wp2_with fail
    go_at_call 40
    refine (HT.out _ _ _).mono ?_
    rintro e w1 hP
    unfold KTakeP at hP
    rw [Hpk.out] at hP
    obtain ⟨hq1, sa, scap, rfl, hsv, hk1⟩ := hP
    have r4 := hq1.rowAt HA4.out (by simp; omega)
    have r5 := hq1.rowAt HA5.out (by simp; omega)
    have r6 := hq1.rowAt HA6.out (by simp; omega)
    have hz1 : w.heap.size + 3 ≤ w1.heap.size := by have := hq1.size; simp at this; omega
    have HSv := Lib.hid hsv
    have HK1 := Lib.hid hk1
    have HQ1 := Lib.hid hq1
    clear hsv hk1 hq1
    simp only
    go_wp2_with fail
    go_at_call 20
    refine (ok_any _ _ _).mono ?_
    rintro e w2 ⟨rfl, hq2⟩
    rw [hcb]
    have hqA := ((Only.new w1 zUnit).q (Only.new _ (.cells #[.int .i64 er.code, .slice sa er.path.length scap] 42))).q hq2
    have rX := hq2.row (heap_alloc_new' (w := w1.alloc zUnit) (o := .cells #[.int .i64 er.code, .slice sa er.path.length scap] 42) (g := w1.heap.size + 1) (by simp))
    have r4' := hqA.row r4
    have r5' := hqA.row r5
    have r6' := hqA.row r6
    obtain ⟨x0, x1, _, _, _⟩ := row2 rX
    obtain ⟨b0, b1, bf0, bf1, _⟩ := row2 r5'
    obtain ⟨⟨m0, m1, m2, m3, m4, m5, m6⟩, m7, m8, m9, m10, m11, m12, m13⟩ := cells14 r6'
    obtain ⟨⟨n0, n1, n2, n3, n4, n5, n6⟩, n7, n8, n9, n10, n11, n12, n13⟩ := cells14 r4'
    obtain ⟨⟨k0, k1, k2, k3, k4, k5, k6⟩, k7, k8, k9, k10, k11, k12, k13⟩ := frz14 r4'
    have HR := Lib.hid (And.intro r4' (And.intro r5' hqA))
    have hn1 : ¬ w.heap.size = w1.heap.size + 1 := by omega
    have hn2 : ¬ w.heap.size + 1 = w1.heap.size + 1 := by omega
    clear r4 r5 r6 r4' r5' r6' rX hq2 hqA
    go_wp2_with fail
    go_region
    go_wp2_with fail
    generalize hWf : World.setCell _ _ _ = Wf
    obtain ⟨r4', r5', hqA⟩ := HR.out
    obtain ⟨rf, ⟨s0, s1⟩, oF⟩ := set16r r4' r5' (by omega) hWf
    obtain ⟨⟨t0, t1, t2, t3, t4, t5, t6⟩, t7, t8, t9, t10, t11, t12, t13⟩ := cells14 rf
    refine bodyPost_ret (v := .tuple #[.agg #[.int .i64 0, .int .i64 0, .int .i64 0, .int .i64 0, .int .i64 0, .int .i64 0, .int .i64 0, .int .i64 0, .int .i64 0, .int .i64 0, .int .i64 0, .slice none 0 0, .slice none 0 0, .slice none 0 0], .agg #[.int .i64 er.code, .slice sa er.path.length scap]]) (by simp [results, Tryz.results19, go_sem, t0, t1, t2, t3, t4, t5, t6, t7, t8, t9, t10, t11, t12, t13, s0, s1]) rfl (HPost.out _ _ ?_)
    unfold KAllP
    rw [Hfin.out]
    have hA : Only [R] w w2 := (((HO.out zAll zErr zAll).mono (U := [R]) (by simp)).trans HQ1.out (fun g h _ => h) (fun g h _ => h)).trans hqA (fun g h _ => h) (by simp)
    exact ⟨(hA.tail2 oF (by omega) (by omega)).drew, ((HK1.out.quiet hqA).tail2 oF (by omega) (by omega)).drew, _, _, _, _, _, _, _, _, _, _, _, _, _, _, _, _, _, _, _, _, sa, scap, rfl, ((HSv.out.only hqA (by simp)).tail2 oF (by omega) (by omega)).only (Only.refl [] _).drew (by simp)⟩
  | ok u =>
    exact absurd HTag.out (by have := allX_ok hpk; omega)
set_option maxRecDepth 100000 in
set_option maxHeartbeats 16000000 in
theorem kall_6 {K : KS} {R lo hi : Nat} {bv : Value} {w : World} (h : KRd K R w 0 0) (hb : Ints .u8 lo hi w bv K.l) (hR : R < lo ∨ hi ≤ R) (hhi2 : hi ≤ w.heap.size) (htag : (allX K.l).1 = 6) :
    Calls Tryz.prog 19 #[.pointer (some ⟨R, 0, none⟩), bv] w (KAllP K R w (allX K.l).2) := by
  suffices key : ∀ Q : Ending → World → Prop, Hid (∀ e w', KAllP K R w (allX K.l).2 e w' → Q e w') → Calls Tryz.prog 19 #[.pointer (some ⟨R, 0, none⟩), bv] w Q from key _ (Lib.hid fun _ _ h => h)
  intro Q HPost
  have HTag := Lib.hid htag
  clear htag
  have hRl := h.lt
  have hhi := h.hiR
  have HK := Lib.hid h
  have HB := Lib.hid hb
  have hsmall := Lib.hid h.small
  obtain ⟨ba, bcap, rfl, hbc, hbm, hbat, -⟩ := hb.open
  have Hbat := Lib.hid hbat
  have Hbc := Lib.hid hbc
  have hbcm : (bcap : Int) ≤ 9223372036854775807 := by unfold maxLen at hbm; omega
  clear hbat
  have hO : ∀ o o' o'', Only [] w (((w.alloc o).alloc o').alloc o'') := fun o o' o'' => ((Only.new _ _).q (Only.new _ _)).q (Only.new _ _)
  have HO := Lib.hid hO
  have HT := Lib.hid (fun o o' o'' => ktake_any (h.quiet (hO o o' o'')))
  have HA4 : Hid ((((w.alloc zAll).alloc zErr).alloc zAll).heap[w.heap.size]? = some zAll) := Lib.hid (by rw [Below.heap_alloc _ _ _ (by simp; omega), Below.heap_alloc _ _ _ (by simp)]; exact heap_alloc_new _ _)
  have HA5 : Hid ((((w.alloc zAll).alloc zErr).alloc zAll).heap[w.heap.size + 1]? = some zErr) := Lib.hid (by rw [Below.heap_alloc _ _ _ (by simp)]; exact heap_alloc_new' (by simp))
  have HA6 : Hid ((((w.alloc zAll).alloc zErr).alloc zAll).heap[w.heap.size + 1 + 1]? = some zAll) := Lib.hid (heap_alloc_new' (by simp))
  have hall : allX K.l = match (headR K.l 0 0).1 with
    | .error e => (tagH K.l, (.error e, (headR K.l 0 0).2))
    | .ok h => bodyX K.l h (partsR K.l h.F h.parts h.parts.toNat 0 0 (headR K.l 0 0).2.1 (headR K.l 0 0).2.2) := rfl
  rw [headR_peek] at hall
  unfold tagH at hall
  have Hall := Lib.hid hall
  clear h hb hO hall hbm
  cases hpk : peekR K.l 0 with
  | error er =>
    have Hfin : Hid (allX K.l = (1, .error er, 0, 0)) := Lib.hid (by rw [Hall.out, hpk])
    have hne := kpeekR_err hpk
    have hcb : (er.code == 0) = false := by rw [beq_eq_false_iff_ne]; exact hne.1
    have Hpk := Lib.hid hpk
    clear hpk hne Hall
    exact absurd HTag.out (by rw [Hfin.out]; show ¬ ((1 : Nat) = 6); decide)
  | ok u =>
    obtain ⟨uk, ud, uat, uend⟩ := u
    have hpo := peekR_ok hpk HK.out.ple HK.out.r8
    have hdr := peekR_in hpk HK.out.r8
    simp only at hpo hdr
    obtain ⟨huat, hue, hule, huk0, huk1, hud⟩ := hpo
    have hudl : ud.length ≤ 1000000000000 := by have := hsmall.out; omega
    have Hudl := Lib.hid hudl
    have Hdr := Lib.hid hdr
    have Hpk := Lib.hid hpk
    rw [hpk] at Hall
    have hallu : allX K.l = match ((if headU uk ud then (Except.ok (headD ud), uend, 0 + 1) else (.error ⟨[], 2⟩, 0, 0)) : (Except Err HeadD) × Nat × Nat).1 with
      | .error e => (6, (.error e, ((if headU uk ud then (Except.ok (headD ud), uend, 0 + 1) else (.error ⟨[], 2⟩, 0, 0)) : (Except Err HeadD) × Nat × Nat).2))
      | .ok h => bodyX K.l h (partsR K.l h.F h.parts h.parts.toNat 0 0 ((if headU uk ud then (Except.ok (headD ud), uend, 0 + 1) else (.error ⟨[], 2⟩, 0, 0)) : (Except Err HeadD) × Nat × Nat).2.1 ((if headU uk ud then (Except.ok (headD ud), uend, 0 + 1) else (.error ⟨[], 2⟩, 0, 0)) : (Except Err HeadD) × Nat × Nat).2.2) := Hall.out
    have Hallu := Lib.hid hallu
    have HUe := Lib.hid (And.intro hule (show 1 ≤ uend by omega))
    clear hpk huat hue hule huk0 huk1 hud Hall hallu hudl hdr
    go_enter Tryz.func19, Tryz.ntmps19
    go_wp2_with fail
    go_at_call 40
    refine (HT.out _ _ _).mono ?_
    rintro e w1 hP
    unfold KTakeP at hP
    rw [Hpk.out] at hP
    obtain ⟨hq1, dv, rfl, hdv, hk1⟩ := hP
    obtain ⟨da, dcap, rfl, _⟩ := hdv.open
    have r4 := hq1.rowAt HA4.out (by simp; omega)
    have r5 := hq1.rowAt HA5.out (by simp; omega)
    have r6 := hq1.rowAt HA6.out (by simp; omega)
    have hz1 : w.heap.size + 3 ≤ w1.heap.size := by have := hq1.size; simp at this; omega
    have HDv := Lib.hid hdv
    have HK1 := Lib.hid hk1
    have HQ1 := Lib.hid hq1
    clear hdv hk1 hq1
    simp only
    go_wp2_with fail
    go_at_call 20
    refine (ok_any _ _ _).mono ?_
    rintro e w2 ⟨rfl, hq2⟩
    simp only [BEq.rfl]
    have hqA := ((Only.new w1 (.cells #[.int .i64 uk, .slice da ud.length dcap, .int .i64 uat, .int .i64 uend] 106)).q (Only.new _ zErr)).q hq2
    have rX := hq2.row ((Only.new _ zErr).row (heap_alloc_new w1 (.cells #[.int .i64 uk, .slice da ud.length dcap, .int .i64 uat, .int .i64 uend] 106)))
    have rY := hq2.row (heap_alloc_new' (w := w1.alloc (.cells #[.int .i64 uk, .slice da ud.length dcap, .int .i64 uat, .int .i64 uend] 106)) (o := zErr) (g := w1.heap.size + 1) (by simp))
    obtain ⟨x0, x1, x2, x3⟩ := row4_cells rX
    have HRa := Lib.hid (And.intro (hqA.row r4) (And.intro (hqA.row r5) (And.intro (hqA.row r6) rY)))
    have HKa := Lib.hid (HK1.out.quiet hqA)
    have HDa := Lib.hid (HDv.out.quiet hqA)
    have hOa : Only [R] w w2 := (((HO.out zAll zErr zAll).mono (U := [R]) (by simp)).trans HQ1.out (fun g h _ => h) (fun g h _ => h)).trans hqA (fun g h _ => h) (by simp)
    have HOa := Lib.hid hOa
    have hz2 : w1.heap.size + 2 ≤ w2.heap.size := by have := hq2.size; simp at this; omega
    clear r4 r5 r6 rX rY hq2 hqA hOa
    go_wp2_with fail
    go_at_call 41
    refine (khead_any HDa.out Hudl.out).mono ?_
    rintro e w3 hP
    obtain ⟨hq3, hP⟩ := hP
    obtain ⟨ra4, ra5, ra6, raY⟩ := HRa.out
    have rb4 := hq3.row ra4
    have rb5 := hq3.row ra5
    have rb6 := hq3.row ra6
    have rbY := hq3.row raY
    have hk3 := HKa.out.quiet hq3
    have hO3 : Only [R] w w3 := HOa.out.trans hq3 (fun g h _ => h) (by simp)
    have hz3 := hq3.size
    clear hq3 ra4 ra5 ra6 raY
    rcases hP with ⟨hhu, rfl⟩ | ⟨hhu, hW, hH, hF, cc, nn, rfl⟩
    · have hall2 : allX K.l = bodyX K.l (headD ud) (partsR K.l (headD ud).F (headD ud).parts (headD ud).parts.toNat 0 0 uend 1) := by rw [Hallu.out, if_pos hhu]
      have hok := hhu.2.2
      exact absurd HTag.out (by rw [hall2]; have := (bodyX_tag K.l (headD ud) (partsR K.l (headD ud).F (headD ud).parts (headD ud).parts.toNat 0 0 uend 1)).2; omega)
    · have Hfin : Hid (allX K.l = (6, .error ⟨[], 2⟩, 0, 0)) := Lib.hid (by rw [Hallu.out, if_neg hhu])
      obtain ⟨q0, q1, q2, q3, q4, q5, q6, q7⟩ := cc
      unfold infoV
      simp only
      clear Hallu hhu
      have kf := frozen_of_row (w3.alloc (.cells #[.int .i64 hW, .int .i64 hH, .int .i64 hF, .int .i64 q0, .int .i64 q1, .int .i64 q2, .int .i64 q3, .int .i64 q4, .int .i64 q5, .int .i64 q6, .int .i64 q7, .slice none 0 0] 34)) R 1 _ _ (hk3.quiet (Only.new _ _)).row
      have cN : (w3.alloc (.cells #[.int .i64 hW, .int .i64 hH, .int .i64 hF, .int .i64 q0, .int .i64 q1, .int .i64 q2, .int .i64 q3, .int .i64 q4, .int .i64 q5, .int .i64 q6, .int .i64 q7, .slice none 0 0] 34)).cell? ⟨R, 1, none⟩ = some (.int .i64 1) := (hk3.quiet (Only.new _ _)).c1
      have hset : KRd K R ((w3.alloc (.cells #[.int .i64 hW, .int .i64 hH, .int .i64 hF, .int .i64 q0, .int .i64 q1, .int .i64 q2, .int .i64 q3, .int .i64 q4, .int .i64 q5, .int .i64 q6, .int .i64 q7, .slice none 0 0] 34)).setCell ⟨R, 1, none⟩ (.int .i64 0)) 0 0 := (hk3.quiet (Only.new _ _)).set (n' := 0) HK.out.spl HK.out.le HK.out.zero HK.out.last HK.out.ple
      have o4 : Only [R] (w3.alloc (.cells #[.int .i64 hW, .int .i64 hH, .int .i64 hF, .int .i64 q0, .int .i64 q1, .int .i64 q2, .int .i64 q3, .int .i64 q4, .int .i64 q5, .int .i64 q6, .int .i64 q7, .slice none 0 0] 34)) ((w3.alloc (.cells #[.int .i64 hW, .int .i64 hH, .int .i64 hF, .int .i64 q0, .int .i64 q1, .int .i64 q2, .int .i64 q3, .int .i64 q4, .int .i64 q5, .int .i64 q6, .int .i64 q7, .slice none 0 0] 34)).setCell ⟨R, 1, none⟩ (.int .i64 0)) := (Only.refl _ _).setCell (by simp) _
      have hqN := Only.new w3 (.cells #[.int .i64 hW, .int .i64 hH, .int .i64 hF, .int .i64 q0, .int .i64 q1, .int .i64 q2, .int .i64 q3, .int .i64 q4, .int .i64 q5, .int .i64 q6, .int .i64 q7, .slice none 0 0] 34)
      have rc4 := o4.rowAt (hqN.row rb4) (by simp; omega)
      have rc5 := o4.rowAt (hqN.row rb5) (by simp; omega)
      have rc6 := o4.rowAt (hqN.row rb6) (by simp; omega)
      have hO4 : Only [R] w ((w3.alloc (.cells #[.int .i64 hW, .int .i64 hH, .int .i64 hF, .int .i64 q0, .int .i64 q1, .int .i64 q2, .int .i64 q3, .int .i64 q4, .int .i64 q5, .int .i64 q6, .int .i64 q7, .slice none 0 0] 34)).setCell ⟨R, 1, none⟩ (.int .i64 0)) := (hO3.trans hqN (fun g h _ => h) (by simp)).trans o4 (fun g h _ => h) (fun g h _ => h)
      have H4 := Lib.hid (And.intro rc4 (And.intro rc5 (And.intro hset hO4)))
      have HR6 := Lib.hid rc6
      clear rb4 rb5 rb6 rbY hk3 hO3 rc4 rc5 rc6 hset o4 hqN hO4
      go_wp2_with fail
      clear kf cN
      generalize hW4 : World.setCell _ _ _ = W4 at *
      obtain ⟨⟨m0, m1, m2, m3, m4, m5, m6⟩, m7, m8, m9, m10, m11, m12, m13⟩ := cells14 HR6.out
      have hbA : (w.heap.size = w.heap.size + 1 + 1) = False := eq_false (by omega)
      have hbB : (w.heap.size + 1 = w.heap.size + 1 + 1) = False := eq_false (by omega)
      first | go_region_held3 (fun w' => w'.cell? ⟨w.heap.size + 1 + 1, 0, none⟩ = some (.int .i64 0) ∧ w'.cell? ⟨w.heap.size + 1 + 1, 1, none⟩ = some (.int .i64 0) ∧ w'.cell? ⟨w.heap.size + 1 + 1, 2, none⟩ = some (.int .i64 0) ∧ w'.cell? ⟨w.heap.size + 1 + 1, 3, none⟩ = some (.int .i64 0) ∧ w'.cell? ⟨w.heap.size + 1 + 1, 4, none⟩ = some (.int .i64 0) ∧ w'.cell? ⟨w.heap.size + 1 + 1, 5, none⟩ = some (.int .i64 0) ∧ w'.cell? ⟨w.heap.size + 1 + 1, 6, none⟩ = some (.int .i64 0) ∧ w'.cell? ⟨w.heap.size + 1 + 1, 7, none⟩ = some (.int .i64 0) ∧ w'.cell? ⟨w.heap.size + 1 + 1, 8, none⟩ = some (.int .i64 0) ∧ w'.cell? ⟨w.heap.size + 1 + 1, 9, none⟩ = some (.int .i64 0) ∧ w'.cell? ⟨w.heap.size + 1 + 1, 10, none⟩ = some (.int .i64 0) ∧ w'.cell? ⟨w.heap.size + 1 + 1, 11, none⟩ = some (.slice none 0 0) ∧ w'.cell? ⟨w.heap.size + 1 + 1, 12, none⟩ = some (.slice none 0 0) ∧ w'.cell? ⟨w.heap.size + 1 + 1, 13, none⟩ = some (.slice none 0 0))
        (first
          | (simp only [World.cell?_setCell_far, ne_eq, hbA, hbB, not_false_eq_true]; exact ⟨u0, u1, u2, u3, u4, u5, u6, u7, u8, u9, u10, u11, u12, u13⟩)
          | (go_split_ands; refine ⟨hqf.cell (by assumption) (by simp), hqf.cell (by assumption) (by simp), hqf.cell (by assumption) (by simp), hqf.cell (by assumption) (by simp), hqf.cell (by assumption) (by simp), hqf.cell (by assumption) (by simp), hqf.cell (by assumption) (by simp), hqf.cell (by assumption) (by simp), hqf.cell (by assumption) (by simp), hqf.cell (by assumption) (by simp), hqf.cell (by assumption) (by simp), hqf.cell (by assumption) (by simp), hqf.cell (by assumption) (by simp), hqf.cell (by assumption) (by simp)⟩)
          | (simp [*, World.cell?_alloc_some, World.cell?_setCell_far, frozen?_alloc_cells, frozen_drew, World.frozen?_setCell])
          | fail)
        (first
          | (go_at_call 36; refine (fail_any _ _).mono ?_; rintro e w5 ⟨rfl, hqf⟩; have rd4 := ((Only.refl [] W4).drew.q hqf).row H4.out.1; have rd5 := ((Only.refl [] W4).drew.q hqf).row H4.out.2.1; obtain ⟨⟨u0, u1, u2, u3, u4, u5, u6⟩, u7, u8, u9, u10, u11, u12, u13⟩ := cells14 (((Only.refl [] W4).drew.q hqf).row HR6.out);
              obtain ⟨b0, b1, bf0, bf1, _⟩ := row2 rd5; obtain ⟨⟨n0, n1, n2, n3, n4, n5, n6⟩, n7, n8, n9, n10, n11, n12, n13⟩ := cells14 rd4; obtain ⟨⟨k0, k1, k2, k3, k4, k5, k6⟩, k7, k8, k9, k10, k11, k12, k13⟩ := frz14 rd4)
          | fail) | fail
      all_goals
        go_wp2_with fail
        generalize hWf : World.setCell _ _ _ = Wf
        obtain ⟨rf, ⟨s0, s1⟩, oF⟩ := set16r rd4 rd5 (by omega) hWf
        obtain ⟨⟨t0, t1, t2, t3, t4, t5, t6⟩, t7, t8, t9, t10, t11, t12, t13⟩ := cells14 rf
        refine bodyPost_ret (v := .tuple #[.agg #[.int .i64 0, .int .i64 0, .int .i64 0, .int .i64 0, .int .i64 0, .int .i64 0, .int .i64 0, .int .i64 0, .int .i64 0, .int .i64 0, .int .i64 0, .slice none 0 0, .slice none 0 0, .slice none 0 0], .agg #[.int .i64 2, .slice none 0 0]]) (by simp [results, Tryz.results19, go_sem, t0, t1, t2, t3, t4, t5, t6, t7, t8, t9, t10, t11, t12, t13, s0, s1]) rfl (HPost.out _ _ ?_)
        unfold KAllP
        rw [Hfin.out]
        have hA : Only [R] w w5 := H4.out.2.2.2.drew.trans hqf (fun g h _ => h) (by simp)
        exact ⟨hA.tail2 oF (by omega) (by omega), ((H4.out.2.2.1.drew.quiet hqf).tail2 oF (by omega) (by omega)), _, _, _, _, _, _, _, _, _, _, _, _, _, _, _, _, _, _, _, _, none, 0, rfl, Cells.nil _ _ _ _⟩
set_option maxRecDepth 100000 in
set_option maxHeartbeats 16000000 in
theorem kall_2 {K : KS} {R lo hi : Nat} {bv : Value} {w : World} (h : KRd K R w 0 0) (hb : Ints .u8 lo hi w bv K.l) (hR : R < lo ∨ hi ≤ R) (hhi2 : hi ≤ w.heap.size) (htag : (allX K.l).1 = 2) :
    Calls Tryz.prog 19 #[.pointer (some ⟨R, 0, none⟩), bv] w (KAllP K R w (allX K.l).2) := by
  suffices key : ∀ Q : Ending → World → Prop, Hid (∀ e w', KAllP K R w (allX K.l).2 e w' → Q e w') → Calls Tryz.prog 19 #[.pointer (some ⟨R, 0, none⟩), bv] w Q from key _ (Lib.hid fun _ _ h => h)
  intro Q HPost
  have HTag := Lib.hid htag
  clear htag
  have hRl := h.lt
  have hhi := h.hiR
  have HK := Lib.hid h
  have HB := Lib.hid hb
  have hsmall := Lib.hid h.small
  obtain ⟨ba, bcap, rfl, hbc, hbm, hbat, -⟩ := hb.open
  have Hbat := Lib.hid hbat
  have Hbc := Lib.hid hbc
  have hbcm : (bcap : Int) ≤ 9223372036854775807 := by unfold maxLen at hbm; omega
  clear hbat
  have hO : ∀ o o' o'', Only [] w (((w.alloc o).alloc o').alloc o'') := fun o o' o'' => ((Only.new _ _).q (Only.new _ _)).q (Only.new _ _)
  have HO := Lib.hid hO
  have HT := Lib.hid (fun o o' o'' => ktake_any (h.quiet (hO o o' o'')))
  have HA4 : Hid ((((w.alloc zAll).alloc zErr).alloc zAll).heap[w.heap.size]? = some zAll) := Lib.hid (by rw [Below.heap_alloc _ _ _ (by simp; omega), Below.heap_alloc _ _ _ (by simp)]; exact heap_alloc_new _ _)
  have HA5 : Hid ((((w.alloc zAll).alloc zErr).alloc zAll).heap[w.heap.size + 1]? = some zErr) := Lib.hid (by rw [Below.heap_alloc _ _ _ (by simp)]; exact heap_alloc_new' (by simp))
  have HA6 : Hid ((((w.alloc zAll).alloc zErr).alloc zAll).heap[w.heap.size + 1 + 1]? = some zAll) := Lib.hid (heap_alloc_new' (by simp))
  have hall : allX K.l = match (headR K.l 0 0).1 with
    | .error e => (tagH K.l, (.error e, (headR K.l 0 0).2))
    | .ok h => bodyX K.l h (partsR K.l h.F h.parts h.parts.toNat 0 0 (headR K.l 0 0).2.1 (headR K.l 0 0).2.2) := rfl
  rw [headR_peek] at hall
  unfold tagH at hall
  have Hall := Lib.hid hall
  clear h hb hO hall hbm
  cases hpk : peekR K.l 0 with
  | error er =>
    have Hfin : Hid (allX K.l = (1, .error er, 0, 0)) := Lib.hid (by rw [Hall.out, hpk])
    have hne := kpeekR_err hpk
    have hcb : (er.code == 0) = false := by rw [beq_eq_false_iff_ne]; exact hne.1
    have Hpk := Lib.hid hpk
    clear hpk hne Hall
    exact absurd HTag.out (by rw [Hfin.out]; show ¬ ((1 : Nat) = 2); decide)
  | ok u =>
    obtain ⟨uk, ud, uat, uend⟩ := u
    have hpo := peekR_ok hpk HK.out.ple HK.out.r8
    have hdr := peekR_in hpk HK.out.r8
    simp only at hpo hdr
    obtain ⟨huat, hue, hule, huk0, huk1, hud⟩ := hpo
    have hudl : ud.length ≤ 1000000000000 := by have := hsmall.out; omega
    have Hudl := Lib.hid hudl
    have Hdr := Lib.hid hdr
    have Hpk := Lib.hid hpk
    rw [hpk] at Hall
    have hallu : allX K.l = match ((if headU uk ud then (Except.ok (headD ud), uend, 0 + 1) else (.error ⟨[], 2⟩, 0, 0)) : (Except Err HeadD) × Nat × Nat).1 with
      | .error e => (6, (.error e, ((if headU uk ud then (Except.ok (headD ud), uend, 0 + 1) else (.error ⟨[], 2⟩, 0, 0)) : (Except Err HeadD) × Nat × Nat).2))
      | .ok h => bodyX K.l h (partsR K.l h.F h.parts h.parts.toNat 0 0 ((if headU uk ud then (Except.ok (headD ud), uend, 0 + 1) else (.error ⟨[], 2⟩, 0, 0)) : (Except Err HeadD) × Nat × Nat).2.1 ((if headU uk ud then (Except.ok (headD ud), uend, 0 + 1) else (.error ⟨[], 2⟩, 0, 0)) : (Except Err HeadD) × Nat × Nat).2.2) := Hall.out
    have Hallu := Lib.hid hallu
    have HUe := Lib.hid (And.intro hule (show 1 ≤ uend by omega))
    clear hpk huat hue hule huk0 huk1 hud Hall hallu hudl hdr
    go_enter Tryz.func19, Tryz.ntmps19
    go_wp2_with fail
    go_at_call 40
    refine (HT.out _ _ _).mono ?_
    rintro e w1 hP
    unfold KTakeP at hP
    rw [Hpk.out] at hP
    obtain ⟨hq1, dv, rfl, hdv, hk1⟩ := hP
    obtain ⟨da, dcap, rfl, _⟩ := hdv.open
    have r4 := hq1.rowAt HA4.out (by simp; omega)
    have r5 := hq1.rowAt HA5.out (by simp; omega)
    have r6 := hq1.rowAt HA6.out (by simp; omega)
    have hz1 : w.heap.size + 3 ≤ w1.heap.size := by have := hq1.size; simp at this; omega
    have HDv := Lib.hid hdv
    have HK1 := Lib.hid hk1
    have HQ1 := Lib.hid hq1
    clear hdv hk1 hq1
    simp only
    go_wp2_with fail
    go_at_call 20
    refine (ok_any _ _ _).mono ?_
    rintro e w2 ⟨rfl, hq2⟩
    simp only [BEq.rfl]
    have hqA := ((Only.new w1 (.cells #[.int .i64 uk, .slice da ud.length dcap, .int .i64 uat, .int .i64 uend] 106)).q (Only.new _ zErr)).q hq2
    have rX := hq2.row ((Only.new _ zErr).row (heap_alloc_new w1 (.cells #[.int .i64 uk, .slice da ud.length dcap, .int .i64 uat, .int .i64 uend] 106)))
    have rY := hq2.row (heap_alloc_new' (w := w1.alloc (.cells #[.int .i64 uk, .slice da ud.length dcap, .int .i64 uat, .int .i64 uend] 106)) (o := zErr) (g := w1.heap.size + 1) (by simp))
    obtain ⟨x0, x1, x2, x3⟩ := row4_cells rX
    have HRa := Lib.hid (And.intro (hqA.row r4) (And.intro (hqA.row r5) (And.intro (hqA.row r6) rY)))
    have HKa := Lib.hid (HK1.out.quiet hqA)
    have HDa := Lib.hid (HDv.out.quiet hqA)
    have hOa : Only [R] w w2 := (((HO.out zAll zErr zAll).mono (U := [R]) (by simp)).trans HQ1.out (fun g h _ => h) (fun g h _ => h)).trans hqA (fun g h _ => h) (by simp)
    have HOa := Lib.hid hOa
    have hz2 : w1.heap.size + 2 ≤ w2.heap.size := by have := hq2.size; simp at this; omega
    clear r4 r5 r6 rX rY hq2 hqA hOa
    go_wp2_with fail
    go_at_call 41
    refine (khead_any HDa.out Hudl.out).mono ?_
    rintro e w3 hP
    obtain ⟨hq3, hP⟩ := hP
    obtain ⟨ra4, ra5, ra6, raY⟩ := HRa.out
    have rb4 := hq3.row ra4
    have rb5 := hq3.row ra5
    have rb6 := hq3.row ra6
    have rbY := hq3.row raY
    have hk3 := HKa.out.quiet hq3
    have hO3 : Only [R] w w3 := HOa.out.trans hq3 (fun g h _ => h) (by simp)
    have hz3 := hq3.size
    clear hq3 ra4 ra5 ra6 raY
    rcases hP with ⟨hhu, rfl⟩ | ⟨hhu, hW, hH, hF, cc, nn, rfl⟩
    · have hall2 : allX K.l = bodyX K.l (headD ud) (partsR K.l (headD ud).F (headD ud).parts (headD ud).parts.toNat 0 0 uend 1) := by rw [Hallu.out, if_pos hhu]
      have hok := hhu.2.2
      have Hall2 := Lib.hid hall2
      clear hall2 Hallu hhu
      generalize headD ud = hd at *
      obtain ⟨hok1, hok2, hok3, hok4, hok5, hok6⟩ := hok
      obtain ⟨hW, hH, hF, ⟨q0, q1, q2, q3, q4, q5, q6, q7⟩, np⟩ := hd
      simp only at hok2 hok3 hok4 hok5
      clear hok1 hok6
      obtain ⟨NP, rfl⟩ := Int.eq_ofNat_of_zero_le (by omega : 0 ≤ np)
      unfold infoV
      simp only
      have hqN := Only.new w3 (.cells #[.int .i64 hW, .int .i64 hH, .int .i64 hF, .int .i64 q0, .int .i64 q1, .int .i64 q2, .int .i64 q3, .int .i64 q4, .int .i64 q5, .int .i64 q6, .int .i64 q7, .slice none 0 0] 34)
      have rG := heap_alloc_new w3 (.cells #[.int .i64 hW, .int .i64 hH, .int .i64 hF, .int .i64 q0, .int .i64 q1, .int .i64 q2, .int .i64 q3, .int .i64 q4, .int .i64 q5, .int .i64 q6, .int .i64 q7, .slice none 0 0] 34)
      have rc4 := hqN.row rb4
      have rc5 := hqN.row rb5
      have rc6 := hqN.row rb6
      have rcY := hqN.row rbY
      have hk4 := hk3.quiet hqN
      have hO4 : Only [R] w (w3.alloc (.cells #[.int .i64 hW, .int .i64 hH, .int .i64 hF, .int .i64 q0, .int .i64 q1, .int .i64 q2, .int .i64 q3, .int .i64 q4, .int .i64 q5, .int .i64 q6, .int .i64 q7, .slice none 0 0] 34)) := hO3.trans hqN (fun g h _ => h) (by simp)
      obtain ⟨⟨g0, g1, g2, g3, g4, g5⟩, g6, g7, g8, g9, g10, g11⟩ := cells12 rG
      obtain ⟨⟨m0, m1, m2, m3, m4, m5, m6⟩, m7, m8, m9, m10, m11, m12, m13⟩ := cells14 rc6
      obtain ⟨⟨k0, k1, k2, k3, k4, k5, k6⟩, k7, k8, k9, k10, k11, k12, k13⟩ := frz14 rc6
      have H4 := Lib.hid (And.intro rc4 (And.intro rc5 (And.intro rcY (And.intro hk4 hO4))))
      have HR6 := Lib.hid rc6
      clear rb4 rb5 rb6 rbY hk3 hO3 rG rc4 rc5 rc6 rcY hk4 hO4 hqN
      go_wp2_with fail
      have oW5 : Only [w.heap.size + 1 + 1] (w3.alloc (.cells #[.int .i64 hW, .int .i64 hH, .int .i64 hF, .int .i64 q0, .int .i64 q1, .int .i64 q2, .int .i64 q3, .int .i64 q4, .int .i64 q5, .int .i64 q6, .int .i64 q7, .slice none 0 0] 34)) (((((((((((((w3.alloc (.cells #[.int .i64 hW, .int .i64 hH, .int .i64 hF, .int .i64 q0, .int .i64 q1, .int .i64 q2, .int .i64 q3, .int .i64 q4, .int .i64 q5, .int .i64 q6, .int .i64 q7, .slice none 0 0] 34)).setCell ⟨w.heap.size + 1 + 1, 0, none⟩ (.int .i64 hW)).setCell ⟨w.heap.size + 1 + 1, 1, none⟩ (.int .i64 hH)).setCell ⟨w.heap.size + 1 + 1, 2, none⟩ (.int .i64 hF)).setCell ⟨w.heap.size + 1 + 1, 3, none⟩ (.int .i64 q0)).setCell ⟨w.heap.size + 1 + 1, 4, none⟩ (.int .i64 q1)).setCell ⟨w.heap.size + 1 + 1, 5, none⟩ (.int .i64 q2)).setCell ⟨w.heap.size + 1 + 1, 6, none⟩ (.int .i64 q3)).setCell ⟨w.heap.size + 1 + 1, 7, none⟩ (.int .i64 q4)).setCell ⟨w.heap.size + 1 + 1, 8, none⟩ (.int .i64 q5)).setCell ⟨w.heap.size + 1 + 1, 9, none⟩ (.int .i64 q6)).setCell ⟨w.heap.size + 1 + 1, 10, none⟩ (.int .i64 q7)).setCell ⟨w.heap.size + 1 + 1, 11, none⟩ (.slice none 0 0)) := only12
      have rW5 : (((((((((((((w3.alloc (.cells #[.int .i64 hW, .int .i64 hH, .int .i64 hF, .int .i64 q0, .int .i64 q1, .int .i64 q2, .int .i64 q3, .int .i64 q4, .int .i64 q5, .int .i64 q6, .int .i64 q7, .slice none 0 0] 34)).setCell ⟨w.heap.size + 1 + 1, 0, none⟩ (.int .i64 hW)).setCell ⟨w.heap.size + 1 + 1, 1, none⟩ (.int .i64 hH)).setCell ⟨w.heap.size + 1 + 1, 2, none⟩ (.int .i64 hF)).setCell ⟨w.heap.size + 1 + 1, 3, none⟩ (.int .i64 q0)).setCell ⟨w.heap.size + 1 + 1, 4, none⟩ (.int .i64 q1)).setCell ⟨w.heap.size + 1 + 1, 5, none⟩ (.int .i64 q2)).setCell ⟨w.heap.size + 1 + 1, 6, none⟩ (.int .i64 q3)).setCell ⟨w.heap.size + 1 + 1, 7, none⟩ (.int .i64 q4)).setCell ⟨w.heap.size + 1 + 1, 8, none⟩ (.int .i64 q5)).setCell ⟨w.heap.size + 1 + 1, 9, none⟩ (.int .i64 q6)).setCell ⟨w.heap.size + 1 + 1, 10, none⟩ (.int .i64 q7)).setCell ⟨w.heap.size + 1 + 1, 11, none⟩ (.slice none 0 0)).heap[w.heap.size + 1 + 1]? = some (.cells #[.int .i64 hW, .int .i64 hH, .int .i64 hF, .int .i64 q0, .int .i64 q1, .int .i64 q2, .int .i64 q3, .int .i64 q4, .int .i64 q5, .int .i64 q6, .int .i64 q7, .slice none 0 0, .slice none 0 0, .slice none 0 0] 38 (0, 0)) := row14h HR6.out
      obtain ⟨rc4, rc5, rcY, hk4, hO4⟩ := H4.out
      have rd4 := oW5.rowAt rc4 (by simp; omega)
      have rd5 := oW5.rowAt rc5 (by simp)
      have rdY := oW5.rowAt rcY (by simp; omega)
      have hk5 := hk4.only oW5 (fun g hg => by rw [List.mem_singleton] at hg; omega)
      have hO5 := hO4.tail1 oW5 (by omega)
      have hz5 := oW5.size
      have hz4 : w3.heap.size + 1 = (w3.alloc (.cells #[.int .i64 hW, .int .i64 hH, .int .i64 hF, .int .i64 q0, .int .i64 q1, .int .i64 q2, .int .i64 q3, .int .i64 q4, .int .i64 q5, .int .i64 q6, .int .i64 q7, .slice none 0 0] 34)).heap.size := by simp
      clear rc4 rc5 rcY hk4 hO4 oW5 m0 m1 m2 m3 m4 m5 m6 m7 m8 m9 m10 m11 m12 m13 k0 k1 k2 k3 k4 k5 k6 k7 k8 k9 k10 k11 k12 k13 g0 g1 g2 g3 g4 g5 g6 g7 g8 g9 g10 g11
      generalize hW5 : (((((((((((((w3.alloc (.cells #[.int .i64 hW, .int .i64 hH, .int .i64 hF, .int .i64 q0, .int .i64 q1, .int .i64 q2, .int .i64 q3, .int .i64 q4, .int .i64 q5, .int .i64 q6, .int .i64 q7, .slice none 0 0] 34)).setCell ⟨w.heap.size + 1 + 1, 0, none⟩ (.int .i64 hW)).setCell ⟨w.heap.size + 1 + 1, 1, none⟩ (.int .i64 hH)).setCell ⟨w.heap.size + 1 + 1, 2, none⟩ (.int .i64 hF)).setCell ⟨w.heap.size + 1 + 1, 3, none⟩ (.int .i64 q0)).setCell ⟨w.heap.size + 1 + 1, 4, none⟩ (.int .i64 q1)).setCell ⟨w.heap.size + 1 + 1, 5, none⟩ (.int .i64 q2)).setCell ⟨w.heap.size + 1 + 1, 6, none⟩ (.int .i64 q3)).setCell ⟨w.heap.size + 1 + 1, 7, none⟩ (.int .i64 q4)).setCell ⟨w.heap.size + 1 + 1, 8, none⟩ (.int .i64 q5)).setCell ⟨w.heap.size + 1 + 1, 9, none⟩ (.int .i64 q6)).setCell ⟨w.heap.size + 1 + 1, 10, none⟩ (.int .i64 q7)).setCell ⟨w.heap.size + 1 + 1, 11, none⟩ (.slice none 0 0)) = W5 at *
      have HP := Lib.hid (kparts_any (bv := .slice ba K.l.length bcap) NP hk5 rW5 (by omega) (by omega) hok5 hok3)
      have H5 := Lib.hid (And.intro rd4 (And.intro rd5 (And.intro rdY hO5)))
      clear hW5 rW5 rd4 rd5 rdY hk5 hO5 H4 HR6
      have hall3 := Hall2.out
      simp only [Int.toNat_natCast] at hall3
      generalize hpr : partsR K.l hF NP NP 0 0 uend 1 = PR at *
      have hperr : ∀ er, PR.1 = .error er → er.code ≠ 0 := fun er h => by have := partsR_err (l := K.l) (F := hF) (parts := NP) NP 0 0 uend 1 (by rw [hpr]; exact h); unfold ErrOk at this; omega
      have helen : ∀ es cs fs, PR.1 = .ok (es, cs, fs) → es.length = NP := fun es cs fs h => (partsR_fits HK.out.r8 NP 0 0 uend 1 (x := (es, cs, fs)) HUe.out.1 HUe.out.2 (by rw [hpr]; exact h)).2
      have Helen := Lib.hid helen
      clear helen
      obtain ⟨pr, p2, n2⟩ := PR
      have Hall3 := Lib.hid hall3
      have Hperr := Lib.hid hperr
      clear hall3 Hall2 hperr hpr
      go_at_call 42
      refine HP.out.mono ?_
      rintro e w6 hP
      unfold KPartsP at hP
      simp only at hP
      obtain ⟨hq6, hk6, pv, cv, fv, hA6, ⟨pa, pn, pcap, rfl⟩, ⟨va, vn, vcap, rfl⟩, ⟨fa, fn, fcap, rfl⟩, hP⟩ := hP
      obtain ⟨rd4, rd5, rdY, hO5⟩ := H5.out
      have hRA : ∀ g ∈ [R, w.heap.size + 1 + 1], g = R ∨ g = w.heap.size + 1 + 1 := fun g hg => by simpa using hg
      have re4 := hq6.rowAt rd4 (by simp; omega)
      have re5 := hq6.rowAt rd5 (by simp; omega)
      have reY := hq6.rowAt rdY (by simp; omega)
      have hO6 : Only [R] w w6 := hO5.trans hq6 (fun g h _ => h) (fun g hg hlt => by rcases hRA g hg with h | h; rw [h]; simp; omega)
      have hz6 := hq6.size
      clear rd4 rd5 rdY hO5 hq6
      cases pr with
      | error er =>
        have Hfin : Hid (allX K.l = (2, .error er, p2, n2)) := Lib.hid (by rw [Hall3.out]; rfl)
        have hcb : (er.code == 0) = false := by rw [beq_eq_false_iff_ne]; exact Hperr.out er rfl
        obtain ⟨sa, scap, rfl, hsv⟩ := hP
        obtain ⟨y0, y1, yf0, yf1, _⟩ := row2 reY
        simp only
        obtain ⟨hn1, hn2, hn3⟩ : (¬ w.heap.size = w1.heap.size + 1) ∧ (¬ w.heap.size + 1 = w1.heap.size + 1) ∧ (¬ w1.heap.size + 1 = w.heap.size + 1 + 1) := ⟨by omega, by omega, by omega⟩
        have HRe := Lib.hid (And.intro re4 (And.intro re5 (And.intro hA6 (And.intro hk6 (And.intro hO6 hsv)))))
        have HReY := Lib.hid reY
        clear re4 re5 reY hA6 hk6 hO6 hsv
        go_wp2_with fail
        generalize hW7 : World.setCell _ _ _ = W7
        obtain ⟨c0, c1, o7, rY7⟩ := set2r HReY.out hW7
        have r74 := o7.rowAt HRe.out.1 (by simp; omega)
        have r75 := o7.rowAt HRe.out.2.1 (by simp; omega)
        have r7A := o7.rowAt HRe.out.2.2.1 (by simp; omega)
        have hk7 := HRe.out.2.2.2.1.only o7 (fun g hg => by rw [List.mem_singleton] at hg; omega)
        have hO7 : Only [R] w W7 := HRe.out.2.2.2.2.1.tail1 o7 (by omega)
        have hsv7 := HRe.out.2.2.2.2.2.tail1 o7 (.inr (by omega))
        clear hW7 y0 y1 yf0 yf1 o7
        go_at_call 20
        refine (ok_any _ _ _).mono ?_
        rintro e w8 ⟨rfl, hq8⟩
        rw [hcb]
        have HRow := Lib.hid (And.intro (hq8.row r74) (And.intro (hq8.row r75) (And.intro (hq8.row r7A) (hq8.row rY7))))
        have hk8 := hk7.quiet hq8
        have hO8 : Only [R] w w8 := hO7.trans hq8 (fun g h _ => h) (by simp)
        have hsv8 := hsv7.only hq8 (by simp)
        have H8 := Lib.hid (And.intro hk8 (And.intro hO8 hsv8))
        clear r74 r75 r7A rY7 hk7 hO7 hsv7 hq8 hk8 hO8 hsv8 c0 c1
        obtain ⟨⟨m0, m1, m2, m3, m4, m5, m6⟩, m7, m8, m9, m10, m11, m12, m13⟩ := cells14 HRow.out.2.2.1
        obtain ⟨⟨n0, n1, n2, n3, n4, n5, n6⟩, n7, n8, n9, n10, n11, n12, n13⟩ := cells14 HRow.out.1
        obtain ⟨⟨k0, k1, k2, k3, k4, k5, k6⟩, k7, k8, k9, k10, k11, k12, k13⟩ := frz14 HRow.out.1
        obtain ⟨b0, b1, bf0, bf1, _⟩ := row2 HRow.out.2.1
        obtain ⟨x0, x1, _, _, _⟩ := row2 HRow.out.2.2.2
        go_wp2_with fail
        go_region
        go_wp2_with fail
        generalize hWf : World.setCell _ _ _ = Wf
        obtain ⟨rf, ⟨s0, s1⟩, oF⟩ := set16r HRow.out.1 HRow.out.2.1 (by omega) hWf
        obtain ⟨⟨t0, t1, t2, t3, t4, t5, t6⟩, t7, t8, t9, t10, t11, t12, t13⟩ := cells14 rf
        refine bodyPost_ret (v := .tuple #[.agg #[.int .i64 hW, .int .i64 hH, .int .i64 hF, .int .i64 q0, .int .i64 q1, .int .i64 q2, .int .i64 q3, .int .i64 q4, .int .i64 q5, .int .i64 q6, .int .i64 q7, .slice pa pn pcap, .slice va vn vcap, .slice fa fn fcap], .agg #[.int .i64 er.code, .slice sa er.path.length scap]]) (by simp [results, Tryz.results19, go_sem, t0, t1, t2, t3, t4, t5, t6, t7, t8, t9, t10, t11, t12, t13, s0, s1]) rfl (HPost.out _ _ ?_)
        unfold KAllP
        rw [Hfin.out]
        exact ⟨(H8.out.2.1.tail2 oF (by omega) (by omega)).drew, (H8.out.1.tail2 oF (by omega) (by omega)).drew, _, _, _, _, _, _, _, _, _, _, _, _, _, _, _, _, _, _, _, _, sa, scap, rfl, (H8.out.2.2.tail2 oF (by omega) (by omega)).only (Only.refl [] _).drew (by simp)⟩
      | ok x =>
        obtain ⟨es, cs, fs⟩ := x
        obtain ⟨rfl, hoe, hoc, hof, -, -, -⟩ := hP
        have hel := Helen.out es cs fs rfl
        obtain rfl : pn = es.length := by obtain ⟨_, a, cap, h, _⟩ := Cells.of_own hoe; injection h
        have hall4 : allX K.l = closeX K.l ⟨hW, hH, hF, ⟨q0, q1, q2, q3, q4, q5, q6, q7⟩, NP⟩ es cs fs p2 n2 := by rw [Hall3.out]; rfl
        have Hall4 := Lib.hid hall4
        exact absurd HTag.out (by rw [hall4]; have := closeX_tag K.l ⟨hW, hH, hF, ⟨q0, q1, q2, q3, q4, q5, q6, q7⟩, NP⟩ es cs fs p2 n2; omega)
    · have Hfin : Hid (allX K.l = (6, .error ⟨[], 2⟩, 0, 0)) := Lib.hid (by rw [Hallu.out, if_neg hhu])
      exact absurd HTag.out (by rw [Hfin.out]; show ¬ ((6 : Nat) = 2); decide)
#print axioms kall_1
#print axioms kall_6
#print axioms kall_2
end Go.Proofs.YtmbjehnddgcboaaGreatDoor
