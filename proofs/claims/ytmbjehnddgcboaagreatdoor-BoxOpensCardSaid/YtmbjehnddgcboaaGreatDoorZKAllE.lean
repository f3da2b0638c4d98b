/- Joined texts: KAllE. Conditions: each part names its own. -/
import Derived.Test.YtmbjehnddgcboaaGreatDoorZKAllX
/- The document's container, read whole: the ways out 7. Conditions: the reader lies in a block behind its units, at their beginning. -/
namespace Go.Proofs.YtmbjehnddgcboaaGreatDoor
open Go.RowKit
set_option linter.unusedVariables false
set_option linter.unusedSimpArgs false
set_option maxRecDepth 100000 in
set_option maxHeartbeats 16000000 in
theorem kall_7 {K : KS} {R lo hi : Nat} {bv : Value} {w : World} (h : KRd K R w 0 0) (hb : Ints .u8 lo hi w bv K.l) (hR : R < lo ∨ hi ≤ R) (hhi2 : hi ≤ w.heap.size) (htag : (allX K.l).1 = 7) :
    Calls Tryz.prog 19 #[.pointer (some ⟨R, 0, none⟩), bv] w (KAllP K R w (allX K.l).2) := by
  suffices key : ∀ Q : Ending → World → Prop, Hid (∀ e w', KAllP K R w (allX K.l).2 e w' → Q e w') → Calls Tryz.prog 19 #[.pointer (some ⟨R, 0, none⟩), bv] w Q from key _ (Lib.hid fun _ _ h => h)
  intro Q HPost
  have HTag := Lib.hid htag
  clear htag
  have hRl := h.lt
  have hhi := h.hiR
  have HK := Lib.hid h
  have HB := Lib.hid hb
  have hsmall := Lib.hid h.small
  obtain ⟨ba, bcap, rfl, hbc, hbm, hbat, -⟩ := hb.open
  have Hbat := Lib.hid hbat
  have Hbc := Lib.hid hbc
  have hbcm : (bcap : Int) ≤ 9223372036854775807 := by unfold maxLen at hbm; omega
  clear hbat
  have hO : ∀ o o' o'', Only [] w (((w.alloc o).alloc o').alloc o'') := fun o o' o'' => ((Only.new _ _).q (Only.new _ _)).q (Only.new _ _)
  have HO := Lib.hid hO
  have HT := Lib.hid (fun o o' o'' => ktake_any (h.quiet (hO o o' o'')))
  have HA4 : Hid ((((w.alloc zAll).alloc zErr).alloc zAll).heap[w.heap.size]? = some zAll) := Lib.hid (by rw [Below.heap_alloc _ _ _ (by simp; omega), Below.heap_alloc _ _ _ (by simp)]; exact heap_alloc_new _ _)
  have HA5 : Hid ((((w.alloc zAll).alloc zErr).alloc zAll).heap[w.heap.size + 1]? = some zErr) := Lib.hid (by rw [Below.heap_alloc _ _ _ (by simp)]; exact heap_alloc_new' (by simp))
  have HA6 : Hid ((((w.alloc zAll).alloc zErr).alloc zAll).heap[w.heap.size + 1 + 1]? = some zAll) := Lib.hid (heap_alloc_new' (by simp))
  have hall : allX K.l = match (headR K.l 0 0).1 with
    | .error e => (tagH K.l, (.error e, (headR K.l 0 0).2))
    | .ok h => bodyX K.l h (partsR K.l h.F h.parts h.parts.toNat 0 0 (headR K.l 0 0).2.1 (headR K.l 0 0).2.2) := rfl
  rw [headR_peek] at hall
  unfold tagH at hall
  have Hall := Lib.hid hall
  clear h hb hO hall hbm
  cases hpk : peekR K.l 0 with
  | error er =>
    have Hfin : Hid (allX K.l = (1, .error er, 0, 0)) := Lib.hid (by rw [Hall.out, hpk])
    have hne := kpeekR_err hpk
    have hcb : (er.code == 0) = false := by rw [beq_eq_false_iff_ne]; exact hne.1
    have Hpk := Lib.hid hpk
    clear hpk hne Hall
    exact absurd HTag.out (by rw [Hfin.out]; show ¬ ((1 : Nat) = 7); decide)
  | ok u =>
    obtain ⟨uk, ud, uat, uend⟩ := u
    have hpo := peekR_ok hpk HK.out.ple HK.out.r8
    have hdr := peekR_in hpk HK.out.r8
    simp only at hpo hdr
    obtain ⟨huat, hue, hule, huk0, huk1, hud⟩ := hpo
    have hudl : ud.length ≤ 1000000000000 := by have := hsmall.out; omega
    have Hudl := Lib.hid hudl
    have Hdr := Lib.hid hdr
    have Hpk := Lib.hid hpk
    rw [hpk] at Hall
    have hallu : allX K.l = match ((if headU uk ud then (Except.ok (headD ud), uend, 0 + 1) else (.error ⟨[], 2⟩, 0, 0)) : (Except Err HeadD) × Nat × Nat).1 with
      | .error e => (6, (.error e, ((if headU uk ud then (Except.ok (headD ud), uend, 0 + 1) else (.error ⟨[], 2⟩, 0, 0)) : (Except Err HeadD) × Nat × Nat).2))
      | .ok h => bodyX K.l h (partsR K.l h.F h.parts h.parts.toNat 0 0 ((if headU uk ud then (Except.ok (headD ud), uend, 0 + 1) else (.error ⟨[], 2⟩, 0, 0)) : (Except Err HeadD) × Nat × Nat).2.1 ((if headU uk ud then (Except.ok (headD ud), uend, 0 + 1) else (.error ⟨[], 2⟩, 0, 0)) : (Except Err HeadD) × Nat × Nat).2.2) := Hall.out
    have Hallu := Lib.hid hallu
    have HUe := Lib.hid (And.intro hule (show 1 ≤ uend by omega))
    clear hpk huat hue hule huk0 huk1 hud Hall hallu hudl hdr
    go_enter Tryz.func19, Tryz.ntmps19
    go_wp2_with fail
    go_at_call 40
    refine (HT.out _ _ _).mono ?_
    rintro e w1 hP
    unfold KTakeP at hP
    rw [Hpk.out] at hP
    obtain ⟨hq1, dv, rfl, hdv, hk1⟩ := hP
    obtain ⟨da, dcap, rfl, _⟩ := hdv.open
    have r4 := hq1.rowAt HA4.out (by simp; omega)
    have r5 := hq1.rowAt HA5.out (by simp; omega)
    have r6 := hq1.rowAt HA6.out (by simp; omega)
    have hz1 : w.heap.size + 3 ≤ w1.heap.size := by have := hq1.size; simp at this; omega
    have HDv := Lib.hid hdv
    have HK1 := Lib.hid hk1
    have HQ1 := Lib.hid hq1
    clear hdv hk1 hq1
    simp only
    go_wp2_with fail
    go_at_call 20
    refine (ok_any _ _ _).mono ?_
    rintro e w2 ⟨rfl, hq2⟩
    simp only [BEq.rfl]
    have hqA := ((Only.new w1 (.cells #[.int .i64 uk, .slice da ud.length dcap, .int .i64 uat, .int .i64 uend] 106)).q (Only.new _ zErr)).q hq2
    have rX := hq2.row ((Only.new _ zErr).row (heap_alloc_new w1 (.cells #[.int .i64 uk, .slice da ud.length dcap, .int .i64 uat, .int .i64 uend] 106)))
    have rY := hq2.row (heap_alloc_new' (w := w1.alloc (.cells #[.int .i64 uk, .slice da ud.length dcap, .int .i64 uat, .int .i64 uend] 106)) (o := zErr) (g := w1.heap.size + 1) (by simp))
    obtain ⟨x0, x1, x2, x3⟩ := row4_cells rX
    have HRa := Lib.hid (And.intro (hqA.row r4) (And.intro (hqA.row r5) (And.intro (hqA.row r6) rY)))
    have HKa := Lib.hid (HK1.out.quiet hqA)
    have HDa := Lib.hid (HDv.out.quiet hqA)
    have hOa : Only [R] w w2 := (((HO.out zAll zErr zAll).mono (U := [R]) (by simp)).trans HQ1.out (fun g h _ => h) (fun g h _ => h)).trans hqA (fun g h _ => h) (by simp)
    have HOa := Lib.hid hOa
    have hz2 : w1.heap.size + 2 ≤ w2.heap.size := by have := hq2.size; simp at this; omega
    clear r4 r5 r6 rX rY hq2 hqA hOa
    go_wp2_with fail
    go_at_call 41
    refine (khead_any HDa.out Hudl.out).mono ?_
    rintro e w3 hP
    obtain ⟨hq3, hP⟩ := hP
    obtain ⟨ra4, ra5, ra6, raY⟩ := HRa.out
    have rb4 := hq3.row ra4
    have rb5 := hq3.row ra5
    have rb6 := hq3.row ra6
    have rbY := hq3.row raY
    have hk3 := HKa.out.quiet hq3
    have hO3 : Only [R] w w3 := HOa.out.trans hq3 (fun g h _ => h) (by simp)
    have hz3 := hq3.size
    clear hq3 ra4 ra5 ra6 raY
    rcases hP with ⟨hhu, rfl⟩ | ⟨hhu, hW, hH, hF, cc, nn, rfl⟩
    · have hall2 : allX K.l = bodyX K.l (headD ud) (partsR K.l (headD ud).F (headD ud).parts (headD ud).parts.toNat 0 0 uend 1) := by rw [Hallu.out, if_pos hhu]
      have hok := hhu.2.2
      have Hall2 := Lib.hid hall2
      clear hall2 Hallu hhu
      generalize headD ud = hd at *
      obtain ⟨hok1, hok2, hok3, hok4, hok5, hok6⟩ := hok
      obtain ⟨hW, hH, hF, ⟨q0, q1, q2, q3, q4, q5, q6, q7⟩, np⟩ := hd
      simp only at hok2 hok3 hok4 hok5
      clear hok1 hok6
      obtain ⟨NP, rfl⟩ := Int.eq_ofNat_of_zero_le (by omega : 0 ≤ np)
      unfold infoV
      simp only
      have hqN := Only.new w3 (.cells #[.int .i64 hW, .int .i64 hH, .int .i64 hF, .int .i64 q0, .int .i64 q1, .int .i64 q2, .int .i64 q3, .int .i64 q4, .int .i64 q5, .int .i64 q6, .int .i64 q7, .slice none 0 0] 34)
      have rG := heap_alloc_new w3 (.cells #[.int .i64 hW, .int .i64 hH, .int .i64 hF, .int .i64 q0, .int .i64 q1, .int .i64 q2, .int .i64 q3, .int .i64 q4, .int .i64 q5, .int .i64 q6, .int .i64 q7, .slice none 0 0] 34)
      have rc4 := hqN.row rb4
      have rc5 := hqN.row rb5
      have rc6 := hqN.row rb6
      have rcY := hqN.row rbY
      have hk4 := hk3.quiet hqN
      have hO4 : Only [R] w (w3.alloc (.cells #[.int .i64 hW, .int .i64 hH, .int .i64 hF, .int .i64 q0, .int .i64 q1, .int .i64 q2, .int .i64 q3, .int .i64 q4, .int .i64 q5, .int .i64 q6, .int .i64 q7, .slice none 0 0] 34)) := hO3.trans hqN (fun g h _ => h) (by simp)
      obtain ⟨⟨g0, g1, g2, g3, g4, g5⟩, g6, g7, g8, g9, g10, g11⟩ := cells12 rG
      obtain ⟨⟨m0, m1, m2, m3, m4, m5, m6⟩, m7, m8, m9, m10, m11, m12, m13⟩ := cells14 rc6
      obtain ⟨⟨k0, k1, k2, k3, k4, k5, k6⟩, k7, k8, k9, k10, k11, k12, k13⟩ := frz14 rc6
      have H4 := Lib.hid (And.intro rc4 (And.intro rc5 (And.intro rcY (And.intro hk4 hO4))))
      have HR6 := Lib.hid rc6
      clear rb4 rb5 rb6 rbY hk3 hO3 rG rc4 rc5 rc6 rcY hk4 hO4 hqN
      go_wp2_with fail
      have oW5 : Only [w.heap.size + 1 + 1] (w3.alloc (.cells #[.int .i64 hW, .int .i64 hH, .int .i64 hF, .int .i64 q0, .int .i64 q1, .int .i64 q2, .int .i64 q3, .int .i64 q4, .int .i64 q5, .int .i64 q6, .int .i64 q7, .slice none 0 0] 34)) (((((((((((((w3.alloc (.cells #[.int .i64 hW, .int .i64 hH, .int .i64 hF, .int .i64 q0, .int .i64 q1, .int .i64 q2, .int .i64 q3, .int .i64 q4, .int .i64 q5, .int .i64 q6, .int .i64 q7, .slice none 0 0] 34)).setCell ⟨w.heap.size + 1 + 1, 0, none⟩ (.int .i64 hW)).setCell ⟨w.heap.size + 1 + 1, 1, none⟩ (.int .i64 hH)).setCell ⟨w.heap.size + 1 + 1, 2, none⟩ (.int .i64 hF)).setCell ⟨w.heap.size + 1 + 1, 3, none⟩ (.int .i64 q0)).setCell ⟨w.heap.size + 1 + 1, 4, none⟩ (.int .i64 q1)).setCell ⟨w.heap.size + 1 + 1, 5, none⟩ (.int .i64 q2)).setCell ⟨w.heap.size + 1 + 1, 6, none⟩ (.int .i64 q3)).setCell ⟨w.heap.size + 1 + 1, 7, none⟩ (.int .i64 q4)).setCell ⟨w.heap.size + 1 + 1, 8, none⟩ (.int .i64 q5)).setCell ⟨w.heap.size + 1 + 1, 9, none⟩ (.int .i64 q6)).setCell ⟨w.heap.size + 1 + 1, 10, none⟩ (.int .i64 q7)).setCell ⟨w.heap.size + 1 + 1, 11, none⟩ (.slice none 0 0)) := only12
      have rW5 : (((((((((((((w3.alloc (.cells #[.int .i64 hW, .int .i64 hH, .int .i64 hF, .int .i64 q0, .int .i64 q1, .int .i64 q2, .int .i64 q3, .int .i64 q4, .int .i64 q5, .int .i64 q6, .int .i64 q7, .slice none 0 0] 34)).setCell ⟨w.heap.size + 1 + 1, 0, none⟩ (.int .i64 hW)).setCell ⟨w.heap.size + 1 + 1, 1, none⟩ (.int .i64 hH)).setCell ⟨w.heap.size + 1 + 1, 2, none⟩ (.int .i64 hF)).setCell ⟨w.heap.size + 1 + 1, 3, none⟩ (.int .i64 q0)).setCell ⟨w.heap.size + 1 + 1, 4, none⟩ (.int .i64 q1)).setCell ⟨w.heap.size + 1 + 1, 5, none⟩ (.int .i64 q2)).setCell ⟨w.heap.size + 1 + 1, 6, none⟩ (.int .i64 q3)).setCell ⟨w.heap.size + 1 + 1, 7, none⟩ (.int .i64 q4)).setCell ⟨w.heap.size + 1 + 1, 8, none⟩ (.int .i64 q5)).setCell ⟨w.heap.size + 1 + 1, 9, none⟩ (.int .i64 q6)).setCell ⟨w.heap.size + 1 + 1, 10, none⟩ (.int .i64 q7)).setCell ⟨w.heap.size + 1 + 1, 11, none⟩ (.slice none 0 0)).heap[w.heap.size + 1 + 1]? = some (.cells #[.int .i64 hW, .int .i64 hH, .int .i64 hF, .int .i64 q0, .int .i64 q1, .int .i64 q2, .int .i64 q3, .int .i64 q4, .int .i64 q5, .int .i64 q6, .int .i64 q7, .slice none 0 0, .slice none 0 0, .slice none 0 0] 38 (0, 0)) := row14h HR6.out
      obtain ⟨rc4, rc5, rcY, hk4, hO4⟩ := H4.out
      have rd4 := oW5.rowAt rc4 (by simp; omega)
      have rd5 := oW5.rowAt rc5 (by simp)
      have rdY := oW5.rowAt rcY (by simp; omega)
      have hk5 := hk4.only oW5 (fun g hg => by rw [List.mem_singleton] at hg; omega)
      have hO5 := hO4.tail1 oW5 (by omega)
      have hz5 := oW5.size
      have hz4 : w3.heap.size + 1 = (w3.alloc (.cells #[.int .i64 hW, .int .i64 hH, .int .i64 hF, .int .i64 q0, .int .i64 q1, .int .i64 q2, .int .i64 q3, .int .i64 q4, .int .i64 q5, .int .i64 q6, .int .i64 q7, .slice none 0 0] 34)).heap.size := by simp
      clear rc4 rc5 rcY hk4 hO4 oW5 m0 m1 m2 m3 m4 m5 m6 m7 m8 m9 m10 m11 m12 m13 k0 k1 k2 k3 k4 k5 k6 k7 k8 k9 k10 k11 k12 k13 g0 g1 g2 g3 g4 g5 g6 g7 g8 g9 g10 g11
      generalize hW5 : (((((((((((((w3.alloc (.cells #[.int .i64 hW, .int .i64 hH, .int .i64 hF, .int .i64 q0, .int .i64 q1, .int .i64 q2, .int .i64 q3, .int .i64 q4, .int .i64 q5, .int .i64 q6, .int .i64 q7, .slice none 0 0] 34)).setCell ⟨w.heap.size + 1 + 1, 0, none⟩ (.int .i64 hW)).setCell ⟨w.heap.size + 1 + 1, 1, none⟩ (.int .i64 hH)).setCell ⟨w.heap.size + 1 + 1, 2, none⟩ (.int .i64 hF)).setCell ⟨w.heap.size + 1 + 1, 3, none⟩ (.int .i64 q0)).setCell ⟨w.heap.size + 1 + 1, 4, none⟩ (.int .i64 q1)).setCell ⟨w.heap.size + 1 + 1, 5, none⟩ (.int .i64 q2)).setCell ⟨w.heap.size + 1 + 1, 6, none⟩ (.int .i64 q3)).setCell ⟨w.heap.size + 1 + 1, 7, none⟩ (.int .i64 q4)).setCell ⟨w.heap.size + 1 + 1, 8, none⟩ (.int .i64 q5)).setCell ⟨w.heap.size + 1 + 1, 9, none⟩ (.int .i64 q6)).setCell ⟨w.heap.size + 1 + 1, 10, none⟩ (.int .i64 q7)).setCell ⟨w.heap.size + 1 + 1, 11, none⟩ (.slice none 0 0)) = W5 at *
      have HP := Lib.hid (kparts_any (bv := .slice ba K.l.length bcap) NP hk5 rW5 (by omega) (by omega) hok5 hok3)
      have H5 := Lib.hid (And.intro rd4 (And.intro rd5 (And.intro rdY hO5)))
      clear hW5 rW5 rd4 rd5 rdY hk5 hO5 H4 HR6
      have hall3 := Hall2.out
      simp only [Int.toNat_natCast] at hall3
      generalize hpr : partsR K.l hF NP NP 0 0 uend 1 = PR at *
      have hperr : ∀ er, PR.1 = .error er → er.code ≠ 0 := fun er h => by have := partsR_err (l := K.l) (F := hF) (parts := NP) NP 0 0 uend 1 (by rw [hpr]; exact h); unfold ErrOk at this; omega
      have helen : ∀ es cs fs, PR.1 = .ok (es, cs, fs) → es.length = NP := fun es cs fs h => (partsR_fits HK.out.r8 NP 0 0 uend 1 (x := (es, cs, fs)) HUe.out.1 HUe.out.2 (by rw [hpr]; exact h)).2
      have Helen := Lib.hid helen
      clear helen
      obtain ⟨pr, p2, n2⟩ := PR
      have Hall3 := Lib.hid hall3
      have Hperr := Lib.hid hperr
      clear hall3 Hall2 hperr hpr
      go_at_call 42
      refine HP.out.mono ?_
      rintro e w6 hP
      unfold KPartsP at hP
      simp only at hP
      obtain ⟨hq6, hk6, pv, cv, fv, hA6, ⟨pa, pn, pcap, rfl⟩, ⟨va, vn, vcap, rfl⟩, ⟨fa, fn, fcap, rfl⟩, hP⟩ := hP
      obtain ⟨rd4, rd5, rdY, hO5⟩ := H5.out
      have hRA : ∀ g ∈ [R, w.heap.size + 1 + 1], g = R ∨ g = w.heap.size + 1 + 1 := fun g hg => by simpa using hg
      have re4 := hq6.rowAt rd4 (by simp; omega)
      have re5 := hq6.rowAt rd5 (by simp; omega)
      have reY := hq6.rowAt rdY (by simp; omega)
      have hO6 : Only [R] w w6 := hO5.trans hq6 (fun g h _ => h) (fun g hg hlt => by rcases hRA g hg with h | h; rw [h]; simp; omega)
      have hz6 := hq6.size
      clear rd4 rd5 rdY hO5 hq6
      cases pr with
      | error er =>
        have Hfin : Hid (allX K.l = (2, .error er, p2, n2)) := Lib.hid (by rw [Hall3.out]; rfl)
        exact absurd HTag.out (by rw [Hfin.out]; show ¬ ((2 : Nat) = 7); decide)
      | ok x =>
        obtain ⟨es, cs, fs⟩ := x
        obtain ⟨rfl, hoe, hoc, hof, -, -, -⟩ := hP
        have hel := Helen.out es cs fs rfl
        obtain rfl : pn = es.length := by obtain ⟨_, a, cap, h, _⟩ := Cells.of_own hoe; injection h
        have hall4 : allX K.l = closeX K.l ⟨hW, hH, hF, ⟨q0, q1, q2, q3, q4, q5, q6, q7⟩, NP⟩ es cs fs p2 n2 := by rw [Hall3.out]; rfl
        have Hall4 := Lib.hid hall4
        obtain ⟨y0, y1, yf0, yf1, _⟩ := row2 reY
        simp only
        obtain ⟨hn1, hn2, hn3⟩ : (¬ w.heap.size = w1.heap.size + 1) ∧ (¬ w.heap.size + 1 = w1.heap.size + 1) ∧ (¬ w1.heap.size + 1 = w.heap.size + 1 + 1) := ⟨by omega, by omega, by omega⟩
        have HRe := Lib.hid (And.intro re4 (And.intro re5 (And.intro hA6 (And.intro hk6 (And.intro hO6 (And.intro hoe (And.intro hoc hof)))))))
        have HReY := Lib.hid reY
        clear re4 re5 reY hA6 hk6 hO6 hoe hoc hof hall4
        go_wp2_with fail
        generalize hW7 : World.setCell _ _ _ = W7
        obtain ⟨c0, c1, o7, rY7⟩ := set2r HReY.out hW7
        have r74 := o7.rowAt HRe.out.1 (by simp; omega)
        have r75 := o7.rowAt HRe.out.2.1 (by simp; omega)
        have r7A := o7.rowAt HRe.out.2.2.1 (by simp; omega)
        have hY1 : ∀ g ∈ [w1.heap.size + 1], g = w1.heap.size + 1 := fun g hg => List.mem_singleton.1 hg
        have hk7 := HRe.out.2.2.2.1.only o7 (fun g hg => by rw [hY1 g hg]; omega)
        have hO7 : Only [R] w W7 := HRe.out.2.2.2.2.1.tail1 o7 (by omega)
        have hoe7 : OwnE W5.heap.size W7 (.slice pa es.length pcap) es := HRe.out.2.2.2.2.2.1.only o7 (fun g hg => by rw [hY1 g hg]; exact fun e => by have := (HRe.out.2.2.2.2.2.1.lt _ e).1; omega)
        have hoc7 := HRe.out.2.2.2.2.2.2.1.only o7 (fun g hg => by rw [hY1 g hg]; exact ⟨by omega, fun e => by have := (HRe.out.2.2.2.2.2.2.1.at _ e).1; omega⟩)
        have hof7 := HRe.out.2.2.2.2.2.2.2.only o7 (fun g hg => by rw [hY1 g hg]; exact fun e => by have := (HRe.out.2.2.2.2.2.2.2.at _ e).1; omega)
        have hz7 := o7.size
        clear hW7 y0 y1 yf0 yf1 o7 hY1
        go_at_call 20
        refine (ok_any _ _ _).mono ?_
        rintro e w8 ⟨rfl, hq8⟩
        simp only [BEq.rfl]
        have HRow := Lib.hid (And.intro (hq8.row r74) (And.intro (hq8.row r75) (And.intro (hq8.row r7A) (hq8.row rY7))))
        have hO8 : Only [R] w w8 := hO7.trans hq8 (fun g h _ => h) (by simp)
        have hoe8 : OwnE W5.heap.size w8 (.slice pa es.length pcap) es := owns_only hoe7 hq8 (by simp)
        have H8 := Lib.hid (And.intro (hk7.quiet hq8) (And.intro hO8 (And.intro hoe8 (And.intro (hoc7.quiet hq8) (hof7.quiet hq8)))))
        have hz8 := hq8.size
        have hz78 : W5.heap.size ≤ w8.heap.size := by omega
        clear r74 r75 r7A rY7 hk7 hO7 hoe7 hoc7 hof7 hq8 hO8 c0 c1 hoe8
        have cP8 := AllAt.cP HRow.out.2.2.1
        obtain ⟨_, ecap, hev, _, _, hent⟩ := H8.out.2.2.1.entries.open
        have Hent := Lib.hid hent
        obtain ⟨rfl, rfl⟩ : pa = _ ∧ pcap = ecap := by injection hev with h1 h2 h3; exact ⟨h1, h3⟩
        clear hent hev
        have hel16 : (es.length : Int) ≤ 16 := by omega
        have Hel := Lib.hid hel
        clear hel
        go_wp2_with fail
        go_loopw [13, 12] (fun i x wr => ∃ k : Nat, k ≤ es.length ∧ i = .int .i64 k ∧ Own .u8 5 w8.heap.size wr x (indexB (es.take k)) ∧ Only [] w8 wr) (fun i _ _ => es.length - (intOf i).toNat)
        case atStart => exact ⟨0, by omega, rfl, Own.nil _ _ _ _, Only.refl _ _⟩
        case round =>
          obtain ⟨k, hk, rfl, hown, hq⟩ := hrel
          obtain ⟨xa, xcap, hxv, -⟩ := hown.ints.open
          subst hxv
          have hbx := indexB_length (es.take k)
          by_cases hlt : k < es.length
          · -- <S
            have hlti : (k : Int) < (es.length : Int) := by omega
            have hk0 : (0 : Int) ≤ (k : Int) := by omega
            have hltN : (k : Int) < (NP : Int) := by have := Hel.out; omega
            have hnext := indexB_take hlt
            obtain ⟨eb, eoff, rfl, _, _, z0, z1, z2, z3⟩ := Hent.out k hlt
            have z0 := hq.cell z0 (by simp)
            have z1 := hq.cell z1 (by simp)
            have z2 := hq.cell z2 (by simp)
            have z3 := hq.cell z3 (by simp)
            have cP := hq.cell cP8 (by simp)
            generalize es.getD k default = en at *
            obtain ⟨ef, ec, eo, el⟩ := en
            simp only at z0 z1 z2 z3
            rw [show entryB ⟨ef, ec, eo, el⟩ = [ef % 256, ec % 256] ++ be eo 4 ++ be el 4 by simp [entryB]] at hnext
            have Hnext := Lib.hid hnext
            have htl : (es.take k).length = k := by rw [List.length_take]; omega
            generalize indexB (es.take k) = idx at *
            have hbl : idx.length ≤ 160 := by omega
            have hwf : IntKind.u8.wrap ef = ef % 256 := by simp [IntKind.wrap, IntKind.bits, IntKind.signed]
            have hwc : IntKind.u8.wrap ec = ec % 256 := by simp [IntKind.wrap, IntKind.bits, IntKind.signed]
            have HB1 : Hid ((idx.length + [ef % 256, ec % 256].length) * 1 ≤ 140737488355328) := Lib.hid (by simp; omega)
            have HB2 : Hid (((idx ++ [ef % 256, ec % 256]).length + (be eo 4).length) * 1 ≤ 140737488355328) := Lib.hid (by simp [be_length]; omega)
            have HB3 : Hid (((idx ++ [ef % 256, ec % 256] ++ be eo 4).length + (be el 4).length) * 1 ≤ 140737488355328) := Lib.hid (by simp [be_length]; omega)
            have HSrc := Lib.hid (ints_newG (k := .u8) (w := wr.alloc (.cells #[.int .i64 ef, .int .i64 ec, .int .i64 eo, .int .i64 el] 59)) (t := 5) (l := [ef % 256, ec % 256]) (g := wr.heap.size + 1) rfl (by simp [maxLen]) (by simp only [List.mem_cons, List.not_mem_nil, or_false, forall_eq_or_imp, forall_eq, InK]; omega) 2 rfl (by simp))
            have hqE := (Only.new wr (.cells #[.int .i64 ef, .int .i64 ec, .int .i64 eo, .int .i64 el] 59)).q (Only.new _ (.cells #[.int .u8 (ef % 256), .int .u8 (ec % 256)] 5))
            have HIdx := Lib.hid (hown.quiet hqE)
            have HQE := Lib.hid hqE
            have rE0 := (Only.new _ (.cells #[.int .u8 (ef % 256), .int .u8 (ec % 256)] 5)).row (heap_alloc_new wr (.cells #[.int .i64 ef, .int .i64 ec, .int .i64 eo, .int .i64 el] 59))
            have HRE0 := Lib.hid rE0
            have hzq := hq.size
            have hzE : w8.heap.size ≤ ((wr.alloc (.cells #[.int .i64 ef, .int .i64 ec, .int .i64 eo, .int .i64 el] 59)).alloc (.cells #[.int .u8 (ef % 256), .int .u8 (ec % 256)] 5)).heap.size := by have := hqE.size; omega
            have Hat := Lib.hid hown.at
            have HOwn := Lib.hid hown
            have HQ := Lib.hid hq
            clear hown hq hqE rE0 hnext hbx htl
            go_wp2_with (first
              | (at_builtin; refine wpList_append_ints rfl (.tmp 67) (.tmp 74) 22 rfl E8 HIdx.out rfl HSrc.out rfl HB1.out hzE (fun v9 w9 hown9 hacc9 => ?_); have rE9 := hacc9.only.rowAt HRE0.out (fun hm => by have := (Hat.out wr.heap.size (by simpa using hm)).2; omega); obtain ⟨p0, p1, p2', p3⟩ := row4_cells rE9; have HRE9 := Lib.hid rE9; have HO9 := Lib.hid hown9; have HA9 := Lib.hid hacc9; clear hown9 hacc9 rE9)
              | fail)
            have hz9 := HA9.out.only.size
            go_at_call 43
            refine (number4_any _ _).mono ?_
            rintro e w10 ⟨rfl, hn10, hq10⟩
            have hz10 := hq10.size
            have hz10b : w8.heap.size ≤ w10.heap.size := by omega
            have rE10 := hq10.row HRE9.out
            have hat10 : ∀ g, v9.ownBlock = some g → g ≠ wr.heap.size := fun g hg e => by
              rcases HA9.out.at_ with h | h
              · rw [h] at hg; have := (Hat.out g hg).2; omega
              · have := h g hg; simp at this; omega
            have Hat10 := Lib.hid hat10
            have HRE10 := Lib.hid rE10
            clear p0 p1 p2' p3 rE10 hat10
            go_wp2_with (first
              | (at_builtin; refine wpList_append_ints rfl (.tmp 76) (.tmp 79) 22 rfl E8 (HO9.out.quiet hq10) rfl hn10.ints rfl HB2.out hz10b (fun v11 w11 hown11 hacc11 => ?_); have rE11 := hacc11.only.rowAt HRE10.out (fun hm => Hat10.out _ (by simpa using hm) rfl); obtain ⟨p0, p1, p2', p3⟩ := row4_cells rE11; have HO11 := Lib.hid hown11; have HA11 := Lib.hid hacc11; clear hown11 hacc11 rE11)
              | fail)
            have hz11 := HA11.out.only.size
            go_at_call 43
            refine (number4_any _ _).mono ?_
            rintro e w12 ⟨rfl, hn12, hq12⟩
            have hz12 := hq12.size
            have hz12b : w8.heap.size ≤ w12.heap.size := by omega
            clear p0 p1 p2' p3
            go_wp2_with (first
              | (at_builtin; refine wpList_append_ints rfl (.tmp 81) (.tmp 84) 22 rfl E8 (HO11.out.quiet hq12) rfl hn12.ints rfl HB3.out hz12b (fun v13 w13 hown13 hacc13 => ?_); have HO13 := Lib.hid hown13; have HA13 := Lib.hid hacc13; clear hown13 hacc13)
              | fail)
            go_roundw
            case rel =>
              have hA : Acc (.slice xa idx.length xcap) wr v13 w13 := (((((Acc.quiet HQE.out).trans HA9.out).then hq10).trans HA11.out).then hq12).trans HA13.out
              refine ⟨k + 1, by omega, by go_num, ?_, HQ.out.acc hA (fun g hg => (Hat.out g hg).1)⟩
              rw [Hnext.out]
              simpa only [List.append_assoc] using HO13.out
            case measure => simp [intOf]; omega
          · obtain rfl : k = es.length := by omega
            rw [List.take_length] at hown hbx
            have hx : ¬ ((es.length : Nat) : Int) < (NP : Int) := by have := Hel.out; omega
            rw [List.take_length]
            have HRowB := Lib.hid (And.intro (hq.row HRow.out.1) (And.intro (hq.row HRow.out.2.1) (And.intro (hq.row HRow.out.2.2.1) (hq.row HRow.out.2.2.2))))
            have hkr := H8.out.1.quiet hq
            have hOr : Only [R] w wr := H8.out.2.1.trans hq (fun g h _ => h) (by simp)
            have Hkat := Lib.hid (kat_any (.slice ba K.l.length bcap) hkr)
            have HEx := Lib.hid (fun nq => kexact_any (w := wr.drewN nq) 18 (hkr.quiet ((Only.refl [] wr).drewN nq)) (hown.ints.quiet ((Only.refl [] wr).drewN nq)) (.inl (by omega)))
            have HOr := Lib.hid hOr
            have HQr := Lib.hid hq
            have hzr := hq.size
            clear hown hbx hq hkr hOr cP8
            go_wp2_with fail
            go_at_call 44
            refine Hkat.out.mono ?_
            rintro e w' ⟨rfl, nq, rfl⟩
            go_wp2_with fail
            go_at_call 45
            refine (HEx.out nq).mono ?_
            rintro e w9 hP
            unfold KExactP at hP
            have hall5 := Hall4.out
            unfold closeX at hall5
            have hxerr : ∀ e, (exactR K.l p2 n2 18 (indexB es)).1 = some e → e.code ≠ 0 := fun e h => by have := exactR_err h; unfold ErrOk at this; omega
            have hxn : (exactR K.l p2 n2 18 (indexB es)).1 = none → 0 < (exactR K.l p2 n2 18 (indexB es)).2.2 := fun h => by
              rw [exactR_peek] at h ⊢
              split at h
              · cases h
              · split at h
                · rename_i hc; rw [if_pos hc]; simp
                · cases h
            generalize hX1 : exactR K.l p2 n2 18 (indexB es) = X1 at *
            obtain ⟨x1, p3, n3⟩ := X1
            simp only at hP hall5 hxerr hxn
            obtain ⟨hq9, hk9, sa, scap, rfl, hsv9⟩ := hP
            have hQ9 : Only [R] wr w9 := (((Only.refl [] wr).drewN nq).mono (U := [R]) (by simp)).trans hq9 (fun g h _ => h) (fun g h _ => h)
            have HRowA := Lib.hid (And.intro (hQ9.rowAt HRowB.out.1 (by simp; omega)) (And.intro (hQ9.rowAt HRowB.out.2.1 (by simp; omega)) (And.intro (hQ9.rowAt HRowB.out.2.2.1 (by simp; omega)) (hQ9.rowAt HRowB.out.2.2.2 (by simp; omega)))))
            have H9 := Lib.hid (And.intro hk9 (And.intro hsv9 hQ9))
            have hz9 := hQ9.size
            have Hall5 := Lib.hid hall5
            have Hxerr := Lib.hid hxerr
            have Hxn := Lib.hid hxn
            obtain ⟨y0, y1, yf0, yf1, _⟩ := row2 HRowA.out.2.2.2
            clear hq9 hk9 hsv9 hQ9 hall5 hxerr hxn hX1 HRowB
            cases x1 with
            | some er =>
              have Hfin : Hid (allX K.l = (3, .error er, p3, n3)) := Lib.hid Hall5.out
              have hcb : (er.code == 0) = false := by rw [beq_eq_false_iff_ne]; exact Hxerr.out er rfl
              simp only [codeE, pathE]
              exact absurd HTag.out (by rw [Hfin.out]; show ¬ ((3 : Nat) = 7); decide)
            | none =>
              simp only [codeE, pathE]
              go_wp2_with fail
              generalize hWE : World.setCell _ _ _ = WE
              obtain ⟨cc0, cc1, oE, rYE⟩ := set2r HRowA.out.2.2.2 hWE
              have hYE : ∀ g ∈ [w1.heap.size + 1], g = w1.heap.size + 1 := fun g hg => List.mem_singleton.1 hg
              have rs4 := oE.rowAt HRowA.out.1 (by simp; omega)
              have rs5 := oE.rowAt HRowA.out.2.1 (by simp; omega)
              have rsA := oE.rowAt HRowA.out.2.2.1 (by simp; omega)
              have HSE := Lib.hid (And.intro rs4 (And.intro rs5 (And.intro rsA rYE)))
              have HOE := Lib.hid oE
              have hzE := oE.size
              clear hWE rs4 rs5 rsA rYE oE
              go_at_call 20
              refine (ok_any _ _ _).mono ?_
              rintro e wE' ⟨rfl, hqE⟩
              simp only [BEq.rfl]
              have HRow2 := Lib.hid (And.intro (hqE.row HSE.out.1) (And.intro (hqE.row HSE.out.2.1) (And.intro (hqE.row HSE.out.2.2.1) (hqE.row HSE.out.2.2.2))))
              have HQE := Lib.hid hqE
              have hzE' := hqE.size
              clear hqE cc0 cc1
              have hOe : Only [R] w wE' := ((HOr.out.trans H9.out.2.2 (fun g h _ => h) (fun g h _ => h)).tail1 HOE.out (by omega)).trans HQE.out (fun g h _ => h) (by simp)
              have hke := (H9.out.1.only HOE.out (fun g hg => by rw [hYE g hg]; omega)).quiet HQE.out
              have HOe := Lib.hid hOe
              have HKe := Lib.hid hke
              have HRowE := HRow2
              have hp3 := hke.ple
              clear hOe hke HRow2
              go_wp2_with fail
              go_at_call 43
              refine (number4_any _ _).mono ?_
              rintro e w10 ⟨rfl, hn10, hq10⟩
              have hk10 := HKe.out.quiet hq10
              have hO10 : Only [R] w w10 := HOe.out.trans hq10 (fun g h _ => h) (by simp)
              have hz10 := hq10.size
              have HK10 := Lib.hid hk10
              have HN10 := Lib.hid hn10
              have HQ10 := Lib.hid hq10
              obtain ⟨bb, boff, hba, _, _⟩ := Hbat.out 0 (by have := HUe.out.1; have := HUe.out.2; omega)
              have Hba := Lib.hid hba
              have hIb : Ints .u8 lo hi w10 (.slice (some ⟨bb, boff, none⟩) K.l.length bcap) K.l := by
                have := HB.out.only hO10 (by intro g hg; rw [List.mem_singleton] at hg; subst hg; exact hR)
                rwa [hba] at this
              have hsl : ∀ W, (Instr.slice 22 (.slice ba K.l.length bcap) none (some (.int .i64 p3)) none).run Tryz.prog W = .ok (.slice ba p3 bcap) W := by
                rw [Hba.out]; exact (slice_upto hIb Hbc.out hp3 rfl).1
              have hI3 : Ints .u8 lo hi w10 (.slice ba p3 bcap) (K.l.take p3) := by
                rw [Hba.out]; exact (slice_upto hIb Hbc.out hp3 rfl).2
              have hcl := crc_lt _ hI3.2
              have HS3 := Lib.hid (fun nq => ksum_any (hI3.quiet ((Only.refl [] w10).drewN nq)))
              have hp3i : (p3 : Int) ≤ (K.l.length : Int) := by omega
              have hp30 : (0 : Int) ≤ (p3 : Int) := by omega
              clear hk10 hO10 hn10 hq10 hba hIb hI3
              have Htl : Hid (tailB (K.l.take p3) p2 = be p2 4 ++ be (crc (K.l.take p3) : Nat) 4) := Lib.hid rfl
              generalize hC : crc (K.l.take p3) = C at *
              have HC := Lib.hid hC
              have hwC : IntKind.i64.wrap (C : Int) = C := by rw [IntKind.wrap_i64]; omega
              clear hC hcl
              go_wp2_with fail
              go_at_call 47
              refine (kat2_any (.slice ba K.l.length bcap) HK10.out (by first | exact Hxn.out rfl | exact Hxn.out trivial)).mono ?_
              rintro e w' ⟨rfl, nq2, rfl⟩
              go_wp2_with fail
              go_at_call 46
              refine (HS3.out nq2).mono ?_
              rintro e w' ⟨rfl, rfl⟩
              go_wp2_with fail
              go_at_call 43
              refine (number4_any _ _).mono ?_
              rintro e w12 ⟨rfl, hn12, hq12⟩
              have hqm := ((Only.refl [] w10).drewN nq2).q hq12
              have hz12 := hqm.size
              have HO10 := Lib.hid (HN10.out.quiet hqm)
              have HBt : Hid (((be (p2 : Int) 4).length + (be (C : Int) 4).length) * 1 ≤ 140737488355328) := Lib.hid (by simp [be_length])
              have hz12b : wE'.heap.size ≤ w12.heap.size := by omega
              have HQm := Lib.hid hqm
              have HN12 := Lib.hid hn12
              clear hn12 hq12 hqm
              simp only
              go_wp2_with (first
                | (at_builtin; refine wpList_append_ints rfl (.tmp 100) (.tmp 108) 22 rfl E8 HO10.out rfl HN12.out.ints rfl HBt.out hz12b (fun v13 w13 hown13 hacc13 => ?_); have HO13 := Lib.hid hown13; have HA13 := Lib.hid hacc13; clear hown13 hacc13)
                | fail)
              go_at_call 45
              have hat10 : ∀ g ∈ (Value.slice (some ⟨wE'.heap.size, 0, none⟩) 4 4).ownBlock.toList, g = wE'.heap.size := fun g hg => by simp [Value.ownBlock] at hg; omega
              have hk13 := (HK10.out.quiet HQm.out).only HA13.out.only (fun g hg => by rw [hat10 g hg]; omega)
              have hO13 : Only [R] w w13 := ((HOe.out.trans HQ10.out (fun g h _ => h) (by simp)).trans HQm.out (fun g h _ => h) (by simp)).trans HA13.out.only (fun g h _ => h) (fun g hg hlt => by rw [hat10 g hg] at hlt; omega)
              have HRowX := Lib.hid (And.intro (HA13.out.only.rowAt (HQm.out.row (HQ10.out.row HRowE.out.1)) (fun hm => by have := hat10 _ hm; omega)) (And.intro (HA13.out.only.rowAt (HQm.out.row (HQ10.out.row HRowE.out.2.1)) (fun hm => by have := hat10 _ hm; omega)) (And.intro (HA13.out.only.rowAt (HQm.out.row (HQ10.out.row HRowE.out.2.2.1)) (fun hm => by have := hat10 _ hm; omega)) (HA13.out.only.rowAt (HQm.out.row (HQ10.out.row HRowE.out.2.2.2)) (fun hm => by have := hat10 _ hm; omega)))))
              have hdat : Ints .u8 wE'.heap.size w13.heap.size w13 v13 (tailB (K.l.take p3) p2) := by rw [Htl.out]; exact HO13.out.ints
              refine (kexact_any 19 hk13 hdat (.inl (by omega))).mono ?_
              rintro e w14 hP
              unfold KExactP at hP
              have hall6 := Hall5.out
              have hxerr2 : ∀ e, (exactR K.l p3 n3 19 (tailB (K.l.take p3) p2)).1 = some e → e.code ≠ 0 := fun e h => by have := exactR_err h; unfold ErrOk at this; omega
              generalize hX2 : exactR K.l p3 n3 19 (tailB (K.l.take p3) p2) = X2 at *
              obtain ⟨x2, p4, n4⟩ := X2
              simp only at hP hall6 hxerr2
              obtain ⟨hq14, hk14, sb, sbcap, rfl, hsv14⟩ := hP
              have hz13 := HA13.out.only.size
              have hz14 := hq14.size
              have HRowA := Lib.hid (And.intro (hq14.rowAt HRowX.out.1 (by simp; omega)) (And.intro (hq14.rowAt HRowX.out.2.1 (by simp; omega)) (And.intro (hq14.rowAt HRowX.out.2.2.1 (by simp; omega)) (hq14.rowAt HRowX.out.2.2.2 (by simp; omega)))))
              have H14 := Lib.hid (And.intro hk14 (And.intro hsv14 (And.intro (hO13.trans hq14 (fun g h _ => h) (fun g h _ => h)) hq14)))
              have Hall6 := Lib.hid hall6
              have Hxerr2 := Lib.hid hxerr2
              obtain ⟨y0, y1, yf0, yf1, _⟩ := row2 HRowA.out.2.2.2
              clear hq14 hk14 hsv14 hall6 hxerr2 hX2 HRowX hdat hk13 hO13 hat10
              cases x2 with
              | some er =>
                have Hfin : Hid (allX K.l = (4, .error er, p4, n4)) := Lib.hid Hall6.out
                have hcb : (er.code == 0) = false := by rw [beq_eq_false_iff_ne]; exact Hxerr2.out er rfl
                exact absurd HTag.out (by rw [Hfin.out]; show ¬ ((4 : Nat) = 7); decide)
              | none =>
                simp only [codeE, pathE]
                go_wp2_with fail
                generalize hWF : World.setCell _ _ _ = WF
                obtain ⟨cc0, cc1, oF, rYF⟩ := set2r HRowA.out.2.2.2 hWF
                have hYF : ∀ g ∈ [w1.heap.size + 1], g = w1.heap.size + 1 := fun g hg => List.mem_singleton.1 hg
                have rs4 := oF.rowAt HRowA.out.1 (by simp; omega)
                have rs5 := oF.rowAt HRowA.out.2.1 (by simp; omega)
                have rsA := oF.rowAt HRowA.out.2.2.1 (by simp; omega)
                have HSF := Lib.hid (And.intro rs4 (And.intro rs5 (And.intro rsA rYF)))
                have HOF := Lib.hid oF
                have hzF := oF.size
                clear hWF rs4 rs5 rsA rYF oF
                go_at_call 20
                refine (ok_any _ _ _).mono ?_
                rintro e wF' ⟨rfl, hqF⟩
                simp only [BEq.rfl]
                have HRow2 := Lib.hid (And.intro (hqF.row HSF.out.1) (And.intro (hqF.row HSF.out.2.1) (And.intro (hqF.row HSF.out.2.2.1) (hqF.row HSF.out.2.2.2))))
                have HQF := Lib.hid hqF
                have hzF' := hqF.size
                clear hqF cc0 cc1
                have hOf : Only [R] w wF' := (H14.out.2.2.1.tail1 HOF.out (by omega)).trans HQF.out (fun g h _ => h) (by simp)
                have hkf := (H14.out.1.only HOF.out (fun g hg => by rw [hYF g hg]; omega)).quiet HQF.out
                have hat10 : ∀ g ∈ (Value.slice (some ⟨wE'.heap.size, 0, none⟩) 4 4).ownBlock.toList, g = wE'.heap.size := fun g hg => by simp [Value.ownBlock] at hg; omega
                have hT : Only [R, w1.heap.size + 1, wE'.heap.size] w8 wF' :=
                  ((((((HQr.out.trans H9.out.2.2 (U := [R, w1.heap.size + 1, wE'.heap.size]) (by simp) (fun g h _ => by simp at h ⊢; exact .inl h)).trans HOE.out (fun g h _ => h) (fun g h _ => by rw [hYE g h]; simp)).trans HQE.out (fun g h _ => h) (by simp)).trans (HQ10.out.q HQm.out) (fun g h _ => h) (by simp)).trans HA13.out.only (fun g h _ => h) (fun g h _ => by rw [hat10 g h]; simp)).trans H14.out.2.2.2 (fun g h _ => h) (fun g h _ => by simp at h ⊢; exact .inl h)).trans (HOF.out.trans HQF.out (fun g h _ => h) (by simp)) (fun g h _ => h) (fun g h _ => by rw [hYF g h]; simp)
                have HT := Lib.hid hT
                have HOf := Lib.hid hOf
                have HKf := Lib.hid hkf
                have Hend := Lib.hid (kend_any hkf.drew)
                have hbA : (w.heap.size = w.heap.size + 1 + 1) = False := eq_false (by omega)
                have hbB : (w.heap.size + 1 = w.heap.size + 1 + 1) = False := eq_false (by omega)
                clear hT hOf hkf hat10
                have hall7 := Hall6.out
                have hee : ∀ e, endR K.l p4 = some e → e.code ≠ 0 := fun e h => by have := endR_err h; unfold ErrOk at this; omega
                go_wp2_with fail
                cases hE : endR K.l p4 with
                | some er =>
                  rw [hE] at Hend hall7
                  have Hfin : Hid (allX K.l = (5, .error er, p4, n4)) := Lib.hid hall7
                  exact absurd HTag.out (by rw [Hfin.out]; show ¬ ((5 : Nat) = 7); decide)
                | none =>
                  rw [hE] at Hend hall7
                  have Hfin : Hid (allX K.l = (7, .ok ⟨⟨hW, hH, hF, ⟨q0, q1, q2, q3, q4, q5, q6, q7⟩, NP⟩, es, cs, fs⟩, p4, n4)) := Lib.hid hall7
                  clear hall7 hee hE hsl hwC hp3i hp30 y0 y1 yf0 yf1
                  have HB1 : Hid (w.heap.size + 2 ≤ W5.heap.size ∧ w1.heap.size + 1 < W5.heap.size ∧ w8.heap.size ≤ wE'.heap.size ∧ w.heap.size ≤ w1.heap.size ∧ W5.heap.size ≤ w8.heap.size) := Lib.hid ⟨by omega, by omega, by omega, by omega, by omega⟩
                  try clear hz1
                  try clear hz2
                  try clear hz3
                  try clear hz4
                  try clear hz5
                  try clear hz6
                  try clear hz7
                  try clear hz8
                  try clear hz78
                  try clear hzr
                  try clear hz9
                  try clear hzE
                  try clear hzE'
                  try clear hz10
                  try clear hz12
                  try clear hz12b
                  try clear hz13
                  try clear hz14
                  try clear hzF
                  try clear hzF'
                  try clear hn1
                  try clear hn2
                  try clear hn3
                  try clear hbcm
                  try clear hel16
                  try clear hp3
                  try clear hok2
                  try clear hok3
                  try clear hok4
                  try clear hok5
                  try clear hx
                  try clear hlt
                  try clear hk
                  try clear hbA
                  try clear hbB
                  try clear hRA
                  try clear hY
                  try clear hYE
                  try clear hYF
                  try clear y0
                  try clear y1
                  try clear yf0
                  try clear yf1
                  try clear hC
                  try clear hwC
                  refine wp_region_noPanic ?_
                  refine wp_region_held_drew (S := fun w' => w'.heap[w.heap.size + 1 + 1]? = some (.cells #[.int .i64 hW, .int .i64 hH, .int .i64 hF, .int .i64 q0, .int .i64 q1, .int .i64 q2, .int .i64 q3, .int .i64 q4, .int .i64 q5, .int .i64 q6, .int .i64 q7, .slice pa es.length pcap, .slice va vn vcap, .slice fa fn fcap] 38 (0, 0))) (by kernel_rfl) ?_ (fun hHeld => ?_)
                  · exact HRow2.out.2.2.1
                  refine wpAnyH_take (i := 0) (oi := ⟨some 116, _, _, _, _, _⟩) (v := ?_) rfl (by kernel_rfl) (by kernel_rfl) (by kernel_rfl) (fun _ _ _ h => h) (Or.inl ⟨by rfl, ?_⟩) (by assumption) ?_
                  rotate_left
                  · (intro wz hSw; (try dsimp only at hSw); obtain ⟨⟨m0, m1, m2, m3, m4, m5, m6⟩, m7, m8, m9, m10, m11, m12, m13⟩ := cells14 hSw; clear hSw; go_simp; try with_reducible rfl)
                  try simp only [Act.put, List.setIfInBounds_toArray, List.set_cons_zero, List.set_cons_succ]
                  refine wpAnyH_take (i := 1) (oi := ⟨some 117, _, _, _, _, _⟩) (v := ?_) rfl (by kernel_rfl) (by kernel_rfl) (by kernel_rfl) (fun _ _ _ h => h) (Or.inl ⟨by rfl, ?_⟩) (by assumption) ?_
                  rotate_left
                  · (intro wz hSw; (try dsimp only at hSw); go_simp; try with_reducible rfl)
                  try simp only [Act.put, List.setIfInBounds_toArray, List.set_cons_zero, List.set_cons_succ]
                  refine wpAnyH_ready (rs := [2]) (by kernel_rfl) (by simp) (AllReadyH.cons (o := ⟨some 118, _, _, _, _, _⟩) rfl (fun K hK => ?_) AllReadyH.nil)
                  go_simp
                  go_at_call 48
                  refine Hend.out.mono ?_
                  rintro e w15 hP
                  unfold KEndP at hP
                  simp only [codeE, pathE] at hP
                  obtain ⟨hqf, sc, sccap, rfl, hsc⟩ := hP
                  have Hsc := Lib.hid hsc
                  have rd4 := ((Only.refl [] wF').drew.q hqf).row HRow2.out.1
                  have rd5 := ((Only.refl [] wF').drew.q hqf).row HRow2.out.2.1
                  have rd6 := ((Only.refl [] wF').drew.q hqf).row HRow2.out.2.2.1
                  refine hK.out _ _ rd6 (fun hHeld2 => ?_)
                  clear hK K hsc hHeld
                  try simp only [Act.put, List.setIfInBounds_toArray, List.set_cons_zero, List.set_cons_succ]
                  obtain ⟨⟨n0, n1, n2', n3', n4', n5, n6⟩, n7, n8, n9, n10, n11, n12, n13⟩ := cells14 rd4
                  obtain ⟨⟨k0, k1, k2, k3, k4, k5, k6⟩, k7, k8, k9, k10, k11, k12, k13⟩ := frz14 rd4
                  have HR4 := Lib.hid (And.intro rd4 (And.intro rd5 rd6))
                  clear rd4 rd5 rd6
                  refine wpAnyH_ready (rs := [3]) (by kernel_rfl) (by simp) (AllReadyH.cons (o := ⟨none, _, _, _, _, _⟩) rfl (fun K hK => ?_) AllReadyH.nil)
                  go_simp
                  refine hK.out _ _ (only14.rowAt HR4.out.2.2 (by simp; omega)) (fun hHeld3 => ?_)
                  clear hK K n0 n1 n2' n3' n4' n5 n6 n7 n8 n9 n10 n11 n12 n13 k0 k1 k2 k3 k4 k5 k6 k7 k8 k9 k10 k11 k12 k13 hHeld2
                  try simp only [Act.put, List.setIfInBounds_toArray, List.set_cons_zero, List.set_cons_succ]
                  have o15 := only14 (w := w15) (g := w.heap.size) (v0 := .int .i64 hW) (v1 := .int .i64 hH) (v2 := .int .i64 hF) (v3 := .int .i64 q0) (v4 := .int .i64 q1) (v5 := .int .i64 q2) (v6 := .int .i64 q3) (v7 := .int .i64 q4) (v8 := .int .i64 q5) (v9 := .int .i64 q6) (v10 := .int .i64 q7) (v11 := .slice pa es.length pcap) (v12 := .slice va vn vcap) (v13 := .slice fa fn fcap)
                  obtain ⟨b0, b1, bf0, bf1, _⟩ := row2 (o15.rowAt HR4.out.2.1 (by simp))
                  clear o15
                  refine wpAnyH_ready (rs := [4]) (by kernel_rfl) (by simp) (AllReadyH.cons (o := ⟨none, _, _, _, _, _⟩) rfl (fun K hK => ?_) AllReadyH.nil)
                  go_simp
                  refine hK.out _ _ ((((Only.refl [w.heap.size + 1] _).setCell (by simp) _).setCell (by simp) _).rowAt hHeld3 (by simp)) (fun hHeld4 => ?_)
                  clear hK K hHeld3 hHeld4
                  try simp only [Act.put, List.setIfInBounds_toArray, List.set_cons_zero, List.set_cons_succ]
                  refine wpAnyH_done (by kernel_rfl) ?_ _
                  refine NoPanic.normal ?_
                  obtain ⟨rd4, rd5, -⟩ := HR4.out
                  all_goals
                    go_wp2_with fail
                    generalize hWf : World.setCell _ _ _ = Wf
                    obtain ⟨rf, ⟨s0, s1⟩, oF⟩ := set16r rd4 rd5 (by omega) hWf
                    obtain ⟨⟨t0, t1, t2, t3, t4, t5, t6⟩, t7, t8, t9, t10, t11, t12, t13⟩ := cells14 rf
                    refine bodyPost_ret (v := .tuple #[.agg #[.int .i64 hW, .int .i64 hH, .int .i64 hF, .int .i64 q0, .int .i64 q1, .int .i64 q2, .int .i64 q3, .int .i64 q4, .int .i64 q5, .int .i64 q6, .int .i64 q7, .slice pa es.length pcap, .slice va vn vcap, .slice fa fn fcap], .agg #[.int .i64 0, .slice sc 0 sccap]]) (by simp [results, Tryz.results19, go_sem, t0, t1, t2, t3, t4, t5, t6, t7, t8, t9, t10, t11, t12, t13, s0, s1]) rfl (HPost.out _ _ ?_)
                    unfold KAllP
                    rw [Hfin.out]
                    have hq15 := (Only.refl [] wF').drew.q hqf
                    have hO15 : Only [R] w w15 := HOf.out.trans hq15 (fun g h _ => h) (by simp)
                    have hk15 := HKf.out.quiet hq15
                    obtain ⟨zb1, zb2, zb3, zb4, zb5⟩ := HB1.out
                    have hTw : Only [R, w1.heap.size + 1, wE'.heap.size] w8 w15 := HT.out.trans hq15 (fun g h _ => h) (by simp)
                    have hmem : ∀ g ∈ [R, w1.heap.size + 1, wE'.heap.size], g = R ∨ g = w1.heap.size + 1 ∨ g = wE'.heap.size := fun g hg => by simpa using hg
                    have hmem2 : ∀ g ∈ [w.heap.size, w.heap.size + 1], g = w.heap.size ∨ g = w.heap.size + 1 := fun g hg => by simpa using hg
                    have hne : ∀ g ∈ [R, w1.heap.size + 1, wE'.heap.size], W5.heap.size ≤ g → ¬ g < w8.heap.size := fun g hg h1 => by rcases hmem g hg with h | h | h <;> omega
                    have hne2 : ∀ g ∈ [w.heap.size, w.heap.size + 1], ¬ W5.heap.size ≤ g := fun g hg => by rcases hmem2 g hg with h | h <;> omega
                    have hhi2 : ∀ g ∈ [R, w1.heap.size + 1, wE'.heap.size], K.hi ≤ g := fun g hg => by rcases hmem g hg with h | h | h <;> omega
                    have hhi3 : ∀ g ∈ [w.heap.size, w.heap.size + 1], K.hi ≤ g := fun g hg => by rcases hmem2 g hg with h | h <;> omega
                    obtain ⟨_, _, hoe8, hoc8, hof8⟩ := H8.out
                    refine ⟨hO15.tail2 oF (by omega) (by omega), hk15.tail2 oF (by omega) (by omega), _, _, _, sc, sccap, rfl, by obtain ⟨_, a, c, e, _, hm, _⟩ := Hsc.out; cases e; exact hm, ?_, ?_, ?_⟩
                    · exact owns_base (owns_only (owns_only hoe8 hTw (fun g hg e => hne g hg (hoe8.lt g e).1 (hoe8.lt g e).2)) oF (fun g hg e => hne2 g hg (hoe8.lt g e).1)) (by omega)
                    · exact ((hoc8.only hTw (fun g hg => ⟨hhi2 g hg, fun e => hne g hg (hoc8.at g e).1 (hoc8.at g e).2⟩)).only oF (fun g hg => ⟨hhi3 g hg, fun e => hne2 g hg (hoc8.at g e).1⟩)).lower (by omega) (by omega)
                    · exact ((hof8.only hTw (fun g hg e => hne g hg (hof8.at g e).1 (hof8.at g e).2)).only oF (fun g hg e => hne2 g hg (hof8.at g e).1)).lower (by omega)
    · have Hfin : Hid (allX K.l = (6, .error ⟨[], 2⟩, 0, 0)) := Lib.hid (by rw [Hallu.out, if_neg hhu])
      exact absurd HTag.out (by rw [Hfin.out]; show ¬ ((6 : Nat) = 7); decide)
#print axioms kall_7
end Go.Proofs.YtmbjehnddgcboaaGreatDoor
