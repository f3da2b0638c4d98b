/- Joined texts: DLeans. Conditions: each part names its own. -/
import Derived.Test.YthgpgbdkcdmbpaaGreatDoorZDKFrs
import Derived.Test.YthgpgbdkcdmbpaaGreatDoorZDLeansL
import Derived.Test.YthgpgbdkcdmbpaaGreatDoorZDTotal
import Derived.Deep.DeepCutAuto
/- The law kinlaw21.DecodeLeans answers true. Conditions: the arguments read; errors.errorType holds error's type. -/
namespace Go.Proofs.YthgpgbdkcdmbpaaGreatDoor
open Go.RowKit
set_option linter.unusedVariables false
set_option linter.unusedSimpArgs false

theorem CodedsAt.data {lo hi : Nat} {w : World} {v : Value} {l : List Coded} (h : CodedsAt lo hi w v l) : ∀ c ∈ l, ∀ x ∈ c.data, InK .u8 x := by
  intro c hc
  obtain ⟨i, hi, rfl⟩ := List.mem_iff_getElem.1 hc
  obtain ⟨f, _, h2⟩ := h
  have := (h2 i hi).2.2.2
  rw [List.getD_eq_getElem?_getD, List.getElem?_eq_getElem hi] at this
  exact this
set_option maxRecDepth 100000 in
set_option maxHeartbeats 16000000 in
theorem dleans_any {v pv : Value} {w : World} {l : List Coded} {prev : FrameD} (hl : CodedsAt 0 w.heap.size w v l) (hp : Ints .i64 0 w.heap.size w pv prev.pix) {at0 : Int} (hat : InK .i64 at0) (W H : Int) (hE : ErrT w) :
    Calls Tryz.prog 5 #[v, .agg #[.int .i64 prev.W, .int .i64 prev.H, pv], .int .i64 at0, .int .i64 W, .int .i64 H] w fun e w' => (e = .returned (.bool true) ∧ Only [] w w') := by
  suffices key : ∀ Q : Ending → World → Prop, Hid (∀ e w', (e = .returned (.bool true) ∧ Only [] w w') → Q e w') → Calls Tryz.prog 5 #[v, .agg #[.int .i64 prev.W, .int .i64 prev.H, pv], .int .i64 at0, .int .i64 W, .int .i64 H] w Q from key _ (Lib.hid fun _ _ h => h)
  intro Q HPost
  obtain ⟨a, cap, rfl, hcap, hmax, hel⟩ := hl.open
  have Hel := Lib.hid hel
  have hll : (l.length : Int) ≤ 9223372036854775807 := by unfold maxLen at hmax; omega
  obtain ⟨pa, pcap, rfl, -⟩ := hp.open
  have hq1 := Only.new w (.cells #[.int .i64 prev.W, .int .i64 prev.H, .slice pa prev.pix.length pcap] 27)
  have HB0 : Hid ((w.alloc (.cells #[.int .i64 prev.W, .int .i64 prev.H, .slice pa prev.pix.length pcap] 27)).heap[w.heap.size]? = some (.cells #[.int .i64 prev.W, .int .i64 prev.H, .slice pa prev.pix.length pcap] 27 (0, 0))) := Lib.hid (heap_alloc_new w _)
  have HQ1 := Lib.hid hq1
  have HL := Lib.hid hl
  have HP := Lib.hid hp
  have HE := Lib.hid hE
  have HDt := Lib.hid hl.data
  have Hcap := Lib.hid hcap
  have Hat := Lib.hid hat
  clear hl hp hE hq1 hmax hcap hel hat
  go_enter Tryz.func5, Tryz.ntmps5
  go_wp2_with fail
  generalize hW1 : World.alloc w _ = W1 at *
  clear hW1
  go_at_call 9
  refine (dfirst_any W1 (HE.out.quiet HQ1.out)).mono ?_
  rintro e W2 ⟨rfl, hq2⟩
  have HQ2 := Lib.hid (HQ1.out.q hq2)
  have HB2 := Lib.hid (hq2.row HB0.out)
  obtain ⟨p0, p1, p2⟩ := frame_cells HB2.out
  clear hq2
  go_wp2_with fail
  clear p0 p1 p2
  have hf1 := frames_one (W := W2) (f := prev) (B := W2.heap.size) rfl (HP.out.quiet HQ2.out)
  have hn3 := Only.new W2 (.cells #[.int .i64 prev.W, .int .i64 prev.H, .slice pa prev.pix.length pcap] 27)
  have HFew := Lib.hid (dfew_any (HL.out.quiet (HQ2.out.q hn3)) hf1)
  have HQ3 := Lib.hid (HQ2.out.q hn3)
  have HB3 := Lib.hid (hn3.row HB2.out)
  clear hf1 hn3
  generalize hW3 : World.alloc W2 _ = W3 at *
  clear hW3
  go_at_call 10
  refine HFew.out.mono ?_
  rintro e w' ⟨rfl, rfl⟩
  have HGo : Hid (∀ W5, Only [] w W5 → Calls Tryz.prog 9 #[] W5 fun e w' => e = .returned (.bool true) ∧ Only [] W5 w') := Lib.hid (fun W5 o => dfirst_any W5 (HE.out.quiet o))
  cases hfew : fewB l && pixB [prev] with
  | false =>
    clear hfew
    go_wp2_with fail
    go_at_call 9
    refine (HGo.out W3 HQ3.out).mono ?_
    rintro e W4 ⟨rfl, hq4⟩
    have HQ4 := Lib.hid (HQ3.out.q hq4)
    clear hq4
    go_wp2_with fail
    exact HPost.out _ _ ⟨rfl, HQ4.out⟩
  | true =>
    have hl40 : l.length ≤ 40 := few_len (by rw [Bool.and_eq_true] at hfew; exact hfew.1)
    clear hfew
    by_cases hl0 : l.length = 0
    · have hl0i : ((l.length : Nat) : Int) = 0 := by omega
      have hl0b : (((l.length : Nat) : Int) == 0) = true := by rw [beq_iff_eq]; omega
      clear hl0
      go_wp2_with fail
      go_at_call 9
      refine (HGo.out W3 HQ3.out).mono ?_
      rintro e W4 ⟨rfl, hq4⟩
      have HQ4 := Lib.hid (HQ3.out.q hq4)
      clear hq4
      go_wp2_with fail
      exact HPost.out _ _ ⟨rfl, HQ4.out⟩
    · have hl0b : (((l.length : Nat) : Int) == 0) = false := by rw [beq_eq_false_iff_ne]; omega
      have hl0c : ¬ (l.length : Int) = 0 := by omega
      have hl1 : 0 < l.length := by omega
      obtain ⟨cb, coff, dv0, rfl, -⟩ := Hel.out 0 hl1
      have HI : Hid (∀ A : Int, 0 ≤ A → ∃ M : Nat, M < l.length ∧ A.tmod (l.length : Int) = (M : Int) ∧ IntKind.i64.wrap (M : Int) = (M : Int)) := Lib.hid (fun A hA => by
        obtain ⟨A, rfl⟩ := Int.eq_ofNat_of_zero_le hA
        refine ⟨A % l.length, Nat.mod_lt _ hl1, by rw [Int.ofNat_tmod], ?_⟩
        have := Nat.mod_lt A hl1
        rw [IntKind.wrap_i64]; omega)
      clear hl0
      go_upto_if 34 with (fail)
      go_cut [2] (fun s2 wx => ∃ A : Int, 0 ≤ A ∧ s2 = .int .i64 A ∧ W3 = wx)
      case first =>
        by_cases hneg : at0 < 0
        · have hat := Hat.out
          simp only [InK] at hat
          have n1 : IntKind.i64.wrap (at0 + 1) = at0 + 1 := by rw [IntKind.wrap_i64]; omega
          have n2 : IntKind.i64.wrap (-(at0 + 1)) = -(at0 + 1) := by rw [IntKind.wrap_i64]; omega
          clear hat
          go_wp2_with fail
          go_meet
          exact ⟨_, by omega, rfl, rfl⟩
        · go_wp2_with fail
          go_meet
          exact ⟨at0, by omega, rfl, rfl⟩
      case rest =>
        obtain ⟨A, hA, rfl, rfl⟩ := hcut
        obtain ⟨M, hM, hM1, hM2⟩ := HI.out A hA
        clear hA
        go_wp2_with fail
        clear hM1 hM2
        go_at_call 15
        refine (frames_any W H (HL.out.quiet HQ3.out)).mono ?_
        rintro e W4 ⟨hq4, hm⟩
        have HQ4 := Lib.hid (HQ3.out.q hq4)
        have HB4 := Lib.hid (hq4.row HB3.out)
        clear hq4
        cases hfr : framesD l W H with
        | error er =>
          rw [hfr] at hm
          obtain ⟨ev, rfl, hev⟩ := hm
          obtain ⟨et, eu, rfl⟩ := hev.held
          clear hfr hev
          go_wp2_with fail
          go_at_call 9
          refine (HGo.out W4 HQ4.out).mono ?_
          rintro e W5 ⟨rfl, hq5⟩
          have HQ5 := Lib.hid (HQ4.out.q hq5)
          clear hq5
          go_wp2_with fail
          exact HPost.out _ _ ⟨rfl, HQ5.out⟩
        | ok all =>
          have hal := all_len hfr
          rw [hfr] at hm
          obtain ⟨fa, fcap, rfl, hfs⟩ := hm
          have HFS := Lib.hid hfs
          have Hal := Lib.hid hal
          have Hfr := Lib.hid hfr
          rw [hal]
          obtain ⟨fa', fcap', hfe, hfc, hfmax, hel2⟩ := hfs.open
          have Hfc := Lib.hid hfc
          injection hfe with q1 q2 q3
          subst q1; subst q3
          obtain ⟨fb, foff, fdv, rfl, -⟩ := hel2 0 (by omega)
          have Hel2 := Lib.hid hel2
          obtain ⟨b, off, dvK, e1, -, -, c0, c1, hkK, hdK⟩ := Hel.out M hM
          injection e1 with e1
          injection e1 with e1 e2
          subst e1; subst e2
          obtain ⟨da, dcap, rfl, -⟩ := hdK.open
          have d0 := HQ4.out.cell c0 (by simp)
          have d1 := HQ4.out.cell c1 (by simp)
          have Hd0 := Lib.hid d0
          have Hd1 := Lib.hid d1
          have hki : (M : Int) < (l.length : Int) := by omega
          have hk0 : (0 : Int) ≤ (M : Int) := by omega
          have HdK := Lib.hid hdK
          have HkK := Lib.hid hkK
          have hll2 : (all.length : Int) ≤ 9223372036854775807 := by omega
          have HM := Lib.hid hM
          clear hfr hal hfs hfc hel2 c0 c1 hdK hkK hfmax hll2
          generalize hcM : l.getD M default = cM at *
          have HcM := Lib.hid hcM
          clear hcM
          generalize hkd : cM.kind = kd at *
          have Hkd := Lib.hid hkd
          clear hkd
          generalize hdl : cM.data.length = dl at *
          have Hdl := Lib.hid hdl
          clear hdl
          go_upto_region 11 with (fail)
          go_cut [81] (fun s wx => s = .bool (decide (kd = 1 ∨ kd = 4)) ∧ W4 = wx)
          case first =>
            by_cases h1 : kd = 1
            · subst h1
              go_wp2_with fail
              go_meet
              exact ⟨rfl, rfl⟩
            · by_cases h4 : kd = 4
              · subst h4
                go_wp2_with fail
                go_meet
                exact ⟨rfl, rfl⟩
              · have b1 : (kd == 1) = false := by rw [beq_eq_false_iff_ne]; exact h1
                have b4 : (kd == 4) = false := by rw [beq_eq_false_iff_ne]; exact h4
                go_wp2_with fail
                go_meet
                exact ⟨by simp [h1, h4], rfl⟩
          case rest =>
            obtain ⟨rfl, rfl⟩ := hcut
            go_upto_if 81 with (fail)
            go_cut [] (fun wx => Hid (Only [] W4 wx))
            case first =>
              by_cases hkk : kd = 1 ∨ kd = 4
              · have hkb : decide (kd = 1 ∨ kd = 4) = true := decide_eq_true hkk
                have hcK : ¬ cap = M := by have := Hcap.out; omega
                have HKk : Hid ((l.getD M default).kind = 1 ∨ (l.getD M default).kind = 4) := Lib.hid (by rw [HcM.out, Hkd.out]; exact hkk)
                clear hkk
                rw [hkb]
                go_wp2_with fail
                clear hcK hkb
                go_at_call 15
                obtain ⟨ht1, ht2⟩ := tails_at HDt.out Hfr.out HM.out HKk.out
                refine (frames_any W H ((HL.out.drop HM.out).quiet HQ4.out)).mono ?_
                rintro e W5 ⟨hq5, hm⟩
                rw [ht1] at hm
                obtain ⟨ga, gcap, rfl, hgs⟩ := hm
                have hgl : (all.drop M).length = l.length - M := by rw [List.length_drop, Hal.out]
                have HGs := Lib.hid hgs
                have Hgl := Lib.hid hgl
                rw [HcM.out] at ht2
                generalize hfM : all.getD M default = fM at *
                have HfM := Lib.hid hfM
                have HT2 := Lib.hid (ht2 prev)
                have HQ5 := Lib.hid hq5
                have HB5 := Lib.hid (hq5.row HB4.out)
                rw [hgl]
                have d0 := hq5.cell Hd0.out (by simp)
                have d1 := hq5.cell Hd1.out (by simp)
                have dr := HB5.out
                clear ht1 ht2 hq5 hgs hgl hfM
                go_upto_region 13 with (fail)
                have HdK5 := Lib.hid ((HdK.out.quiet HQ4.out).quiet HQ5.out)
                have HP5 := Lib.hid ((HP.out.quiet HQ4.out).quiet HQ5.out)
                have HF5 := Lib.hid (fun (wx : World) (o : Only [] W5 wx) => frame_any (c := cM) (prev := prev) W H (HdK5.out.quiet o) (HP5.out.quiet o))
                rw [Hkd.out, HT2.out] at HF5
                go_cut [15, 16] (fun s15 s16 wx => ∃ (B g gcap : Nat), s15 = .pointer (some ⟨B, 0, none⟩) ∧ s16 = .nilIface ∧ Hid (Only [] W5 wx) ∧ Hid (wx.heap[B]? = some (.cells #[.int .i64 fM.W, .int .i64 fM.H, .slice (some ⟨g, 0, none⟩) fM.pix.length gcap] 27 (0, 0))) ∧ Hid (Ints .i64 0 wx.heap.size wx (.slice (some ⟨g, 0, none⟩) fM.pix.length gcap) fM.pix))
                case first =>
                  refine wp_region_held_drew (S := (fun w' => w'.cell? ⟨cb, coff + M * 2, none⟩ = some (.int .i64 kd) ∧ w'.cell? ⟨cb, coff + M * 2 + 1, none⟩ = some (.slice da dl dcap) ∧ w'.heap[w.heap.size]? = some (.cells #[.int .i64 prev.W, .int .i64 prev.H, .slice pa prev.pix.length pcap] 27 (0, 0)))) (by kernel_rfl) ?_ (fun hHeld => ?_)
                  · exact ⟨d0, d1, dr⟩
                  refine wpAnyH_take (i := 0) (oi := ⟨some 92, _, _, _, _, _⟩) (v := ?_) rfl (by kernel_rfl) (by kernel_rfl) (by kernel_rfl) (fun _ _ _ h => h) (Or.inl ⟨by rfl, ?_⟩) (by assumption) ?_
                  rotate_left
                  · (intro wz hSw; (try dsimp only at hSw); obtain ⟨hS0, hS1, hS2⟩ := hSw; obtain ⟨p0, p1, p2⟩ := frame_cells hS2; go_simp; try with_reducible rfl)
                  try simp only [Act.put, List.setIfInBounds_toArray, List.set_cons_zero, List.set_cons_succ]
                  refine wpAnyH_take (i := 1) (oi := ⟨some 93, _, _, _, _, _⟩) (v := ?_) rfl (by kernel_rfl) (by kernel_rfl) (by kernel_rfl) (fun _ _ _ h => h) (Or.inl ⟨by rfl, ?_⟩) (by assumption) ?_
                  rotate_left
                  · (intro wz hSw; (try dsimp only at hSw); obtain ⟨hS0, hS1, hS2⟩ := hSw; obtain ⟨p0, p1, p2⟩ := frame_cells hS2; go_simp; try with_reducible rfl)
                  try simp only [Act.put, List.setIfInBounds_toArray, List.set_cons_zero, List.set_cons_succ]
                  refine wpAnyH_take (i := 2) (oi := ⟨some 94, _, _, _, _, _⟩) (v := ?_) rfl (by kernel_rfl) (by kernel_rfl) (by kernel_rfl) (fun _ _ _ h => h) (Or.inl ⟨by rfl, ?_⟩) (by assumption) ?_
                  rotate_left
                  · (intro wz hSw; (try dsimp only at hSw); obtain ⟨hS0, hS1, hS2⟩ := hSw; obtain ⟨p0, p1, p2⟩ := frame_cells hS2; go_simp; try with_reducible rfl)
                  try simp only [Act.put, List.setIfInBounds_toArray, List.set_cons_zero, List.set_cons_succ]
                  refine wpAnyH_take (i := 3) (oi := ⟨some 95, _, _, _, _, _⟩) (v := ?_) rfl (by kernel_rfl) (by kernel_rfl) (by kernel_rfl) (fun _ _ _ h => h) (Or.inl ⟨by rfl, ?_⟩) (by assumption) ?_
                  rotate_left
                  · (intro wz hSw; (try dsimp only at hSw); obtain ⟨hS0, hS1, hS2⟩ := hSw; obtain ⟨p0, p1, p2⟩ := frame_cells hS2; go_simp; try with_reducible rfl)
                  try simp only [Act.put, List.setIfInBounds_toArray, List.set_cons_zero, List.set_cons_succ]
                  refine wpAnyH_take (i := 4) (oi := ⟨some 96, _, _, _, _, _⟩) (v := ?_) rfl (by kernel_rfl) (by kernel_rfl) (by kernel_rfl) (fun _ _ _ h => h) (Or.inl ⟨by rfl, ?_⟩) (by assumption) ?_
                  rotate_left
                  · (intro wz hSw; (try dsimp only at hSw); obtain ⟨hS0, hS1, hS2⟩ := hSw; obtain ⟨p0, p1, p2⟩ := frame_cells hS2; go_simp; try with_reducible rfl)
                  try simp only [Act.put, List.setIfInBounds_toArray, List.set_cons_zero, List.set_cons_succ]
                  refine wpAnyH_take (i := 5) (oi := ⟨some 97, _, _, _, _, _⟩) (v := ?_) rfl (by kernel_rfl) (by kernel_rfl) (by kernel_rfl) (fun _ _ _ h => h) (Or.inl ⟨by rfl, ?_⟩) (by assumption) ?_
                  rotate_left
                  · (intro wz hSw; (try dsimp only at hSw); obtain ⟨hS0, hS1, hS2⟩ := hSw; obtain ⟨p0, p1, p2⟩ := frame_cells hS2; go_simp; try with_reducible rfl)
                  try simp only [Act.put, List.setIfInBounds_toArray, List.set_cons_zero, List.set_cons_succ]
                  refine wpAnyH_take (i := 6) (oi := ⟨some 98, _, _, _, _, _⟩) (v := ?_) rfl (by kernel_rfl) (by kernel_rfl) (by kernel_rfl) (fun _ _ _ h => h) (Or.inl ⟨by rfl, ?_⟩) (by assumption) ?_
                  rotate_left
                  · (intro wz hSw; (try dsimp only at hSw); obtain ⟨hS0, hS1, hS2⟩ := hSw; obtain ⟨p0, p1, p2⟩ := frame_cells hS2; go_simp; try with_reducible rfl)
                  try simp only [Act.put, List.setIfInBounds_toArray, List.set_cons_zero, List.set_cons_succ]
                  refine wpAnyH_ready (rs := [7, 11]) (by kernel_rfl) (by simp) (AllReadyH.cons (o := ⟨some 99, _, _, _, _, _⟩) rfl (fun K hK => ?_) (AllReadyH.cons (o := ⟨some 15, _, _, _, _, _⟩) rfl (fun K hK => ?_) AllReadyH.nil))
                  · go_simp
                    go_at_call 11
                    refine (HF5.out W5.drew (Only.refl [] W5).drew).mono ?_
                    rintro e W6 ⟨hq6, g, g2cap, rfl, hown6⟩
                    have hqd := (Only.refl [] W5).drew.q hq6
                    have e0 := hqd.cell d0 (by simp)
                    have e1 := hqd.cell d1 (by simp)
                    have e2 := hqd.row dr
                    refine hK.out _ _ ?_ (fun hHeld => ?_)
                    · exact ⟨e0, e1, e2⟩
                    clear hK K
                    try simp only [Act.put, List.setIfInBounds_toArray, List.set_cons_zero, List.set_cons_succ]
                    refine wpAnyH_take (i := 8) (oi := ⟨some 91, _, _, _, _, _⟩) (v := ?_) rfl (by kernel_rfl) (by kernel_rfl) (by kernel_rfl) (fun _ _ _ h => h) (Or.inl ⟨by rfl, ?_⟩) (by assumption) ?_
                    rotate_left
                    · (intro wz hSw; (try dsimp only at hSw); obtain ⟨hS0, hS1, hS2⟩ := hSw; obtain ⟨p0, p1, p2⟩ := frame_cells hS2; go_simp; try with_reducible rfl)
                    try simp only [Act.put, List.setIfInBounds_toArray, List.set_cons_zero, List.set_cons_succ]
                    refine wpAnyH_take (i := 9) (oi := ⟨some 100, _, _, _, _, _⟩) (v := ?_) rfl (by kernel_rfl) (by kernel_rfl) (by kernel_rfl) (fun _ _ _ h => h) (Or.inl ⟨by rfl, ?_⟩) (by assumption) ?_
                    rotate_left
                    · (intro wz hSw; (try dsimp only at hSw); obtain ⟨hS0, hS1, hS2⟩ := hSw; obtain ⟨p0, p1, p2⟩ := frame_cells hS2; go_simp; try with_reducible rfl)
                    try simp only [Act.put, List.setIfInBounds_toArray, List.set_cons_zero, List.set_cons_succ]
                    refine wpAnyH_take (i := 10) (oi := ⟨some 101, _, _, _, _, _⟩) (v := ?_) rfl (by kernel_rfl) (by kernel_rfl) (by kernel_rfl) (fun _ _ _ h => h) (Or.inl ⟨by rfl, ?_⟩) (by assumption) ?_
                    rotate_left
                    · (intro wz hSw; (try dsimp only at hSw); obtain ⟨hS0, hS1, hS2⟩ := hSw; obtain ⟨p0, p1, p2⟩ := frame_cells hS2; go_simp; try with_reducible rfl)
                    try simp only [Act.put, List.setIfInBounds_toArray, List.set_cons_zero, List.set_cons_succ]
                    refine wpAnyH_ready (rs := [11]) (by kernel_rfl) (by simp) (AllReadyH.cons (o := ⟨some 15, _, _, _, _, _⟩) rfl (fun K hK => ?_) AllReadyH.nil)
                    go_simp
                    refine hK.out _ _ ?_ (fun hHeld => ?_)
                    · exact ⟨(Only.new W6 _).cell e0 (by simp), (Only.new W6 _).cell e1 (by simp), (Only.new W6 _).row e2⟩
                    clear hK K
                    try simp only [Act.put, List.setIfInBounds_toArray, List.set_cons_zero, List.set_cons_succ]
                    refine wpAnyH_ready (rs := [12]) (by kernel_rfl) (by simp) (AllReadyH.cons (o := ⟨none, _, _, _, _, _⟩) rfl (fun K hK => ?_) AllReadyH.nil)
                    go_simp
                    refine hK.out _ _ ?_ (fun hHeld => ?_)
                    · exact ⟨(Only.new W6 _).cell e0 (by simp), (Only.new W6 _).cell e1 (by simp), (Only.new W6 _).row e2⟩
                    clear hK K
                    try simp only [Act.put, List.setIfInBounds_toArray, List.set_cons_zero, List.set_cons_succ]
                    refine wpAnyH_take (i := 13) (oi := ⟨some 16, _, _, _, _, _⟩) (v := ?_) rfl (by kernel_rfl) (by kernel_rfl) (by kernel_rfl) (fun _ _ _ h => h) (Or.inl ⟨by rfl, ?_⟩) (by assumption) ?_
                    rotate_left
                    · (intro wz hSw; (try dsimp only at hSw); obtain ⟨hS0, hS1, hS2⟩ := hSw; obtain ⟨p0, p1, p2⟩ := frame_cells hS2; go_simp; try with_reducible rfl)
                    try simp only [Act.put, List.setIfInBounds_toArray, List.set_cons_zero, List.set_cons_succ]
                    refine wpAnyH_done (by kernel_rfl) ?_ _
                    go_wp2_with fail
                    go_meet
                    exact ⟨_, _, _, rfl, rfl, Lib.hid (hqd.q (Only.new W6 _)), Lib.hid (heap_alloc_new W6 _), Lib.hid ((hown6.ints.quiet (Only.new W6 _)).mono (Nat.zero_le _) (Only.new W6 _).size)⟩
                  · go_simp
                    refine hK.out _ _ ?_ (fun hHeld => ?_)
                    · exact ⟨(Only.refl [] W5).drew.alloc _ |>.cell d0 (by simp), (Only.refl [] W5).drew.alloc _ |>.cell d1 (by simp), (Only.refl [] W5).drew.alloc _ |>.row dr⟩
                    clear hK K
                    try simp only [Act.put, List.setIfInBounds_toArray, List.set_cons_zero, List.set_cons_succ]
                    refine wpAnyH_ready (rs := [7]) (by kernel_rfl) (by simp) (AllReadyH.cons (o := ⟨some 99, _, _, _, _, _⟩) rfl (fun K hK => ?_) AllReadyH.nil)
                    go_simp
                    have oB := (Only.refl [] W5).drew.alloc (.cells #[.int .i64 0, .int .i64 0, .slice none 0 0] 27)
                    go_at_call 11
                    refine (HF5.out _ oB).mono ?_
                    rintro e W6 ⟨hq6, g, g2cap, rfl, hown6⟩
                    have hqd := oB.q hq6
                    have e0 := hqd.cell d0 (by simp)
                    have e1 := hqd.cell d1 (by simp)
                    have e2 := hqd.row dr
                    have hcb : cb < W5.heap.size := block_lt_of_cell d0
                    have hwb : w.heap.size < W5.heap.size := block_lt_of_cell (frame_cells dr).1
                    have hz : W6.heap[W5.heap.size]? = some (.cells #[.int .i64 0, .int .i64 0, .slice none 0 0] 27 (0, 0)) := hq6.row (heap_alloc_new _ _)
                    obtain ⟨z0, z1, z2⟩ := frame_cells hz
                    have fz0 := frozen_of_row _ _ 0 _ _ hz
                    have fz1 := frozen_of_row _ _ 1 _ _ hz
                    have fz2 := frozen_of_row _ _ 2 _ _ hz
                    obtain ⟨hrow, hon⟩ := row3_set (x := (.int .i64 fM.W)) (y := (.int .i64 fM.H)) (z := (.slice (some ⟨g, 0, none⟩) fM.pix.length g2cap)) hz
                    refine hK.out _ _ ?_ (fun hHeld => ?_)
                    · exact ⟨e0, e1, e2⟩
                    clear hK K
                    try simp only [Act.put, List.setIfInBounds_toArray, List.set_cons_zero, List.set_cons_succ]
                    refine wpAnyH_take (i := 8) (oi := ⟨some 91, _, _, _, _, _⟩) (v := ?_) rfl (by kernel_rfl) (by kernel_rfl) (by kernel_rfl) (fun _ _ _ h => h) (Or.inl ⟨by rfl, ?_⟩) (by assumption) ?_
                    rotate_left
                    · (intro wz hSw; (try dsimp only at hSw); obtain ⟨hS0, hS1, hS2⟩ := hSw; obtain ⟨p0, p1, p2⟩ := frame_cells hS2; go_simp; try with_reducible rfl)
                    try simp only [Act.put, List.setIfInBounds_toArray, List.set_cons_zero, List.set_cons_succ]
                    refine wpAnyH_take (i := 9) (oi := ⟨some 100, _, _, _, _, _⟩) (v := ?_) rfl (by kernel_rfl) (by kernel_rfl) (by kernel_rfl) (fun _ _ _ h => h) (Or.inl ⟨by rfl, ?_⟩) (by assumption) ?_
                    rotate_left
                    · (intro wz hSw; (try dsimp only at hSw); obtain ⟨hS0, hS1, hS2⟩ := hSw; obtain ⟨p0, p1, p2⟩ := frame_cells hS2; go_simp; try with_reducible rfl)
                    try simp only [Act.put, List.setIfInBounds_toArray, List.set_cons_zero, List.set_cons_succ]
                    refine wpAnyH_take (i := 10) (oi := ⟨some 101, _, _, _, _, _⟩) (v := ?_) rfl (by kernel_rfl) (by kernel_rfl) (by kernel_rfl) (fun _ _ _ h => h) (Or.inl ⟨by rfl, ?_⟩) (by assumption) ?_
                    rotate_left
                    · (intro wz hSw; (try dsimp only at hSw); obtain ⟨hS0, hS1, hS2⟩ := hSw; obtain ⟨p0, p1, p2⟩ := frame_cells hS2; go_simp; try with_reducible rfl)
                    try simp only [Act.put, List.setIfInBounds_toArray, List.set_cons_zero, List.set_cons_succ]
                    refine wpAnyH_ready (rs := [12]) (by kernel_rfl) (by simp) (AllReadyH.cons (o := ⟨none, _, _, _, _, _⟩) rfl (fun K hK => ?_) AllReadyH.nil)
                    go_simp
                    refine hK.out _ _ ?_ (fun hHeld => ?_)
                    · exact ⟨hon.cell e0 (by simp; omega), hon.cell e1 (by simp; omega), hon.rowAt e2 (by simp; omega)⟩
                    clear hK K
                    try simp only [Act.put, List.setIfInBounds_toArray, List.set_cons_zero, List.set_cons_succ]
                    refine wpAnyH_take (i := 13) (oi := ⟨some 16, _, _, _, _, _⟩) (v := ?_) rfl (by kernel_rfl) (by kernel_rfl) (by kernel_rfl) (fun _ _ _ h => h) (Or.inl ⟨by rfl, ?_⟩) (by assumption) ?_
                    rotate_left
                    · (intro wz hSw; (try dsimp only at hSw); obtain ⟨hS0, hS1, hS2⟩ := hSw; obtain ⟨p0, p1, p2⟩ := frame_cells hS2; go_simp; try with_reducible rfl)
                    try simp only [Act.put, List.setIfInBounds_toArray, List.set_cons_zero, List.set_cons_succ]
                    refine wpAnyH_done (by kernel_rfl) ?_ _
                    go_wp2_with fail
                    go_meet
                    exact ⟨_, _, _, rfl, rfl, Lib.hid (hqd.trans hon (U := []) (by simp) (fun x hx hl => by rw [List.mem_singleton] at hx; omega)), Lib.hid hrow, Lib.hid ((Ints.only (Own.ints hown6) hon (fun x hx => .inl (by rw [List.mem_singleton] at hx; rw [hx]; simp))).mono (Nat.zero_le _) hon.size)⟩
                case rest =>
                  obtain ⟨B, g, g2cap, rfl, rfl, HQ6, HR6, HG6⟩ := hcut
                  have o4 := HQ5.out.q HQ6.out
                  obtain ⟨b', off', pM, e1, -, -, a0, a1, a2, hpM⟩ := Hel2.out M (by rw [Hal.out]; exact HM.out)
                  injection e1 with e1
                  injection e1 with e1 e2
                  subst e1; subst e2
                  rw [HfM.out] at a0 a1 hpM
                  have c0 := o4.cell a0 (by simp)
                  have c1 := o4.cell a1 (by simp)
                  have c2 := o4.cell a2 (by simp)
                  have rB := HR6.out
                  have hMle : M ≤ l.length := by have := HM.out; omega
                  have hfcM : ¬ fcap = M := by have := Hfc.out; rw [Hal.out] at this; have := HM.out; omega
                  have HX := fun (wx : World) (o : Only [] wc wx) => kframes_same (HGs.out.quiet (HQ6.out.q o)) ((HFS.out.drop (k := M) (by rw [Hal.out]; exact HM.out)).quiet (o4.q o))
                  rw [Hgl.out, Hal.out] at HX
                  have HXh := Lib.hid HX
                  have HY := fun (wx : World) (o : Only [] wc wx) => kframe_any (A := fM) (B := fM) (HG6.out.quiet o) (hpM.quiet (o4.q o))
                  rw [show frEq fM fM = true by simp [frEq, eqB]] at HY
                  have HYh := Lib.hid HY
                  have HQ46 := Lib.hid o4
                  obtain ⟨pMa, pMcap, rfl, -⟩ := hpM.open
                  clear HX HY a0 a1 a2 hpM o4 d0 d1 dr
                  generalize fM.pix.length = fl at *
                  go_wp2_with fail
                  refine wp_region_held_drew (S := (fun w' => w'.cell? ⟨fb, foff + M * 3, none⟩ = some (.int .i64 fM.W) ∧ w'.cell? ⟨fb, foff + M * 3 + 1, none⟩ = some (.int .i64 fM.H) ∧ w'.cell? ⟨fb, foff + M * 3 + 2, none⟩ = some (.slice pMa fl pMcap) ∧ w'.heap[B]? = some (.cells #[.int .i64 fM.W, .int .i64 fM.H, .slice (some ⟨g, 0, none⟩) fl g2cap] 27 (0, 0)))) (by kernel_rfl) ?_ (fun hHeld => ?_)
                  · exact ⟨c0, c1, c2, rB⟩
                  refine wpAnyH_take (i := 0) (oi := ⟨some 102, _, _, _, _, _⟩) (v := ?_) rfl (by kernel_rfl) (by kernel_rfl) (by kernel_rfl) (fun _ _ _ h => h) (Or.inl ⟨by rfl, ?_⟩) (by assumption) ?_
                  rotate_left
                  · (intro wz hSw; (try dsimp only at hSw); obtain ⟨hS0, hS1, hS2, hS3⟩ := hSw; obtain ⟨p0, p1, p2⟩ := frame_cells hS3; go_simp; try with_reducible rfl)
                  try simp only [Act.put, List.setIfInBounds_toArray, List.set_cons_zero, List.set_cons_succ]
                  refine wpAnyH_take (i := 1) (oi := ⟨some 103, _, _, _, _, _⟩) (v := ?_) rfl (by kernel_rfl) (by kernel_rfl) (by kernel_rfl) (fun _ _ _ h => h) (Or.inl ⟨by rfl, ?_⟩) (by assumption) ?_
                  rotate_left
                  · (intro wz hSw; (try dsimp only at hSw); obtain ⟨hS0, hS1, hS2, hS3⟩ := hSw; obtain ⟨p0, p1, p2⟩ := frame_cells hS3; go_simp; try with_reducible rfl)
                  try simp only [Act.put, List.setIfInBounds_toArray, List.set_cons_zero, List.set_cons_succ]
                  refine wpAnyH_take (i := 2) (oi := ⟨some 104, _, _, _, _, _⟩) (v := ?_) rfl (by kernel_rfl) (by kernel_rfl) (by kernel_rfl) (fun _ _ _ h => h) (Or.inl ⟨by rfl, ?_⟩) (by assumption) ?_
                  rotate_left
                  · (intro wz hSw; (try dsimp only at hSw); obtain ⟨hS0, hS1, hS2, hS3⟩ := hSw; obtain ⟨p0, p1, p2⟩ := frame_cells hS3; go_simp; try with_reducible rfl)
                  try simp only [Act.put, List.setIfInBounds_toArray, List.set_cons_zero, List.set_cons_succ]
                  refine wpAnyH_take (i := 3) (oi := ⟨some 105, _, _, _, _, _⟩) (v := ?_) rfl (by kernel_rfl) (by kernel_rfl) (by kernel_rfl) (fun _ _ _ h => h) (Or.inl ⟨by rfl, ?_⟩) (by assumption) ?_
                  rotate_left
                  · (intro wz hSw; (try dsimp only at hSw); obtain ⟨hS0, hS1, hS2, hS3⟩ := hSw; obtain ⟨p0, p1, p2⟩ := frame_cells hS3; go_simp; try with_reducible rfl)
                  try simp only [Act.put, List.setIfInBounds_toArray, List.set_cons_zero, List.set_cons_succ]
                  refine wpAnyH_take (i := 4) (oi := ⟨some 106, _, _, _, _, _⟩) (v := ?_) rfl (by kernel_rfl) (by kernel_rfl) (by kernel_rfl) (fun _ _ _ h => h) (Or.inl ⟨by rfl, ?_⟩) (by assumption) ?_
                  rotate_left
                  · (intro wz hSw; (try dsimp only at hSw); obtain ⟨hS0, hS1, hS2, hS3⟩ := hSw; obtain ⟨p0, p1, p2⟩ := frame_cells hS3; go_simp; try with_reducible rfl)
                  try simp only [Act.put, List.setIfInBounds_toArray, List.set_cons_zero, List.set_cons_succ]
                  refine wpAnyH_take (i := 5) (oi := ⟨some 107, _, _, _, _, _⟩) (v := ?_) rfl (by kernel_rfl) (by kernel_rfl) (by kernel_rfl) (fun _ _ _ h => h) (Or.inl ⟨by rfl, ?_⟩) (by assumption) ?_
                  rotate_left
                  · (intro wz hSw; (try dsimp only at hSw); obtain ⟨hS0, hS1, hS2, hS3⟩ := hSw; obtain ⟨p0, p1, p2⟩ := frame_cells hS3; go_simp; try with_reducible rfl)
                  try simp only [Act.put, List.setIfInBounds_toArray, List.set_cons_zero, List.set_cons_succ]
                  refine wpAnyH_take (i := 6) (oi := ⟨some 108, _, _, _, _, _⟩) (v := ?_) rfl (by kernel_rfl) (by kernel_rfl) (by kernel_rfl) (fun _ _ _ h => h) (Or.inl ⟨by rfl, ?_⟩) (by assumption) ?_
                  rotate_left
                  · (intro wz hSw; (try dsimp only at hSw); obtain ⟨hS0, hS1, hS2, hS3⟩ := hSw; obtain ⟨p0, p1, p2⟩ := frame_cells hS3; go_simp; try with_reducible rfl)
                  try simp only [Act.put, List.setIfInBounds_toArray, List.set_cons_zero, List.set_cons_succ]
                  refine wpAnyH_take (i := 7) (oi := ⟨some 109, _, _, _, _, _⟩) (v := ?_) rfl (by kernel_rfl) (by kernel_rfl) (by kernel_rfl) (fun _ _ _ h => h) (Or.inl ⟨by rfl, ?_⟩) (by assumption) ?_
                  rotate_left
                  · (intro wz hSw; (try dsimp only at hSw); obtain ⟨hS0, hS1, hS2, hS3⟩ := hSw; obtain ⟨p0, p1, p2⟩ := frame_cells hS3; go_simp; try with_reducible rfl)
                  try simp only [Act.put, List.setIfInBounds_toArray, List.set_cons_zero, List.set_cons_succ]
                  refine wpAnyH_take (i := 8) (oi := ⟨some 110, _, _, _, _, _⟩) (v := ?_) rfl (by kernel_rfl) (by kernel_rfl) (by kernel_rfl) (fun _ _ _ h => h) (Or.inl ⟨by rfl, ?_⟩) (by assumption) ?_
                  rotate_left
                  · (intro wz hSw; (try dsimp only at hSw); obtain ⟨hS0, hS1, hS2, hS3⟩ := hSw; obtain ⟨p0, p1, p2⟩ := frame_cells hS3; go_simp; try with_reducible rfl)
                  try simp only [Act.put, List.setIfInBounds_toArray, List.set_cons_zero, List.set_cons_succ]
                  refine wpAnyH_take (i := 9) (oi := ⟨some 111, _, _, _, _, _⟩) (v := ?_) rfl (by kernel_rfl) (by kernel_rfl) (by kernel_rfl) (fun _ _ _ h => h) (Or.inl ⟨by rfl, ?_⟩) (by assumption) ?_
                  rotate_left
                  · (intro wz hSw; (try dsimp only at hSw); obtain ⟨hS0, hS1, hS2, hS3⟩ := hSw; obtain ⟨p0, p1, p2⟩ := frame_cells hS3; go_simp; try with_reducible rfl)
                  try simp only [Act.put, List.setIfInBounds_toArray, List.set_cons_zero, List.set_cons_succ]
                  refine wpAnyH_take (i := 10) (oi := ⟨some 112, _, _, _, _, _⟩) (v := ?_) rfl (by kernel_rfl) (by kernel_rfl) (by kernel_rfl) (fun _ _ _ h => h) (Or.inl ⟨by rfl, ?_⟩) (by assumption) ?_
                  rotate_left
                  · (intro wz hSw; (try dsimp only at hSw); obtain ⟨hS0, hS1, hS2, hS3⟩ := hSw; obtain ⟨p0, p1, p2⟩ := frame_cells hS3; go_simp; try with_reducible rfl)
                  try simp only [Act.put, List.setIfInBounds_toArray, List.set_cons_zero, List.set_cons_succ]
                  refine wpAnyH_ready (rs := [11]) (by kernel_rfl) (by simp) (AllReadyH.cons (o := ⟨some 113, _, _, _, _, _⟩) rfl (fun K hK => ?_) AllReadyH.nil)
                  go_simp
                  go_at_call 17
                  refine (HXh.out _ (Only.refl [] wc).drew).mono ?_
                  rintro e W7 ⟨rfl, hq7⟩
                  have HQ7 := Lib.hid ((Only.refl [] wc).drew.q hq7)
                  have f0 := HQ7.out.cell c0 (by simp)
                  have f1 := HQ7.out.cell c1 (by simp)
                  have f2 := HQ7.out.cell c2 (by simp)
                  have f3 := HQ7.out.row rB
                  clear hq7
                  refine hK.out _ _ ?_ (fun hHeld => ?_)
                  · exact ⟨f0, f1, f2, f3⟩
                  clear hK K
                  try simp only [Act.put, List.setIfInBounds_toArray, List.set_cons_zero, List.set_cons_succ]
                  refine wpAnyH_take (i := 12) (oi := ⟨some 114, _, _, _, _, _⟩) (v := ?_) rfl (by kernel_rfl) (by kernel_rfl) (by kernel_rfl) (fun _ _ _ h => h) (Or.inl ⟨by rfl, ?_⟩) (by assumption) ?_
                  rotate_left
                  · (intro wz hSw; (try dsimp only at hSw); obtain ⟨hS0, hS1, hS2, hS3⟩ := hSw; obtain ⟨p0, p1, p2⟩ := frame_cells hS3; go_simp; try with_reducible rfl)
                  try simp only [Act.put, List.setIfInBounds_toArray, List.set_cons_zero, List.set_cons_succ]
                  refine wpAnyH_take (i := 13) (oi := ⟨some 115, _, _, _, _, _⟩) (v := ?_) rfl (by kernel_rfl) (by kernel_rfl) (by kernel_rfl) (fun _ _ _ h => h) (Or.inl ⟨by rfl, ?_⟩) (by assumption) ?_
                  rotate_left
                  · (intro wz hSw; (try dsimp only at hSw); obtain ⟨hS0, hS1, hS2, hS3⟩ := hSw; obtain ⟨p0, p1, p2⟩ := frame_cells hS3; go_simp; try with_reducible rfl)
                  try simp only [Act.put, List.setIfInBounds_toArray, List.set_cons_zero, List.set_cons_succ]
                  refine wpAnyH_take (i := 14) (oi := ⟨some 116, _, _, _, _, _⟩) (v := ?_) rfl (by kernel_rfl) (by kernel_rfl) (by kernel_rfl) (fun _ _ _ h => h) (Or.inl ⟨by rfl, ?_⟩) (by assumption) ?_
                  rotate_left
                  · (intro wz hSw; (try dsimp only at hSw); obtain ⟨hS0, hS1, hS2, hS3⟩ := hSw; obtain ⟨p0, p1, p2⟩ := frame_cells hS3; go_simp; try with_reducible rfl)
                  try simp only [Act.put, List.setIfInBounds_toArray, List.set_cons_zero, List.set_cons_succ]
                  refine wpAnyH_take (i := 15) (oi := ⟨some 117, _, _, _, _, _⟩) (v := ?_) rfl (by kernel_rfl) (by kernel_rfl) (by kernel_rfl) (fun _ _ _ h => h) (Or.inl ⟨by rfl, ?_⟩) (by assumption) ?_
                  rotate_left
                  · (intro wz hSw; (try dsimp only at hSw); obtain ⟨hS0, hS1, hS2, hS3⟩ := hSw; obtain ⟨p0, p1, p2⟩ := frame_cells hS3; go_simp; try with_reducible rfl)
                  try simp only [Act.put, List.setIfInBounds_toArray, List.set_cons_zero, List.set_cons_succ]
                  refine wpAnyH_take (i := 16) (oi := ⟨some 118, _, _, _, _, _⟩) (v := ?_) rfl (by kernel_rfl) (by kernel_rfl) (by kernel_rfl) (fun _ _ _ h => h) (Or.inl ⟨by rfl, ?_⟩) (by assumption) ?_
                  rotate_left
                  · (intro wz hSw; (try dsimp only at hSw); obtain ⟨hS0, hS1, hS2, hS3⟩ := hSw; obtain ⟨p0, p1, p2⟩ := frame_cells hS3; go_simp; try with_reducible rfl)
                  try simp only [Act.put, List.setIfInBounds_toArray, List.set_cons_zero, List.set_cons_succ]
                  refine wpAnyH_take (i := 17) (oi := ⟨some 119, _, _, _, _, _⟩) (v := ?_) rfl (by kernel_rfl) (by kernel_rfl) (by kernel_rfl) (fun _ _ _ h => h) (Or.inl ⟨by rfl, ?_⟩) (by assumption) ?_
                  rotate_left
                  · (intro wz hSw; (try dsimp only at hSw); obtain ⟨hS0, hS1, hS2, hS3⟩ := hSw; obtain ⟨p0, p1, p2⟩ := frame_cells hS3; go_simp; try with_reducible rfl)
                  try simp only [Act.put, List.setIfInBounds_toArray, List.set_cons_zero, List.set_cons_succ]
                  refine wpAnyH_take (i := 18) (oi := ⟨some 120, _, _, _, _, _⟩) (v := ?_) rfl (by kernel_rfl) (by kernel_rfl) (by kernel_rfl) (fun _ _ _ h => h) (Or.inl ⟨by rfl, ?_⟩) (by assumption) ?_
                  rotate_left
                  · (intro wz hSw; (try dsimp only at hSw); obtain ⟨hS0, hS1, hS2, hS3⟩ := hSw; obtain ⟨p0, p1, p2⟩ := frame_cells hS3; go_simp; try with_reducible rfl)
                  try simp only [Act.put, List.setIfInBounds_toArray, List.set_cons_zero, List.set_cons_succ]
                  refine wpAnyH_take (i := 19) (oi := ⟨some 121, _, _, _, _, _⟩) (v := ?_) rfl (by kernel_rfl) (by kernel_rfl) (by kernel_rfl) (fun _ _ _ h => h) (Or.inl ⟨by rfl, ?_⟩) (by assumption) ?_
                  rotate_left
                  · (intro wz hSw; (try dsimp only at hSw); obtain ⟨hS0, hS1, hS2, hS3⟩ := hSw; obtain ⟨p0, p1, p2⟩ := frame_cells hS3; go_simp; try with_reducible rfl)
                  try simp only [Act.put, List.setIfInBounds_toArray, List.set_cons_zero, List.set_cons_succ]
                  refine wpAnyH_ready (rs := [20]) (by kernel_rfl) (by simp) (AllReadyH.cons (o := ⟨some 122, _, _, _, _, _⟩) rfl (fun K hK => ?_) AllReadyH.nil)
                  go_simp
                  go_at_call 21
                  refine (HYh.out W7 HQ7.out).mono ?_
                  rintro e W8 ⟨rfl, hq8⟩
                  have HQ8 := Lib.hid (HQ7.out.q hq8)
                  have g0 := HQ8.out.cell c0 (by simp)
                  have g1 := HQ8.out.cell c1 (by simp)
                  have g2 := HQ8.out.cell c2 (by simp)
                  have g3 := HQ8.out.row rB
                  clear hq8
                  refine hK.out _ _ ?_ (fun hHeld => ?_)
                  · exact ⟨g0, g1, g2, g3⟩
                  clear hK K
                  try simp only [Act.put, List.setIfInBounds_toArray, List.set_cons_zero, List.set_cons_succ]
                  refine wpAnyH_take (i := 21) (oi := ⟨some 123, _, _, _, _, _⟩) (v := ?_) rfl (by kernel_rfl) (by kernel_rfl) (by kernel_rfl) (fun _ _ _ h => h) (Or.inl ⟨by rfl, ?_⟩) (by assumption) ?_
                  rotate_left
                  · (intro wz hSw; (try dsimp only at hSw); obtain ⟨hS0, hS1, hS2, hS3⟩ := hSw; obtain ⟨p0, p1, p2⟩ := frame_cells hS3; go_simp; try with_reducible rfl)
                  try simp only [Act.put, List.setIfInBounds_toArray, List.set_cons_zero, List.set_cons_succ]
                  refine wpAnyH_take (i := 22) (oi := ⟨some 124, _, _, _, _, _⟩) (v := ?_) rfl (by kernel_rfl) (by kernel_rfl) (by kernel_rfl) (fun _ _ _ h => h) (Or.inl ⟨by rfl, ?_⟩) (by assumption) ?_
                  rotate_left
                  · (intro wz hSw; (try dsimp only at hSw); obtain ⟨hS0, hS1, hS2, hS3⟩ := hSw; obtain ⟨p0, p1, p2⟩ := frame_cells hS3; go_simp; try with_reducible rfl)
                  try simp only [Act.put, List.setIfInBounds_toArray, List.set_cons_zero, List.set_cons_succ]
                  refine wpAnyH_done (by kernel_rfl) ?_ _
                  go_wp2_with fail
                  go_meet
                  exact Lib.hid (HQ46.out.q HQ8.out)
              · have hkb : decide (kd = 1 ∨ kd = 4) = false := decide_eq_false hkk
                rw [hkb]
                clear hkk
                go_wp2_with fail
                go_meet
                exact Lib.hid (Only.refl _ _)
            case rest =>
              have HQc := hcut
              clear hcut d0 d1
              go_wp2_with fail
              go_loopw [17] (fun i wr => ∃ (k : Nat), k ≤ l.length ∧ i = .int .i64 k ∧ Hid (Only [] wc wr)) (fun i _ => l.length - (intOf i).toNat)
              case atStart => exact ⟨0, by omega, rfl, Lib.hid (Only.refl _ _)⟩
              case round =>
                obtain ⟨k, hk, rfl, HQk⟩ := hrel
                by_cases hlt : k < l.length
                · have hki : (k : Int) < (l.length : Int) := by omega
                  have hk0 : (0 : Int) ≤ (k : Int) := by omega
                  have hw3 : IntKind.i64.wrap 3 = 3 := by decide
                  have hw0 : IntKind.i64.wrap 0 = 0 := by decide
                  obtain ⟨b', off', dvk, e1, -, -, a0, -, -, -⟩ := Hel.out k hlt
                  injection e1 with e1
                  injection e1 with e1 e2
                  subst e1; subst e2
                  have c0 := HQk.out.cell (HQc.out.cell (HQ4.out.cell a0 (by simp)) (by simp)) (by simp)
                  have Hlt := Lib.hid hlt
                  generalize hck : (l.getD k default).kind = ck at *
                  clear a0 hlt
                  by_cases h3 : ck = 3
                  · obtain ⟨j, hkj, hj⟩ := skip_at Hfr.out Hlt.out (by rw [hck]; exact h3)
                    obtain ⟨b1, off1, p1, e1, -, -, a0, a1, a2, hp1⟩ := Hel2.out k (by rw [Hal.out]; exact Hlt.out)
                    obtain ⟨b2, off2, p2, f1, -, -, b0, b1', b2', hp2⟩ := Hel2.out j (by rw [Hal.out]; have := Hlt.out; omega)
                    injection e1 with e1
                    injection e1 with e1 e2
                    subst e1; subst e2
                    injection f1 with e1
                    injection e1 with e1 e2
                    subst e1; subst e2
                    rw [hj] at a0 a1 hp1
                    generalize all.getD j default = fj at *
                    have o4 := HQc.out.q HQk.out
                    have k0 := o4.cell a0 (by simp)
                    have k1 := o4.cell a1 (by simp)
                    have k2 := o4.cell a2 (by simp)
                    have j0 := o4.cell b0 (by simp)
                    have j1 := o4.cell b1' (by simp)
                    have j2 := o4.cell b2' (by simp)
                    have HY := fun (wx : World) (o : Only [] wr wx) => kframe_any (A := fj) (B := fj) (hp1.quiet (o4.q o)) (hp2.quiet (o4.q o))
                    rw [show frEq fj fj = true by simp [frEq, eqB]] at HY
                    have HYh := Lib.hid HY
                    obtain ⟨p1a, p1cap, rfl, -⟩ := hp1.open
                    obtain ⟨p2a, p2cap, rfl, -⟩ := hp2.open
                    have hkz : ((k : Int) == 0) = false := by rw [beq_eq_false_iff_ne]; omega
                    have hkz' : ¬ (k : Int) = 0 := by omega
                    have hkw : IntKind.i64.wrap ((k : Int) - 1) = (j : Int) := by rw [IntKind.wrap_i64]; have := Hlt.out; omega
                    have hkx : (k : Int) - 1 = (j : Int) := by omega
                    have hkv : IntKind.i64.wrap (j : Int) = (j : Int) := by rw [IntKind.wrap_i64]; have := Hlt.out; omega
                    have hj0 : (0 : Int) ≤ (j : Int) := by omega
                    have hji : (j : Int) < (l.length : Int) := by omega
                    subst h3
                    generalize fj.pix.length = fl at *
                    clear HY hp1 hp2 a0 a1 a2 b0 b1' b2' hkj hj hck o4
                    go_wp2_with fail
                    refine wp_region_held_drew (S := (fun w' => w'.cell? ⟨cb, coff + k * 2, none⟩ = some (.int .i64 3) ∧ w'.cell? ⟨fb, foff + k * 3, none⟩ = some (.int .i64 fj.W) ∧ w'.cell? ⟨fb, foff + k * 3 + 1, none⟩ = some (.int .i64 fj.H) ∧ w'.cell? ⟨fb, foff + k * 3 + 2, none⟩ = some (.slice p1a fl p1cap) ∧ w'.cell? ⟨fb, foff + j * 3, none⟩ = some (.int .i64 fj.W) ∧ w'.cell? ⟨fb, foff + j * 3 + 1, none⟩ = some (.int .i64 fj.H) ∧ w'.cell? ⟨fb, foff + j * 3 + 2, none⟩ = some (.slice p2a fl p2cap))) (by kernel_rfl) ?_ (fun hHeld => ?_)
                    · exact ⟨c0, k0, k1, k2, j0, j1, j2⟩
                    refine wpAnyH_take (i := 0) (oi := ⟨some 131, _, _, _, _, _⟩) (v := ?_) rfl (by kernel_rfl) (by kernel_rfl) (by kernel_rfl) (fun _ _ _ h => h) (Or.inl ⟨by rfl, ?_⟩) (by assumption) ?_
                    rotate_left
                    · (intro wz hSw; (try dsimp only at hSw); obtain ⟨hS0, hS1, hS2, hS3, hS4, hS5, hS6⟩ := hSw; go_simp; try with_reducible rfl)
                    try simp only [Act.put, List.setIfInBounds_toArray, List.set_cons_zero, List.set_cons_succ]
                    refine wpAnyH_take (i := 1) (oi := ⟨some 132, _, _, _, _, _⟩) (v := ?_) rfl (by kernel_rfl) (by kernel_rfl) (by kernel_rfl) (fun _ _ _ h => h) (Or.inl ⟨by rfl, ?_⟩) (by assumption) ?_
                    rotate_left
                    · (intro wz hSw; (try dsimp only at hSw); obtain ⟨hS0, hS1, hS2, hS3, hS4, hS5, hS6⟩ := hSw; go_simp; try with_reducible rfl)
                    try simp only [Act.put, List.setIfInBounds_toArray, List.set_cons_zero, List.set_cons_succ]
                    refine wpAnyH_take (i := 2) (oi := ⟨some 133, _, _, _, _, _⟩) (v := ?_) rfl (by kernel_rfl) (by kernel_rfl) (by kernel_rfl) (fun _ _ _ h => h) (Or.inl ⟨by rfl, ?_⟩) (by assumption) ?_
                    rotate_left
                    · (intro wz hSw; (try dsimp only at hSw); obtain ⟨hS0, hS1, hS2, hS3, hS4, hS5, hS6⟩ := hSw; go_simp; try with_reducible rfl)
                    try simp only [Act.put, List.setIfInBounds_toArray, List.set_cons_zero, List.set_cons_succ]
                    refine wpAnyH_take (i := 3) (oi := ⟨some 134, _, _, _, _, _⟩) (v := ?_) rfl (by kernel_rfl) (by kernel_rfl) (by kernel_rfl) (fun _ _ _ h => h) (Or.inl ⟨by rfl, ?_⟩) (by assumption) ?_
                    rotate_left
                    · (intro wz hSw; (try dsimp only at hSw); obtain ⟨hS0, hS1, hS2, hS3, hS4, hS5, hS6⟩ := hSw; go_simp; try with_reducible rfl)
                    try simp only [Act.put, List.setIfInBounds_toArray, List.set_cons_zero, List.set_cons_succ]
                    refine wpAnyH_take (i := 4) (oi := ⟨some 135, _, _, _, _, _⟩) (v := ?_) rfl (by kernel_rfl) (by kernel_rfl) (by kernel_rfl) (fun _ _ _ h => h) (Or.inl ⟨by rfl, ?_⟩) (by assumption) ?_
                    rotate_left
                    · (intro wz hSw; (try dsimp only at hSw); obtain ⟨hS0, hS1, hS2, hS3, hS4, hS5, hS6⟩ := hSw; go_simp; try with_reducible rfl)
                    try simp only [Act.put, List.setIfInBounds_toArray, List.set_cons_zero, List.set_cons_succ]
                    refine wpAnyH_take (i := 5) (oi := ⟨some 136, _, _, _, _, _⟩) (v := ?_) rfl (by kernel_rfl) (by kernel_rfl) (by kernel_rfl) (fun _ _ _ h => h) (Or.inl ⟨by rfl, ?_⟩) (by assumption) ?_
                    rotate_left
                    · (intro wz hSw; (try dsimp only at hSw); obtain ⟨hS0, hS1, hS2, hS3, hS4, hS5, hS6⟩ := hSw; go_simp; try with_reducible rfl)
                    try simp only [Act.put, List.setIfInBounds_toArray, List.set_cons_zero, List.set_cons_succ]
                    refine wpAnyH_take (i := 6) (oi := ⟨some 137, _, _, _, _, _⟩) (v := ?_) rfl (by kernel_rfl) (by kernel_rfl) (by kernel_rfl) (fun _ _ _ h => h) (Or.inl ⟨by rfl, ?_⟩) (by assumption) ?_
                    rotate_left
                    · (intro wz hSw; (try dsimp only at hSw); obtain ⟨hS0, hS1, hS2, hS3, hS4, hS5, hS6⟩ := hSw; go_simp; try with_reducible rfl)
                    try simp only [Act.put, List.setIfInBounds_toArray, List.set_cons_zero, List.set_cons_succ]
                    refine wpAnyH_take (i := 7) (oi := ⟨some 138, _, _, _, _, _⟩) (v := ?_) rfl (by kernel_rfl) (by kernel_rfl) (by kernel_rfl) (fun _ _ _ h => h) (Or.inl ⟨by rfl, ?_⟩) (by assumption) ?_
                    rotate_left
                    · (intro wz hSw; (try dsimp only at hSw); obtain ⟨hS0, hS1, hS2, hS3, hS4, hS5, hS6⟩ := hSw; go_simp; try with_reducible rfl)
                    try simp only [Act.put, List.setIfInBounds_toArray, List.set_cons_zero, List.set_cons_succ]
                    refine wpAnyH_take (i := 8) (oi := ⟨some 139, _, _, _, _, _⟩) (v := ?_) rfl (by kernel_rfl) (by kernel_rfl) (by kernel_rfl) (fun _ _ _ h => h) (Or.inl ⟨by rfl, ?_⟩) (by assumption) ?_
                    rotate_left
                    · (intro wz hSw; (try dsimp only at hSw); obtain ⟨hS0, hS1, hS2, hS3, hS4, hS5, hS6⟩ := hSw; go_simp; try with_reducible rfl)
                    try simp only [Act.put, List.setIfInBounds_toArray, List.set_cons_zero, List.set_cons_succ]
                    refine wpAnyH_take (i := 9) (oi := ⟨some 140, _, _, _, _, _⟩) (v := ?_) rfl (by kernel_rfl) (by kernel_rfl) (by kernel_rfl) (fun _ _ _ h => h) (Or.inl ⟨by rfl, ?_⟩) (by assumption) ?_
                    rotate_left
                    · (intro wz hSw; (try dsimp only at hSw); obtain ⟨hS0, hS1, hS2, hS3, hS4, hS5, hS6⟩ := hSw; go_simp; try with_reducible rfl)
                    try simp only [Act.put, List.setIfInBounds_toArray, List.set_cons_zero, List.set_cons_succ]
                    refine wpAnyH_take (i := 10) (oi := ⟨some 141, _, _, _, _, _⟩) (v := ?_) rfl (by kernel_rfl) (by kernel_rfl) (by kernel_rfl) (fun _ _ _ h => h) (Or.inl ⟨by rfl, ?_⟩) (by assumption) ?_
                    rotate_left
                    · (intro wz hSw; (try dsimp only at hSw); obtain ⟨hS0, hS1, hS2, hS3, hS4, hS5, hS6⟩ := hSw; go_simp; try with_reducible rfl)
                    try simp only [Act.put, List.setIfInBounds_toArray, List.set_cons_zero, List.set_cons_succ]
                    refine wpAnyH_take (i := 11) (oi := ⟨some 142, _, _, _, _, _⟩) (v := ?_) rfl (by kernel_rfl) (by kernel_rfl) (by kernel_rfl) (fun _ _ _ h => h) (Or.inl ⟨by rfl, ?_⟩) (by assumption) ?_
                    rotate_left
                    · (intro wz hSw; (try dsimp only at hSw); obtain ⟨hS0, hS1, hS2, hS3, hS4, hS5, hS6⟩ := hSw; go_simp; try with_reducible rfl)
                    try simp only [Act.put, List.setIfInBounds_toArray, List.set_cons_zero, List.set_cons_succ]
                    refine wpAnyH_take (i := 12) (oi := ⟨some 143, _, _, _, _, _⟩) (v := ?_) rfl (by kernel_rfl) (by kernel_rfl) (by kernel_rfl) (fun _ _ _ h => h) (Or.inl ⟨by rfl, ?_⟩) (by assumption) ?_
                    rotate_left
                    · (intro wz hSw; (try dsimp only at hSw); obtain ⟨hS0, hS1, hS2, hS3, hS4, hS5, hS6⟩ := hSw; go_simp; try with_reducible rfl)
                    try simp only [Act.put, List.setIfInBounds_toArray, List.set_cons_zero, List.set_cons_succ]
                    refine wpAnyH_take (i := 13) (oi := ⟨some 144, _, _, _, _, _⟩) (v := ?_) rfl (by kernel_rfl) (by kernel_rfl) (by kernel_rfl) (fun _ _ _ h => h) (Or.inl ⟨by rfl, ?_⟩) (by assumption) ?_
                    rotate_left
                    · (intro wz hSw; (try dsimp only at hSw); obtain ⟨hS0, hS1, hS2, hS3, hS4, hS5, hS6⟩ := hSw; go_simp; try with_reducible rfl)
                    try simp only [Act.put, List.setIfInBounds_toArray, List.set_cons_zero, List.set_cons_succ]
                    refine wpAnyH_take (i := 14) (oi := ⟨some 145, _, _, _, _, _⟩) (v := ?_) rfl (by kernel_rfl) (by kernel_rfl) (by kernel_rfl) (fun _ _ _ h => h) (Or.inl ⟨by rfl, ?_⟩) (by assumption) ?_
                    rotate_left
                    · (intro wz hSw; (try dsimp only at hSw); obtain ⟨hS0, hS1, hS2, hS3, hS4, hS5, hS6⟩ := hSw; go_simp; try with_reducible rfl)
                    try simp only [Act.put, List.setIfInBounds_toArray, List.set_cons_zero, List.set_cons_succ]
                    refine wpAnyH_take (i := 15) (oi := ⟨some 146, _, _, _, _, _⟩) (v := ?_) rfl (by kernel_rfl) (by kernel_rfl) (by kernel_rfl) (fun _ _ _ h => h) (Or.inl ⟨by rfl, ?_⟩) (by assumption) ?_
                    rotate_left
                    · (intro wz hSw; (try dsimp only at hSw); obtain ⟨hS0, hS1, hS2, hS3, hS4, hS5, hS6⟩ := hSw; go_simp; try with_reducible rfl)
                    try simp only [Act.put, List.setIfInBounds_toArray, List.set_cons_zero, List.set_cons_succ]
                    refine wpAnyH_take (i := 16) (oi := ⟨some 147, _, _, _, _, _⟩) (v := ?_) rfl (by kernel_rfl) (by kernel_rfl) (by kernel_rfl) (fun _ _ _ h => h) (Or.inl ⟨by rfl, ?_⟩) (by assumption) ?_
                    rotate_left
                    · (intro wz hSw; (try dsimp only at hSw); obtain ⟨hS0, hS1, hS2, hS3, hS4, hS5, hS6⟩ := hSw; go_simp; try with_reducible rfl)
                    try simp only [Act.put, List.setIfInBounds_toArray, List.set_cons_zero, List.set_cons_succ]
                    refine wpAnyH_take (i := 17) (oi := ⟨some 148, _, _, _, _, _⟩) (v := ?_) rfl (by kernel_rfl) (by kernel_rfl) (by kernel_rfl) (fun _ _ _ h => h) (Or.inl ⟨by rfl, ?_⟩) (by assumption) ?_
                    rotate_left
                    · (intro wz hSw; (try dsimp only at hSw); obtain ⟨hS0, hS1, hS2, hS3, hS4, hS5, hS6⟩ := hSw; go_simp; try with_reducible rfl)
                    try simp only [Act.put, List.setIfInBounds_toArray, List.set_cons_zero, List.set_cons_succ]
                    refine wpAnyH_take (i := 18) (oi := ⟨some 149, _, _, _, _, _⟩) (v := ?_) rfl (by kernel_rfl) (by kernel_rfl) (by kernel_rfl) (fun _ _ _ h => h) (Or.inl ⟨by rfl, ?_⟩) (by assumption) ?_
                    rotate_left
                    · (intro wz hSw; (try dsimp only at hSw); obtain ⟨hS0, hS1, hS2, hS3, hS4, hS5, hS6⟩ := hSw; go_simp; try with_reducible rfl)
                    try simp only [Act.put, List.setIfInBounds_toArray, List.set_cons_zero, List.set_cons_succ]
                    refine wpAnyH_ready (rs := [19]) (by kernel_rfl) (by simp) (AllReadyH.cons (o := ⟨some 150, _, _, _, _, _⟩) rfl (fun K hK => ?_) AllReadyH.nil)
                    go_simp
                    go_at_call 21
                    refine (HYh.out _ (Only.refl [] wr).drew).mono ?_
                    rintro e wn ⟨rfl, hqn⟩
                    have HQn := Lib.hid ((Only.refl [] wr).drew.q hqn)
                    have x0 := HQn.out.cell c0 (by simp)
                    have x1 := HQn.out.cell k0 (by simp)
                    have x2 := HQn.out.cell k1 (by simp)
                    have x3 := HQn.out.cell k2 (by simp)
                    have x4 := HQn.out.cell j0 (by simp)
                    have x5 := HQn.out.cell j1 (by simp)
                    have x6 := HQn.out.cell j2 (by simp)
                    clear hqn
                    refine hK.out _ _ ?_ (fun hHeld => ?_)
                    · exact ⟨x0, x1, x2, x3, x4, x5, x6⟩
                    clear hK K
                    try simp only [Act.put, List.setIfInBounds_toArray, List.set_cons_zero, List.set_cons_succ]
                    refine wpAnyH_take (i := 20) (oi := ⟨some 151, _, _, _, _, _⟩) (v := ?_) rfl (by kernel_rfl) (by kernel_rfl) (by kernel_rfl) (fun _ _ _ h => h) (Or.inl ⟨by rfl, ?_⟩) (by assumption) ?_
                    rotate_left
                    · (intro wz hSw; (try dsimp only at hSw); obtain ⟨hS0, hS1, hS2, hS3, hS4, hS5, hS6⟩ := hSw; go_simp; try with_reducible rfl)
                    try simp only [Act.put, List.setIfInBounds_toArray, List.set_cons_zero, List.set_cons_succ]
                    refine wpAnyH_take (i := 21) (oi := ⟨some 152, _, _, _, _, _⟩) (v := ?_) rfl (by kernel_rfl) (by kernel_rfl) (by kernel_rfl) (fun _ _ _ h => h) (Or.inl ⟨by rfl, ?_⟩) (by assumption) ?_
                    rotate_left
                    · (intro wz hSw; (try dsimp only at hSw); obtain ⟨hS0, hS1, hS2, hS3, hS4, hS5, hS6⟩ := hSw; go_simp; try with_reducible rfl)
                    try simp only [Act.put, List.setIfInBounds_toArray, List.set_cons_zero, List.set_cons_succ]
                    refine wpAnyH_take (i := 22) (oi := ⟨some 153, _, _, _, _, _⟩) (v := ?_) rfl (by kernel_rfl) (by kernel_rfl) (by kernel_rfl) (fun _ _ _ h => h) (Or.inl ⟨by rfl, ?_⟩) (by assumption) ?_
                    rotate_left
                    · (intro wz hSw; (try dsimp only at hSw); obtain ⟨hS0, hS1, hS2, hS3, hS4, hS5, hS6⟩ := hSw; go_simp; try with_reducible rfl)
                    try simp only [Act.put, List.setIfInBounds_toArray, List.set_cons_zero, List.set_cons_succ]
                    refine wpAnyH_done (by kernel_rfl) ?_ _
                    go_wp2_with fail
                    exact ⟨⟨k + 1, by omega, by go_num, Lib.hid (HQk.out.q HQn.out)⟩, by simp [intOf]; omega⟩
                  · have h3b : (ck == 3) = false := by rw [beq_eq_false_iff_ne]; exact h3
                    clear hck
                    go_wp2_with fail
                    refine wp_region_held_drew (S := (fun w' => w'.cell? ⟨cb, coff + k * 2, none⟩ = some (.int .i64 ck))) (by kernel_rfl) ?_ (fun hHeld => ?_)
                    · exact c0
                    refine wpAnyH_take (i := 0) (oi := ⟨some 131, _, _, _, _, _⟩) (v := ?_) rfl (by kernel_rfl) (by kernel_rfl) (by kernel_rfl) (fun _ _ _ h => h) (Or.inl ⟨by rfl, ?_⟩) (by assumption) ?_
                    rotate_left
                    · (intro wz hSw; (try dsimp only at hSw); go_simp; try with_reducible rfl)
                    try simp only [Act.put, List.setIfInBounds_toArray, List.set_cons_zero, List.set_cons_succ]
                    refine wpAnyH_take (i := 1) (oi := ⟨some 132, _, _, _, _, _⟩) (v := ?_) rfl (by kernel_rfl) (by kernel_rfl) (by kernel_rfl) (fun _ _ _ h => h) (Or.inl ⟨by rfl, ?_⟩) (by assumption) ?_
                    rotate_left
                    · (intro wz hSw; (try dsimp only at hSw); go_simp; try with_reducible rfl)
                    try simp only [Act.put, List.setIfInBounds_toArray, List.set_cons_zero, List.set_cons_succ]
                    refine wpAnyH_take (i := 2) (oi := ⟨some 133, _, _, _, _, _⟩) (v := ?_) rfl (by kernel_rfl) (by kernel_rfl) (by kernel_rfl) (fun _ _ _ h => h) (Or.inl ⟨by rfl, ?_⟩) (by assumption) ?_
                    rotate_left
                    · (intro wz hSw; (try dsimp only at hSw); go_simp; try with_reducible rfl)
                    try simp only [Act.put, List.setIfInBounds_toArray, List.set_cons_zero, List.set_cons_succ]
                    refine wpAnyH_take (i := 3) (oi := ⟨some 134, _, _, _, _, _⟩) (v := ?_) rfl (by kernel_rfl) (by kernel_rfl) (by kernel_rfl) (fun _ _ _ h => h) (Or.inl ⟨by rfl, ?_⟩) (by assumption) ?_
                    rotate_left
                    · (intro wz hSw; (try dsimp only at hSw); go_simp; try with_reducible rfl)
                    try simp only [Act.put, List.setIfInBounds_toArray, List.set_cons_zero, List.set_cons_succ]
                    refine wpAnyH_take (i := 4) (oi := ⟨some 135, _, _, _, _, _⟩) (v := ?_) rfl (by kernel_rfl) (by kernel_rfl) (by kernel_rfl) (fun _ _ _ h => h) (Or.inl ⟨by rfl, ?_⟩) (by assumption) ?_
                    rotate_left
                    · (intro wz hSw; (try dsimp only at hSw); go_simp; try with_reducible rfl)
                    try simp only [Act.put, List.setIfInBounds_toArray, List.set_cons_zero, List.set_cons_succ]
                    refine wpAnyH_take (i := 5) (oi := ⟨some 136, _, _, _, _, _⟩) (v := ?_) rfl (by kernel_rfl) (by kernel_rfl) (by kernel_rfl) (fun _ _ _ h => h) (Or.inl ⟨by rfl, ?_⟩) (by assumption) ?_
                    rotate_left
                    · (intro wz hSw; (try dsimp only at hSw); go_simp; try with_reducible rfl)
                    try simp only [Act.put, List.setIfInBounds_toArray, List.set_cons_zero, List.set_cons_succ]
                    refine wpAnyH_take (i := 6) (oi := ⟨some 137, _, _, _, _, _⟩) (v := ?_) rfl (by kernel_rfl) (by kernel_rfl) (by kernel_rfl) (fun _ _ _ h => h) (Or.inl ⟨by rfl, ?_⟩) (by assumption) ?_
                    rotate_left
                    · (intro wz hSw; (try dsimp only at hSw); go_simp; try with_reducible rfl)
                    try simp only [Act.put, List.setIfInBounds_toArray, List.set_cons_zero, List.set_cons_succ]
                    refine wpAnyH_take (i := 7) (oi := ⟨some 138, _, _, _, _, _⟩) (v := undef) rfl (by kernel_rfl) (by kernel_rfl) (by kernel_rfl) (fun _ _ _ h => h) (Or.inr ⟨by rfl, rfl⟩) (by assumption) ?_
                    try simp only [Act.put, List.setIfInBounds_toArray, List.set_cons_zero, List.set_cons_succ]
                    refine wpAnyH_take (i := 8) (oi := ⟨some 139, _, _, _, _, _⟩) (v := undef) rfl (by kernel_rfl) (by kernel_rfl) (by kernel_rfl) (fun _ _ _ h => h) (Or.inr ⟨by rfl, rfl⟩) (by assumption) ?_
                    try simp only [Act.put, List.setIfInBounds_toArray, List.set_cons_zero, List.set_cons_succ]
                    refine wpAnyH_take (i := 9) (oi := ⟨some 140, _, _, _, _, _⟩) (v := undef) rfl (by kernel_rfl) (by kernel_rfl) (by kernel_rfl) (fun _ _ _ h => h) (Or.inr ⟨by rfl, rfl⟩) (by assumption) ?_
                    try simp only [Act.put, List.setIfInBounds_toArray, List.set_cons_zero, List.set_cons_succ]
                    refine wpAnyH_take (i := 10) (oi := ⟨some 141, _, _, _, _, _⟩) (v := undef) rfl (by kernel_rfl) (by kernel_rfl) (by kernel_rfl) (fun _ _ _ h => h) (Or.inr ⟨by rfl, rfl⟩) (by assumption) ?_
                    try simp only [Act.put, List.setIfInBounds_toArray, List.set_cons_zero, List.set_cons_succ]
                    refine wpAnyH_take (i := 11) (oi := ⟨some 142, _, _, _, _, _⟩) (v := undef) rfl (by kernel_rfl) (by kernel_rfl) (by kernel_rfl) (fun _ _ _ h => h) (Or.inr ⟨by rfl, rfl⟩) (by assumption) ?_
                    try simp only [Act.put, List.setIfInBounds_toArray, List.set_cons_zero, List.set_cons_succ]
                    refine wpAnyH_take (i := 12) (oi := ⟨some 143, _, _, _, _, _⟩) (v := undef) rfl (by kernel_rfl) (by kernel_rfl) (by kernel_rfl) (fun _ _ _ h => h) (Or.inr ⟨by rfl, rfl⟩) (by assumption) ?_
                    try simp only [Act.put, List.setIfInBounds_toArray, List.set_cons_zero, List.set_cons_succ]
                    refine wpAnyH_take (i := 13) (oi := ⟨some 144, _, _, _, _, _⟩) (v := undef) rfl (by kernel_rfl) (by kernel_rfl) (by kernel_rfl) (fun _ _ _ h => h) (Or.inr ⟨by rfl, rfl⟩) (by assumption) ?_
                    try simp only [Act.put, List.setIfInBounds_toArray, List.set_cons_zero, List.set_cons_succ]
                    refine wpAnyH_take (i := 14) (oi := ⟨some 145, _, _, _, _, _⟩) (v := undef) rfl (by kernel_rfl) (by kernel_rfl) (by kernel_rfl) (fun _ _ _ h => h) (Or.inr ⟨by rfl, rfl⟩) (by assumption) ?_
                    try simp only [Act.put, List.setIfInBounds_toArray, List.set_cons_zero, List.set_cons_succ]
                    refine wpAnyH_take (i := 15) (oi := ⟨some 146, _, _, _, _, _⟩) (v := undef) rfl (by kernel_rfl) (by kernel_rfl) (by kernel_rfl) (fun _ _ _ h => h) (Or.inr ⟨by rfl, rfl⟩) (by assumption) ?_
                    try simp only [Act.put, List.setIfInBounds_toArray, List.set_cons_zero, List.set_cons_succ]
                    refine wpAnyH_take (i := 16) (oi := ⟨some 147, _, _, _, _, _⟩) (v := undef) rfl (by kernel_rfl) (by kernel_rfl) (by kernel_rfl) (fun _ _ _ h => h) (Or.inr ⟨by rfl, rfl⟩) (by assumption) ?_
                    try simp only [Act.put, List.setIfInBounds_toArray, List.set_cons_zero, List.set_cons_succ]
                    refine wpAnyH_take (i := 17) (oi := ⟨some 148, _, _, _, _, _⟩) (v := undef) rfl (by kernel_rfl) (by kernel_rfl) (by kernel_rfl) (fun _ _ _ h => h) (Or.inr ⟨by rfl, rfl⟩) (by assumption) ?_
                    try simp only [Act.put, List.setIfInBounds_toArray, List.set_cons_zero, List.set_cons_succ]
                    refine wpAnyH_take (i := 18) (oi := ⟨some 149, _, _, _, _, _⟩) (v := undef) rfl (by kernel_rfl) (by kernel_rfl) (by kernel_rfl) (fun _ _ _ h => h) (Or.inr ⟨by rfl, rfl⟩) (by assumption) ?_
                    try simp only [Act.put, List.setIfInBounds_toArray, List.set_cons_zero, List.set_cons_succ]
                    refine wpAnyH_take (i := 19) (oi := ⟨some 150, _, _, _, _, _⟩) (v := undef) rfl (by kernel_rfl) (by kernel_rfl) (by kernel_rfl) (fun _ _ _ h => h) (Or.inr ⟨by rfl, rfl⟩) (by assumption) ?_
                    try simp only [Act.put, List.setIfInBounds_toArray, List.set_cons_zero, List.set_cons_succ]
                    refine wpAnyH_take (i := 20) (oi := ⟨some 151, _, _, _, _, _⟩) (v := undef) rfl (by kernel_rfl) (by kernel_rfl) (by kernel_rfl) (fun _ _ _ h => h) (Or.inr ⟨by rfl, rfl⟩) (by assumption) ?_
                    try simp only [Act.put, List.setIfInBounds_toArray, List.set_cons_zero, List.set_cons_succ]
                    refine wpAnyH_take (i := 21) (oi := ⟨some 152, _, _, _, _, _⟩) (v := undef) rfl (by kernel_rfl) (by kernel_rfl) (by kernel_rfl) (fun _ _ _ h => h) (Or.inr ⟨by rfl, rfl⟩) (by assumption) ?_
                    try simp only [Act.put, List.setIfInBounds_toArray, List.set_cons_zero, List.set_cons_succ]
                    refine wpAnyH_take (i := 22) (oi := ⟨some 153, _, _, _, _, _⟩) (v := ?_) rfl (by kernel_rfl) (by kernel_rfl) (by kernel_rfl) (fun _ _ _ h => h) (Or.inl ⟨by rfl, ?_⟩) (by assumption) ?_
                    rotate_left
                    · (intro wz hSw; (try dsimp only at hSw); go_simp; try with_reducible rfl)
                    try simp only [Act.put, List.setIfInBounds_toArray, List.set_cons_zero, List.set_cons_succ]
                    refine wpAnyH_done (by kernel_rfl) ?_ _
                    go_wp2_with fail
                    exact ⟨⟨k + 1, by omega, by go_num, Lib.hid HQk.out.drew⟩, by simp [intOf]; omega⟩
                · obtain rfl : k = l.length := by omega
                  have hx : ¬ (l.length : Int) < (l.length : Int) := by omega
                  have htl : (all.take M).length = M := by rw [List.length_take, Hal.out]; omega
                  have Htl := Lib.hid htl
                  have HMl : Hid (M ≤ l.length) := Lib.hid (by omega)
                  have hMc : M ≤ cap := by have := Hcap.out; omega
                  have hMi : (M : Int) ≤ (cap : Int) := by omega
                  have hMf : M ≤ fcap := by have := Hfc.out; rw [Hal.out] at this; omega
                  have hMfi : (M : Int) ≤ (fcap : Int) := by omega
                  have hMn : ¬ (M : Int) < 0 := by omega
                  clear htl hlt hk
                  go_wp2_with fail
                  go_at_call 15
                  refine (frames_any W H ((HL.out.take HMl.out).quiet (HQ4.out.q (HQc.out.q HQk.out)))).mono ?_
                  rintro e W7 ⟨hq7, hm⟩
                  rw [heads_at Hfr.out M] at hm
                  obtain ⟨ta, tcap, rfl, hts⟩ := hm
                  have HTs := Lib.hid hts
                  have HQ7 := Lib.hid (HQc.out.q (HQk.out.q hq7))
                  rw [Htl.out]
                  clear hq7 hts
                  go_wp2_with fail
                  go_at_call 9
                  refine (HGo.out W7 (HQ4.out.q HQ7.out)).mono ?_
                  rintro e W8 ⟨rfl, hq8⟩
                  have hks := kframes_same (HTs.out.quiet hq8) ((HFS.out.take (k := M) (by rw [Hal.out]; exact HMl.out)).quiet (HQ7.out.q hq8))
                  rw [Htl.out] at hks
                  have HKs := Lib.hid hks
                  have HQ8 := Lib.hid (HQ4.out.q (HQ7.out.q hq8))
                  clear hks hq8
                  go_wp2_with fail
                  go_at_call 17
                  refine HKs.out.mono ?_
                  rintro e W9 ⟨rfl, hq9⟩
                  have HQ9 := Lib.hid (HQ8.out.q hq9)
                  clear hq9
                  go_wp2_with fail
                  exact HPost.out _ _ ⟨rfl, HQ9.out⟩
theorem dleans_card {v pv : Value} {w : World} {l : List Coded} {prev : FrameD} (hl : CodedsAt 0 w.heap.size w v l) (hp : Ints .i64 0 w.heap.size w pv prev.pix) {at0 : Int} (hat : InK .i64 at0) (W H : Int) (_ : w.heap.size ≤ w.heap.size) (hE : ErrT w) : Calls Tryz.prog 5 #[v, .agg #[.int .i64 prev.W, .int .i64 prev.H, pv], .int .i64 at0, .int .i64 W, .int .i64 H] w fun e w' => (e = .returned (.bool true) ∧ Only [] w w') := dleans_any hl hp hat W H hE
#print axioms dleans_any
end Go.Proofs.YthgpgbdkcdmbpaaGreatDoor
