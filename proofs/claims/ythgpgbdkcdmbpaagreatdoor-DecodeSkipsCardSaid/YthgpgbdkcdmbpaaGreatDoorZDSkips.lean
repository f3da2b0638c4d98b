/- Joined texts: DSkips. Conditions: each part names its own. -/
import Derived.Test.YthgpgbdkcdmbpaaGreatDoorZDFrames
import Derived.Test.YthgpgbdkcdmbpaaGreatDoorZDSkipsL
import Derived.Test.YthgpgbdkcdmbpaaGreatDoorZDOwnK
import Derived.Test.YthgpgbdkcdmbpaaGreatDoorZDFirst
/- The law kinlaw21.DecodeSkips answers true. Conditions: the arguments read; errors.errorType holds error's type. -/
namespace Go.Proofs.YthgpgbdkcdmbpaaGreatDoor
open Go.RowKit
set_option linter.unusedVariables false
set_option linter.unusedSimpArgs false

theorem OwnKD.start {lo hi : Nat} {W : World} {k : Int} {dv : Value} {d : List Int} (hd : Ints .u8 lo hi W dv d) (hk : InK .i64 k) (hh : hi ≤ W.heap.size) :
    OwnKD lo hi W.heap.size (W.alloc (.cells #[.int .i64 k, dv] 24)) (.slice (some ⟨W.heap.size, 0, none⟩) 1 1) [⟨k, d⟩] := by
  have h0 := World.ownsRow_lit W (base := W.heap.size) (e := 24) (size := 2) #[.int .i64 k, dv] 1 (Nat.le_refl _) (by simp [maxLen]) rfl
  exact ⟨hh, _, h0, ElKD.one hk (hd.quiet (Only.new W _))⟩
theorem framesP_open {w w' : World} {r : Except Err (List FrameD)} {e : Ending} (h : FramesP w r e w') : Only [] w w' := h.1
set_option maxRecDepth 100000 in
set_option maxHeartbeats 8000000 in
theorem dskips_any {dv : Value} {w : World} {c : Coded} (hd : Ints .u8 0 w.heap.size w dv c.data) (hk : InK .i64 c.kind) (n W H : Int) (hE : ErrT w) :
    Calls Tryz.prog 6 #[.agg #[.int .i64 c.kind, dv], .int .i64 n, .int .i64 W, .int .i64 H] w fun e w' => (e = .returned (.bool true) ∧ Only [] w w') := by
  suffices key : ∀ Q : Ending → World → Prop, Hid (∀ e w', (e = .returned (.bool true) ∧ Only [] w w') → Q e w') → Calls Tryz.prog 6 #[.agg #[.int .i64 c.kind, dv], .int .i64 n, .int .i64 W, .int .i64 H] w Q from key _ (Lib.hid fun _ _ h => h)
  intro Q HPost
  obtain ⟨da, dcap, rfl, -, hmax, -⟩ := hd.open
  have hdl : (c.data.length : Int) ≤ 9223372036854775807 := by
    have := hd.1.len_le
    unfold maxLen at this
    omega
  have hq1 := Only.new w (.cells #[.int .i64 c.kind, .slice da c.data.length dcap] 24)
  have HB0 : Hid ((w.alloc (.cells #[.int .i64 c.kind, .slice da c.data.length dcap] 24)).heap[w.heap.size]? = some (.cells #[.int .i64 c.kind, .slice da c.data.length dcap] 24 (0, 0))) := Lib.hid (heap_alloc_new w _)
  have HQ1 := Lib.hid hq1
  have HD := Lib.hid hd
  have HE := Lib.hid hE
  have Hk := Lib.hid hk
  have HRb := Lib.hid (frameD_both (c := c) (prev := frame0) (w := W) (h := H) hd.2)
  clear hd hE hk hq1 hmax
  go_enter Tryz.func6, Tryz.ntmps6
  go_wp2_with fail
  generalize hW1 : World.alloc w _ = W1 at *
  clear hW1
  go_at_call 9
  refine (dfirst_any W1 (HE.out.quiet HQ1.out)).mono ?_
  rintro e W2 ⟨rfl, hq2⟩
  have HQ2 := Lib.hid (HQ1.out.q hq2)
  have HB2 := Lib.hid (hq2.row HB0.out)
  obtain ⟨k0, k1⟩ := row2 HB2.out
  clear hq2
  by_cases hbad : 20000 < c.data.length ∨ n < 0 ∨ 20 < n
  · have hgo : ∀ W5, Only [] w W5 → Calls Tryz.prog 9 #[] W5 fun e w' => e = .returned (.bool true) ∧ Only [] W5 w' := fun W5 o => dfirst_any W5 (HE.out.quiet o)
    have HGo := Lib.hid hgo
    clear hgo
    by_cases hb1 : 20000 < c.data.length
    · have hb1' : (20000 : Int) < (c.data.length : Int) := by omega
      clear hbad
      go_wp2_with fail
      go_at_call 9
      refine (HGo.out W2 HQ2.out).mono ?_
      rintro e W4 ⟨rfl, hq4⟩
      have HQ4 := Lib.hid (HQ2.out.q hq4)
      clear hq4
      go_wp2_with fail
      exact HPost.out _ _ ⟨rfl, HQ4.out⟩
    · have hb1' : ¬ (20000 : Int) < (c.data.length : Int) := by omega
      by_cases hb2 : n < 0
      · clear hbad
        go_wp2_with fail
        go_at_call 9
        refine (HGo.out W2 HQ2.out).mono ?_
        rintro e W4 ⟨rfl, hq4⟩
        have HQ4 := Lib.hid (HQ2.out.q hq4)
        clear hq4
        go_wp2_with fail
        exact HPost.out _ _ ⟨rfl, HQ4.out⟩
      · have hb3 : 20 < n := by omega
        clear hbad
        go_wp2_with fail
        go_at_call 9
        refine (HGo.out W2 HQ2.out).mono ?_
        rintro e W4 ⟨rfl, hq4⟩
        have HQ4 := Lib.hid (HQ2.out.q hq4)
        clear hq4
        go_wp2_with fail
        exact HPost.out _ _ ⟨rfl, HQ4.out⟩
  · have hb1 : ¬ (20000 : Int) < (c.data.length : Int) := by omega
    have hb2 : ¬ n < 0 := by omega
    have hb3 : ¬ 20 < n := by omega
    obtain ⟨n, rfl⟩ := Int.eq_ofNat_of_zero_le (by omega : 0 ≤ n)
    have hn20 : n ≤ 20 := by omega
    clear hbad
    go_wp2_with fail
    clear k0 k1
    have hst := OwnKD.start (lo := 0) (hi := w.heap.size) (W := W2) (k := c.kind) (d := c.data) (HD.out.quiet HQ2.out) Hk.out HQ2.out.size
    have hn3 := Only.new W2 (.cells #[.int .i64 c.kind, .slice da c.data.length dcap] 24)
    have HS3 := Lib.hid hst
    have HQ3 := Lib.hid (HQ2.out.q hn3)
    have HB3 := Lib.hid (hn3.row HB2.out)
    have HZ3 := Lib.hid (show W2.heap.size ≤ (W2.alloc (.cells #[.int .i64 c.kind, .slice da c.data.length dcap] 24)).heap.size from hn3.size)
    have hbw := block_lt_of_cell (row2 HB2.out).1
    have HBW : Hid (w.heap.size < W2.heap.size) := Lib.hid hbw
    clear hst hn3 hbw
    generalize hW3 : World.alloc W2 _ = W3 at *
    clear hW3
    go_loopw [10, 9] (fun i r wr => ∃ (k : Nat), k ≤ n ∧ i = .int .i64 k ∧ Hid (OwnKD 0 w.heap.size W2.heap.size wr r ([c] ++ List.replicate k skipC)) ∧ Hid (From W2.heap.size r) ∧ Hid (Only [] w wr) ∧ Hid (wr.heap[w.heap.size]? = some (.cells #[.int .i64 c.kind, .slice da c.data.length dcap] 24 (0, 0))) ∧ Hid (W2.heap.size ≤ wr.heap.size)) (fun i _ _ => n - (intOf i).toNat)
    case atStart => exact ⟨0, by omega, rfl, HS3, Lib.hid (From.lit (Nat.le_refl _)), HQ3, HB3, HZ3⟩
    case round =>
      obtain ⟨k, hk, rfl, HOk, HFk, HQk, HBk, HWk⟩ := hrel
      obtain ⟨ra, rcap, rfl⟩ := HOk.out.isSlice
      have hlen : ([c] ++ List.replicate k skipC).length = k + 1 := by simp
      rw [hlen] at HOk HFk ⊢
      have Hlen := Lib.hid hlen
      clear hlen
      have hzw := block_lt_of_cell (row2 HBk.out).1
      by_cases hlt : k < n
      · have hki : (k : Int) < (n : Int) := by omega
        have hown := HOk.out.at
        have HnG : Hid (∀ x, (Value.slice ra (k + 1) rcap).ownBlock = some x → W2.heap.size ≤ x) := Lib.hid (fun x hx => (hown x hx).1)
        have hwz := HWk.out
        have hba := Lib.hid (fun (o : Obj) => (show W2.heap.size ≤ (wr.alloc o).heap.size by simp; omega))
        have hCs := Lib.hid (fun (W : World) => cells_newG (size := 2) (w := W) (t := 24) (vs := #[.int .i64 3, .slice none 0 0]) (xs := [.int .i64 3, .slice none 0 0]) (n := 1) rfl rfl (by simp [maxLen]) rfl)
        have hEl := Lib.hid (fun (W : World) => ElKD.one (lo := 0) (hi := w.heap.size) (w := W) (k := 3) (data := []) (dv := .slice none 0 0) (by simp [InK]) (Ints.nil _ _ _ _))
        have hby := Lib.hid (show (([c] ++ List.replicate k skipC).length + [(⟨3, []⟩ : Coded)].length) * 32 ≤ 140737488355328 by rw [Hlen.out]; simp; omega)
        have HL : Hid (([c] ++ List.replicate k skipC ++ [(⟨3, []⟩ : Coded)]).length = k + 2) := Lib.hid (by rw [List.length_append, Hlen.out]; rfl)
        have HMo : Hid ([c] ++ List.replicate (k + 1) skipC = [c] ++ List.replicate k skipC ++ [(⟨3, []⟩ : Coded)]) := Lib.hid (by first | rfl | (rw [List.replicate_succ', ← List.append_assoc]; rfl))
        have HQ4 := Lib.hid (HQk.out.q (Only.new wr (.cells #[.int .i64 3, .slice none 0 0] 24)))
        have HBn := Lib.hid (fun (o : Obj) => (Only.new wr o).row HBk.out)
        clear hown hwz
        go_wp2_with (first
          | (at_builtin; refine wpList_append_ckD rfl (.tmp 38) (.tmp 40) _ rfl ECd (HOk.out.quiet (Only.new _ _)) rfl (hCs.out _) (hEl.out _) rfl hby.out (hba.out _) (fun v1 w4 hown1 ho1 => ?_); obtain ⟨x1, x1cap, hx1⟩ := hown1.isSlice; subst hx1; rw [HL.out] at hown1 ho1 ⊢; have HO1 := Lib.hid hown1; have HA1 := Lib.hid ho1; clear hown1 ho1)
          | fail)
        refine ⟨⟨k + 1, by omega, by go_num, Lib.hid ?_, Lib.hid (HA1.out.from_ HFk.out (hba.out _)), Lib.hid (HQ4.out.trans HA1.out.only (U := []) (by simp) (fun x hx hl => by have := HnG.out x (by simpa using hx); have := HBW.out; omega)), Lib.hid (HA1.out.only.rowAt (HBn.out _) (fun hm => by have := HnG.out _ (by simpa using hm); have := HBW.out; omega)), Lib.hid (Nat.le_trans HWk.out (Nat.le_trans (by simp) HA1.out.only.size))⟩, by simp [intOf]; omega⟩
        rw [HMo.out]
        exact HO1.out
      · obtain rfl : k = n := by omega
        have hki : ¬ (k : Int) < (k : Int) := by omega
        have hown := HOk.out.at
        have HnG : Hid (∀ x, (Value.slice ra (k + 1) rcap).ownBlock = some x → W2.heap.size ≤ x) := Lib.hid (fun x hx => (hown x hx).1)
        have hwz := HWk.out
        have hba := Lib.hid (fun (o : Obj) => (show W2.heap.size ≤ (wr.alloc o).heap.size by simp; omega))
        have hCs := Lib.hid (fun (W : World) => cells_newG (size := 2) (w := W) (t := 24) (vs := #[.int .i64 4, .slice none 0 0]) (xs := [.int .i64 4, .slice none 0 0]) (n := 1) rfl rfl (by simp [maxLen]) rfl)
        have hEl := Lib.hid (fun (W : World) => ElKD.one (lo := 0) (hi := w.heap.size) (w := W) (k := 4) (data := []) (dv := .slice none 0 0) (by simp [InK]) (Ints.nil _ _ _ _))
        have hby := Lib.hid (show (([c] ++ List.replicate k skipC).length + [(⟨4, []⟩ : Coded)].length) * 32 ≤ 140737488355328 by rw [Hlen.out]; simp; omega)
        have HL : Hid (([c] ++ List.replicate k skipC ++ [(⟨4, []⟩ : Coded)]).length = k + 2) := Lib.hid (by rw [List.length_append, Hlen.out]; rfl)
        have HMo : Hid ([c] ++ List.replicate k skipC ++ [flatC] = [c] ++ List.replicate k skipC ++ [(⟨4, []⟩ : Coded)]) := Lib.hid (by first | rfl | (rw [List.replicate_succ', ← List.append_assoc]; rfl))
        have HQ4 := Lib.hid (HQk.out.q (Only.new wr (.cells #[.int .i64 4, .slice none 0 0] 24)))
        have HBn := Lib.hid (fun (o : Obj) => (Only.new wr o).row HBk.out)
        clear hown hwz
        go_wp2_with (first
          | (at_builtin; refine wpList_append_ckD rfl (.tmp 42) (.tmp 44) _ rfl ECd (HOk.out.quiet (Only.new _ _)) rfl (hCs.out _) (hEl.out _) rfl hby.out (hba.out _) (fun v1 w4 hown1 ho1 => ?_); obtain ⟨x1, x1cap, hx1⟩ := hown1.isSlice; subst hx1; rw [HL.out] at hown1 ho1 ⊢; have HO1 := Lib.hid hown1; have HA1 := Lib.hid ho1; clear hown1 ho1)
          | fail)
        have hqw : Only [] w w4 := HQ4.out.trans HA1.out.only (U := []) (by simp) (fun x hx hl => by have := HnG.out x (by simpa using hx); have := HBW.out; omega)
        have HQw := Lib.hid hqw
        have HB4 := Lib.hid (HA1.out.only.rowAt (HBn.out _) (fun hm => by have := HnG.out _ (by simpa using hm); have := HBW.out; omega))
        have hcod := HO1.out.codeds (Nat.zero_le _) (Nat.le_trans HWk.out (Nat.le_trans (by simp) HA1.out.only.size))
        have HFs := Lib.hid (frames_any W H hcod)
        have HL2 : Hid ([c] ++ List.replicate k skipC ++ [(⟨4, []⟩ : Coded)] = [c] ++ List.replicate k skipC ++ [flatC]) := Lib.hid rfl
        clear hqw hcod
        go_at_call 15
        refine HFs.out.mono ?_
        rintro e W5 ⟨hq5, hm⟩
        rw [HL2.out] at hm
        have HQ5 := Lib.hid (HQw.out.q hq5)
        have HB5 := Lib.hid (hq5.row HB4.out)
        clear hq5
        by_cases h16 : 16 < k + 2
        · have hr : framesD ([c] ++ List.replicate k skipC ++ [flatC]) W H = .error ⟨[], 5⟩ := by unfold framesD; rw [if_pos (by simp; omega)]
          rw [hr] at hm
          obtain ⟨ev, rfl, hev⟩ := hm
          have hev' : ev = .iface 37 (.int .i64 5) := hev
          subst hev'
          have h16a : (16 : Int) < ((k + 2 : Nat) : Int) := by omega
          have h16b : (16 : Int) < (k : Int) + 2 := by omega
          clear hr hev h16
          go_wp2_with fail
          go_at_call 9
          refine (dfirst_any W5 (HE.out.quiet HQ5.out)).mono ?_
          rintro e W6 ⟨rfl, hq6⟩
          have HQ6 := Lib.hid (HQ5.out.q hq6)
          clear hq6
          go_wp2_with fail
          go_at_call 22
          refine (fail_any 5 W6).mono ?_
          rintro e W7 ⟨rfl, hq7⟩
          have hsm := same_any (v := .iface 37 (.int .i64 5)) (sv := .slice none 0 0) (o := some ⟨[], 5⟩) (c := 5) (p := []) (w := W7) (lo := 0) (hi := 0) (lo' := 0) (hi' := 0) (ErrV.code 0 0 W7 5) (Nat.zero_le _) (HE.out.quiet (HQ6.out.q hq7)) (by simp) (Cells.nil _ _ _ _) rfl rfl rfl
          have HSm := Lib.hid hsm
          have HQ7 := Lib.hid (HQ6.out.q hq7)
          clear hsm hq7
          go_wp2_with fail
          go_at_call 18
          refine HSm.out.mono ?_
          rintro e W8 ⟨rfl, hq8⟩
          have HQ8 := Lib.hid (HQ7.out.q hq8)
          clear hq8
          go_wp2_with fail
          exact HPost.out _ _ ⟨rfl, HQ8.out⟩
        · obtain ⟨hsk1, hsk2⟩ := framesD_skips (c := c) (n := k) (W := W) (H := H) HD.out.2 (by omega)
          have h16a : ¬ (16 : Int) < ((k + 2 : Nat) : Int) := by omega
          have h16b : ¬ (16 : Int) < (k : Int) + 2 := by omega
          have HFr := Lib.hid (fun (wx : World) (o : Only [] w wx) => frame_any (c := c) (prev := frame0) W H (HD.out.quiet o) (Ints.nil .i64 0 0 wx))
          obtain ⟨k0, k1⟩ := row2 HB5.out
          have H16 := Lib.hid h16
          clear h16
          cases hfr : frameD c frame0 W H with
          | error er =>
            rw [hsk2 er hfr] at hm
            obtain ⟨ev, rfl, hev⟩ := hm
            obtain ⟨et, eu, rfl⟩ := hev.held
            have HEv := Lib.hid hev
            rw [hfr] at HFr
            clear hsk1 hsk2 hev hfr
            go_wp2_with fail
            go_at_call 11
            refine (HFr.out W5 HQ5.out).mono ?_
            rintro e W6 ⟨hq6, ev2, rfl, hev2⟩
            obtain ⟨et2, eu2, rfl⟩ := hev2.held
            have HEv2 := Lib.hid hev2
            have HQ6 := Lib.hid (HQ5.out.q hq6)
            have HEv6 := Lib.hid (HEv.out.quiet hq6)
            clear hq6 hev2 k0 k1
            have hnw := Only.new W6 (.cells #[.int .i64 0, .int .i64 0, .slice none 0 0] 27)
            have HQ7 := Lib.hid (HQ6.out.q hnw)
            have HE17 := Lib.hid (HEv6.out.quiet hnw)
            have HE27 := Lib.hid (HEv2.out.quiet hnw)
            clear hnw
            go_wp2_with fail
            generalize hW7 : World.alloc W6 _ = W7 at *
            clear hW7
            go_at_call 9
            refine (dfirst_any W7 (HE.out.quiet HQ7.out)).mono ?_
            rintro e W8 ⟨rfl, hq8⟩
            have HQ8 := Lib.hid (HQ7.out.q hq8)
            have Ho1 := Lib.hid (of_any (o := some (inE sFrames 0 er)) (HE17.out.quiet hq8) (HE.out.quiet (HQ7.out.q hq8)))
            have Ho2 := Lib.hid (fun (wx : World) (o : Only [] W8 wx) => of_any (o := some er) ((HE27.out.quiet hq8).quiet o) (HE.out.quiet ((HQ7.out.q hq8).q o)))
            clear hq8
            go_wp2_with fail
            go_at_call 13
            refine Ho1.out.mono ?_
            rintro e W9 ⟨rfl, hq9⟩
            have HQ9 := Lib.hid (HQ8.out.q hq9)
            have Ho29 := Lib.hid (Ho2.out W9 hq9)
            rw [show codeOf (some (inE sFrames 0 er)) = codeOf (some er) from rfl]
            clear hq9
            generalize codeOf (some er) = kc at *
            go_wp2_with fail
            go_at_call 13
            refine Ho29.out.mono ?_
            rintro e W10 ⟨rfl, hq10⟩
            have HQ10 := Lib.hid (HQ9.out.q hq10)
            clear hq10
            go_wp2_with fail
            exact HPost.out _ _ ⟨rfl, HQ10.out⟩
          | ok f =>
            rw [hsk1 f hfr] at hm
            obtain ⟨fa, fcap, rfl, hfs⟩ := hm
            obtain ⟨hok, hfw, hfh⟩ := HRb.out.1 f hfr
            have hfl : (List.replicate (k + 1) f ++ [newF W H 128]).length = k + 2 := by simp
            rw [hfl] at hfs ⊢
            rw [hfr] at HFr
            have HFS := Lib.hid hfs
            have Hfl := Lib.hid hfl
            have Hff := Lib.hid (And.intro hok (And.intro hfw hfh))
            have e2 : ((k : Int) + 2 == ((k + 2 : Nat) : Int)) = true := by rw [beq_iff_eq]; omega
            clear hsk1 hsk2 hfs hfr hok hfw hfh hfl e2
            go_wp2_with fail
            go_at_call 11
            refine (HFr.out W5 HQ5.out).mono ?_
            rintro e W6 ⟨hq6, g, gcap, rfl, hown6⟩
            rw [Hff.out.2.1, Hff.out.2.2]
            have HOw6 := Lib.hid hown6
            have HQ6 := Lib.hid (HQ5.out.q hq6)
            have HFS6 := Lib.hid (HFS.out.quiet hq6)
            clear hq6 hown6 k0 k1
            have hnw := Only.new W6 (.cells #[.int .i64 W, .int .i64 H, .slice (some ⟨g, 0, none⟩) f.pix.length gcap] 27)
            have HT7 : Hid ((W6.alloc (.cells #[.int .i64 W, .int .i64 H, .slice (some ⟨g, 0, none⟩) f.pix.length gcap] 27)).heap[W6.heap.size]? = some (.cells #[.int .i64 W, .int .i64 H, .slice (some ⟨g, 0, none⟩) f.pix.length gcap] 27 (0, 0))) := Lib.hid (heap_alloc_new W6 _)
            have HQ7 := Lib.hid (HQ6.out.q hnw)
            have HFS7 := Lib.hid (HFS6.out.quiet hnw)
            have HO7 := Lib.hid (HOw6.out.quiet hnw)
            clear hnw
            go_wp2_with fail
            generalize hW7 : World.alloc W6 _ = W7 at *
            clear hW7
            have hfo := HFS7.out.open
            obtain ⟨fa', fcap', hfe, -, -, hel⟩ := hfo
            rw [Hfl.out] at hfe hel
            injection hfe with q1 q2 q3
            subst q1; subst q3
            have Hel := Lib.hid hel
            have Hrep : Hid (∀ j, j < k + 1 → (List.replicate (k + 1) f ++ [newF W H 128]).getD j default = f) := Lib.hid (fun j hj => by
              rw [List.getD_eq_getElem?_getD, List.getElem?_append_left (by simpa using hj), List.getElem?_replicate, if_pos hj]; rfl)
            have Hlast : Hid ((List.replicate (k + 1) f ++ [newF W H 128]).getD (k + 1) default = newF W H 128) := Lib.hid (by
              rw [List.getD_eq_getElem?_getD, List.getElem?_append_right (by simp)]; simp)
            clear hel q2
            go_loopw [15, 103] (fun i _ wr => ∃ (j : Nat), j ≤ k + 1 ∧ i = .int .i64 j ∧ Hid (Only [] W7 wr)) (fun i _ _ => k + 1 - (intOf i).toNat)
            case atStart => exact ⟨0, by omega, rfl, Lib.hid (Only.refl _ _)⟩
            case round =>
              obtain ⟨j, hj, rfl, HQj⟩ := hrel
              by_cases hlt : j < k + 1
              · have hji : (j : Int) ≤ (k : Int) := by omega
                have hj0 : (0 : Int) ≤ (j : Int) := by omega
                have hj2 : (j : Int) < ((k + 2 : Nat) : Int) := by omega
                have hj3 : (j : Int) < (k : Int) + 2 := by omega
                obtain ⟨b, off, dvj, rfl, -, -, c0, c1, c2, hpj⟩ := Hel.out j (by omega)
                rw [Hrep.out j hlt] at c0 c1 hpj
                rw [Hff.out.2.1] at c0
                rw [Hff.out.2.2] at c1
                have d0 := HQj.out.cell c0 (by simp)
                have d1 := HQj.out.cell c1 (by simp)
                have d2 := HQj.out.cell c2 (by simp)
                have hrT := HQj.out.row HT7.out
                have hcmp := fun (wx : World) (o : Only [] W7 wx) => kframe_any (A := f) (B := f) (hpj.quiet o) (HO7.out.ints.quiet o)
                rw [Hff.out.2.1, Hff.out.2.2, show frEq f f = true by simp [frEq, eqB]] at hcmp
                have HCm := Lib.hid hcmp
                obtain ⟨pj, pjcap, rfl, -⟩ := hpj.open
                clear c0 c1 c2 hpj hcmp
                go_wp2_with fail
                refine wp_region_held_drew (S := (fun w' => w'.cell? ⟨b, off + j * 3, none⟩ = some (.int .i64 W) ∧ w'.cell? ⟨b, off + j * 3 + 1, none⟩ = some (.int .i64 H) ∧ w'.cell? ⟨b, off + j * 3 + 2, none⟩ = some (.slice pj f.pix.length pjcap) ∧ w'.heap[W6.heap.size]? = some (.cells #[.int .i64 W, .int .i64 H, .slice (some ⟨g, 0, none⟩) f.pix.length gcap] 27 (0, 0)))) (by kernel_rfl) ?_ (fun hHeld => ?_)
                · exact ⟨d0, d1, d2, hrT⟩
                refine wpAnyH_take (i := 0) (oi := ⟨some 103, _, _, _, _, _⟩) (v := ?_) rfl (by kernel_rfl) (by kernel_rfl) (by kernel_rfl) (fun _ _ _ h => h) (Or.inl ⟨by rfl, ?_⟩) (by assumption) ?_
                rotate_left
                · (intro wz hSw; (try dsimp only at hSw); obtain ⟨hS0, hS1, hS2, hS3⟩ := hSw; obtain ⟨p0, p1, p2⟩ := frame_cells hS3; go_simp; try with_reducible rfl)
                try simp only [Act.put, List.setIfInBounds_toArray, List.set_cons_zero, List.set_cons_succ]
                refine wpAnyH_take (i := 1) (oi := ⟨some 104, _, _, _, _, _⟩) (v := ?_) rfl (by kernel_rfl) (by kernel_rfl) (by kernel_rfl) (fun _ _ _ h => h) (Or.inl ⟨by rfl, ?_⟩) (by assumption) ?_
                rotate_left
                · (intro wz hSw; (try dsimp only at hSw); obtain ⟨hS0, hS1, hS2, hS3⟩ := hSw; obtain ⟨p0, p1, p2⟩ := frame_cells hS3; go_simp; try with_reducible rfl)
                try simp only [Act.put, List.setIfInBounds_toArray, List.set_cons_zero, List.set_cons_succ]
                refine wpAnyH_take (i := 2) (oi := ⟨some 105, _, _, _, _, _⟩) (v := ?_) rfl (by kernel_rfl) (by kernel_rfl) (by kernel_rfl) (fun _ _ _ h => h) (Or.inl ⟨by rfl, ?_⟩) (by assumption) ?_
                rotate_left
                · (intro wz hSw; (try dsimp only at hSw); obtain ⟨hS0, hS1, hS2, hS3⟩ := hSw; obtain ⟨p0, p1, p2⟩ := frame_cells hS3; go_simp; try with_reducible rfl)
                try simp only [Act.put, List.setIfInBounds_toArray, List.set_cons_zero, List.set_cons_succ]
                refine wpAnyH_take (i := 3) (oi := ⟨some 106, _, _, _, _, _⟩) (v := ?_) rfl (by kernel_rfl) (by kernel_rfl) (by kernel_rfl) (fun _ _ _ h => h) (Or.inl ⟨by rfl, ?_⟩) (by assumption) ?_
                rotate_left
                · (intro wz hSw; (try dsimp only at hSw); obtain ⟨hS0, hS1, hS2, hS3⟩ := hSw; obtain ⟨p0, p1, p2⟩ := frame_cells hS3; go_simp; try with_reducible rfl)
                try simp only [Act.put, List.setIfInBounds_toArray, List.set_cons_zero, List.set_cons_succ]
                refine wpAnyH_take (i := 4) (oi := ⟨some 107, _, _, _, _, _⟩) (v := ?_) rfl (by kernel_rfl) (by kernel_rfl) (by kernel_rfl) (fun _ _ _ h => h) (Or.inl ⟨by rfl, ?_⟩) (by assumption) ?_
                rotate_left
                · (intro wz hSw; (try dsimp only at hSw); obtain ⟨hS0, hS1, hS2, hS3⟩ := hSw; obtain ⟨p0, p1, p2⟩ := frame_cells hS3; go_simp; try with_reducible rfl)
                try simp only [Act.put, List.setIfInBounds_toArray, List.set_cons_zero, List.set_cons_succ]
                refine wpAnyH_ready (rs := [5]) (by kernel_rfl) (by simp) (AllReadyH.cons (o := ⟨some 108, _, _, _, _, _⟩) rfl (fun K hK => ?_) AllReadyH.nil)
                go_simp
                go_at_call 21
                refine (HCm.out wr.drew HQj.out.drew).mono ?_
                rintro e wn ⟨rfl, hqn⟩
                have HQn := Lib.hid ((Only.refl [] wr).drew.q hqn)
                have e0 := HQn.out.cell d0 (by simp)
                have e1 := HQn.out.cell d1 (by simp)
                have e2 := HQn.out.cell d2 (by simp)
                have e3 := HQn.out.row hrT
                clear hqn
                refine hK.out _ _ ?_ (fun hHeld => ?_)
                · exact ⟨e0, e1, e2, e3⟩
                clear hK K
                try simp only [Act.put, List.setIfInBounds_toArray, List.set_cons_zero, List.set_cons_succ]
                refine wpAnyH_take (i := 6) (oi := ⟨some 109, _, _, _, _, _⟩) (v := ?_) rfl (by kernel_rfl) (by kernel_rfl) (by kernel_rfl) (fun _ _ _ h => h) (Or.inl ⟨by rfl, ?_⟩) (by assumption) ?_
                rotate_left
                · (intro wz hSw; (try dsimp only at hSw); obtain ⟨hS0, hS1, hS2, hS3⟩ := hSw; obtain ⟨p0, p1, p2⟩ := frame_cells hS3; go_simp; try with_reducible rfl)
                try simp only [Act.put, List.setIfInBounds_toArray, List.set_cons_zero, List.set_cons_succ]
                refine wpAnyH_done (by kernel_rfl) ?_ _
                go_wp2_with fail
                exact ⟨⟨j + 1, by omega, by go_num, Lib.hid (HQj.out.q HQn.out)⟩, by simp [intOf]; omega⟩
              · obtain rfl : j = k + 1 := by omega
                have hji : ¬ ((k + 1 : Nat) : Int) ≤ (k : Int) := by omega
                have hji2 : ¬ (k : Int) + 1 ≤ (k : Int) := by omega
                obtain ⟨b, off, dvj, rfl, -, -, c0, c1, c2, hpj⟩ := Hel.out (k + 1) (by omega)
                rw [Hlast.out] at hpj
                have Hpj := Lib.hid hpj
                have Hc2 := Lib.hid c2
                obtain ⟨pj, pjcap, rfl, -⟩ := hpj.open
                clear c0 c1 c2 hpj
                go_wp2_with fail
                go_at_call 9
                refine (dfirst_any wr (HE.out.quiet (HQ7.out.q HQj.out))).mono ?_
                rintro e W8 ⟨rfl, hq8⟩
                have d2 := hq8.cell (HQj.out.cell Hc2.out (by simp)) (by simp)
                have hwi := within_any 128 128 ((Hpj.out.quiet HQj.out).quiet hq8)
                rw [show withinB (newF W H 128).pix 128 128 = true from by unfold withinB newF; simp] at hwi
                have HWi := Lib.hid hwi
                have HQ8 := Lib.hid ((HQ7.out.q HQj.out).q hq8)
                have i0 : (0 : Int) ≤ ((k + 1 : Nat) : Int) := by omega
                have i1 : ((k + 1 : Nat) : Int) < ((k + 2 : Nat) : Int) := by omega
                have i2 : (0 : Int) ≤ (k : Int) + 1 := by omega
                have i3 : (k : Int) + 1 < (k : Int) + 2 := by omega
                clear hq8 hwi
                go_wp2_with fail
                go_at_call 23
                refine HWi.out.mono ?_
                rintro e w' ⟨rfl, rfl⟩
                go_wp2_with fail
                exact HPost.out _ _ ⟨rfl, HQ8.out⟩
theorem dskips_card {dv : Value} {w : World} {c : Coded} (hd : Ints .u8 0 w.heap.size w dv c.data) (hk : InK .i64 c.kind) (n W H : Int) (_ : w.heap.size ≤ w.heap.size) (hE : ErrT w) : Calls Tryz.prog 6 #[.agg #[.int .i64 c.kind, dv], .int .i64 n, .int .i64 W, .int .i64 H] w fun e w' => (e = .returned (.bool true) ∧ Only [] w w') := dskips_any hd hk n W H hE
#print axioms dskips_any
end Go.Proofs.YthgpgbdkcdmbpaaGreatDoor
