/- Joined texts: DTotal. Conditions: each part names its own. -/
import Derived.Test.YthgpgbdkcdmbpaaGreatDoorZDFirst
/- The law kinlaw21.DecodeTotal answers true. Conditions: the arguments read; errors.errorType holds error's type. -/
namespace Go.Proofs.YthgpgbdkcdmbpaaGreatDoor
open Go.RowKit
set_option linter.unusedVariables false
set_option linter.unusedSimpArgs false

theorem codeds_one {W : World} {k : Int} {dv : Value} {d : List Int} {lo hi B : Nat} (hB : B = W.heap.size) (hd : Ints .u8 lo hi W dv d) (hk : InK .i64 k) :
    CodedsAt (min lo B) (max hi (B + 1)) (W.alloc (.cells #[.int .i64 k, dv] 24)) (.slice (some ⟨B, 0, none⟩) 1 1) [⟨k, d⟩] := by
  subst hB
  have hr := heap_alloc_new W (.cells #[.int .i64 k, dv] 24)
  refine ⟨fun i j => if j = 0 then .int .i64 k else dv, ⟨some ⟨W.heap.size, 0, none⟩, 1, rfl, Nat.le_refl _, by simp [maxLen], fun _ => ⟨W.heap.size, 0, rfl, by omega, by omega, fun i j hi hj => ?_⟩⟩, fun i hi => ?_⟩
  · have hi0 : i = 0 := by simp at hi; omega
    subst hi0
    rw [cell_of_row _ _ _ _ _ _ hr]
    rcases (by omega : j = 0 ∨ j = 1) with rfl | rfl <;> rfl
  · have hi0 : i = 0 := by simp at hi; omega
    subst hi0
    exact ⟨rfl, hk, (hd.quiet (Only.new W _)).mono (by omega) (by omega)⟩
theorem frames_one {W : World} {f : FrameD} {pv : Value} {lo hi B : Nat} (hB : B = W.heap.size) (hp : Ints .i64 lo hi W pv f.pix) :
    FramesAt (min lo B) (max hi (B + 1)) (W.alloc (.cells #[.int .i64 f.W, .int .i64 f.H, pv] 27)) (.slice (some ⟨B, 0, none⟩) 1 1) [f] := by
  subst hB
  have hr := heap_alloc_new W (.cells #[.int .i64 f.W, .int .i64 f.H, pv] 27)
  refine ⟨fun i j => if j = 0 then .int .i64 f.W else if j = 1 then .int .i64 f.H else pv, ⟨some ⟨W.heap.size, 0, none⟩, 1, rfl, Nat.le_refl _, by simp [maxLen], fun _ => ⟨W.heap.size, 0, rfl, by omega, by omega, fun i j hi hj => ?_⟩⟩, fun i hi => ?_⟩
  · have hi0 : i = 0 := by simp at hi; omega
    subst hi0
    rw [cell_of_row _ _ _ _ _ _ hr]
    rcases (by omega : j = 0 ∨ j = 1 ∨ j = 2) with rfl | rfl | rfl <;> rfl
  · have hi0 : i = 0 := by simp at hi; omega
    subst hi0
    exact ⟨rfl, rfl, (hp.quiet (Only.new W _)).mono (by omega) (by omega)⟩
set_option maxRecDepth 100000 in
set_option maxHeartbeats 4000000 in
theorem dtotal_any {lo hi lo' hi' : Nat} {dv pv : Value} {w : World} {c : Coded} {prev : FrameD} (W H : Int) (hd : Ints .u8 lo hi w dv c.data) (hk : InK .i64 c.kind) (hp : Ints .i64 lo' hi' w pv prev.pix) (hE : ErrT w) :
    Calls Tryz.prog 3 #[.agg #[.int .i64 c.kind, dv], .agg #[.int .i64 prev.W, .int .i64 prev.H, pv], .int .i64 W, .int .i64 H] w fun e w' => e = .returned (.bool true) ∧ Only [] w w' := by
  suffices key : ∀ Q : Ending → World → Prop, Hid (∀ e w', (e = .returned (.bool true) ∧ Only [] w w') → Q e w') → Calls Tryz.prog 3 #[.agg #[.int .i64 c.kind, dv], .agg #[.int .i64 prev.W, .int .i64 prev.H, pv], .int .i64 W, .int .i64 H] w Q from key _ (Lib.hid fun _ _ h => h)
  intro Q HPost
  obtain ⟨da, dcap, rfl, -⟩ := hd.open
  obtain ⟨pa, pcap, rfl, -⟩ := hp.open
  have hq1 : Only [] w ((w.alloc (.cells #[.int .i64 c.kind, .slice da c.data.length dcap] 24)).alloc (.cells #[.int .i64 prev.W, .int .i64 prev.H, .slice pa prev.pix.length pcap] 27)) := (Only.new w _).alloc _
  have HB0 : Hid (((w.alloc (.cells #[.int .i64 c.kind, .slice da c.data.length dcap] 24)).alloc (.cells #[.int .i64 prev.W, .int .i64 prev.H, .slice pa prev.pix.length pcap] 27)).heap[w.heap.size]? = some (.cells #[.int .i64 c.kind, .slice da c.data.length dcap] 24 (0, 0))) := Lib.hid ((Only.new (w.alloc _) _).row (heap_alloc_new w _))
  have HB1 : Hid (((w.alloc (.cells #[.int .i64 c.kind, .slice da c.data.length dcap] 24)).alloc (.cells #[.int .i64 prev.W, .int .i64 prev.H, .slice pa prev.pix.length pcap] 27)).heap[w.heap.size + 1]? = some (.cells #[.int .i64 prev.W, .int .i64 prev.H, .slice pa prev.pix.length pcap] 27 (0, 0))) := Lib.hid (heap_alloc_new' (by simp))
  have HQ1 := Lib.hid hq1
  have HD := Lib.hid hd
  have HP := Lib.hid hp
  have HE := Lib.hid hE
  have Hk := Lib.hid hk
  have HR := Lib.hid (frameD_both (c := c) (prev := prev) (w := W) (h := H) hd.2)
  clear hd hp hE hk hq1
  go_enter Tryz.func3, Tryz.ntmps3
  go_wp2_with fail
  generalize hW1 : World.alloc (World.alloc w _) _ = W1 at *
  clear hW1
  go_at_call 9
  refine (dfirst_any W1 (HE.out.quiet HQ1.out)).mono ?_
  rintro e W2 ⟨rfl, hq2⟩
  have HQ2 := Lib.hid (HQ1.out.q hq2)
  have HB02 := Lib.hid (hq2.row HB0.out)
  have HB12 := Lib.hid (hq2.row HB1.out)
  obtain ⟨k0, k1⟩ := row2 HB02.out
  obtain ⟨p0, p1, p2⟩ := frame_cells HB12.out
  have n0 := block_lt_of_cell k0
  have n1 := block_lt_of_cell p0
  simp only at n0 n1
  have n2 : ¬ W2.heap.size = w.heap.size := by omega
  have n3 : ¬ W2.heap.size = w.heap.size + 1 := by omega
  clear hq2
  go_wp2_with fail
  clear k0 k1 p0 p1 p2 n0 n1 n2 n3
  have hn1 := Only.new W2 (.cells #[.int .i64 c.kind, .slice da c.data.length dcap] 24)
  have hn2 := Only.new (W2.alloc (.cells #[.int .i64 c.kind, .slice da c.data.length dcap] 24)) (.cells #[.int .i64 prev.W, .int .i64 prev.H, .slice pa prev.pix.length pcap] 27)
  have hc1 := (codeds_one (W := W2) (B := W2.heap.size) rfl (HD.out.quiet HQ2.out) Hk.out).quiet hn2
  have hf1 := frames_one (W := W2.alloc (.cells #[.int .i64 c.kind, .slice da c.data.length dcap] 24)) (f := prev) (B := W2.heap.size + 1) (by simp) (HP.out.quiet (HQ2.out.q hn1))
  have HFew := Lib.hid (dfew_any hc1 hf1)
  have HQ3 := Lib.hid (HQ2.out.q (hn1.q hn2))
  have HB03 := Lib.hid ((hn1.q hn2).row HB02.out)
  have HB13 := Lib.hid ((hn1.q hn2).row HB12.out)
  clear hn1 hn2 hc1 hf1
  generalize hbb : (fewB [⟨c.kind, c.data⟩] && pixB [prev]) = bb at *
  have Hbb := Lib.hid hbb
  clear hbb
  generalize hW3 : World.alloc (World.alloc W2 _) _ = W3 at *
  clear hW3
  go_at_call 10
  refine HFew.out.mono ?_
  rintro e w' ⟨rfl, rfl⟩
  cases bb with
  | false =>
    go_wp2_with fail
    go_at_call 9
    refine (dfirst_any W3 (HE.out.quiet HQ3.out)).mono ?_
    rintro e W4 ⟨rfl, hq4⟩
    have HQ4 := Lib.hid (HQ3.out.q hq4)
    clear hq4
    go_wp2_with fail
    exact HPost.out _ _ ⟨rfl, HQ4.out⟩
  | true =>
    obtain ⟨k0, k1⟩ := row2 HB03.out
    obtain ⟨p0, p1, p2⟩ := frame_cells HB13.out
    go_wp2_with fail
    go_at_call 11
    refine (frame_any (c := c) (prev := prev) W H (HD.out.quiet HQ3.out) (HP.out.quiet HQ3.out)).mono ?_
    rintro e W4 ⟨hq4, hm⟩
    have HQ4 := Lib.hid (HQ3.out.q hq4)
    have hz4 := hq4.size
    clear hq4 k0 k1 p0 p1 p2
    cases hfr : frameD c prev W H with
    | ok f =>
      rw [hfr] at hm
      obtain ⟨g, cap, rfl, hown⟩ := hm
      obtain ⟨hok, hfw, hfh⟩ := HR.out.1 f hfr
      rw [hfw, hfh]
      have hown' := hown
      have hnw := Only.new W4 (.cells #[.int .i64 W, .int .i64 H, .slice (some ⟨g, 0, none⟩) f.pix.length cap] 27)
      have HRT : Hid ((W4.alloc (.cells #[.int .i64 W, .int .i64 H, .slice (some ⟨g, 0, none⟩) f.pix.length cap] 27)).heap[W4.heap.size]? = some (.cells #[.int .i64 W, .int .i64 H, .slice (some ⟨g, 0, none⟩) f.pix.length cap] 27 (0, 0))) := Lib.hid (heap_alloc_new W4 _)
      have HQ5 := Lib.hid (HQ4.out.q hnw)
      have HI5 := Lib.hid (hown.ints.quiet hnw)
      have hmay := fun (wx : World) (o : Only [] (W4.alloc (.cells #[.int .i64 W, .int .i64 H, .slice (some ⟨g, 0, none⟩) f.pix.length cap] 27)) wx) => pmay_any W H (HI5.out.quiet o)
      rw [show mayF ⟨W, H, f.pix⟩ = true from by rw [← hfw, ← hfh]; exact mayF_iff.2 hok] at hmay
      have HMay := Lib.hid hmay
      clear hown hown' hnw hmay hfr hok hfw hfh hz4
      go_wp2_with fail
      generalize hW5 : World.alloc W4 _ = W5 at *
      clear hW5
      go_at_call 9
      refine (dfirst_any W5 (HE.out.quiet HQ5.out)).mono ?_
      rintro e W6 ⟨rfl, hq6⟩
      obtain ⟨r0, r1, r2⟩ := frame_cells (hq6.row HRT.out)
      have HQ6 := Lib.hid hq6
      clear hq6
      go_wp2_with fail
      go_at_call 12
      refine (HMay.out W6 HQ6.out).mono ?_
      rintro e W7 ⟨rfl, hq7⟩
      clear r0 r1 r2
      obtain ⟨r0, r1, r2⟩ := frame_cells ((HQ6.out.q hq7).row HRT.out)
      have HQ7 := Lib.hid (HQ5.out.q (HQ6.out.q hq7))
      clear hq7
      go_wp2_with fail
      exact HPost.out _ _ ⟨rfl, HQ7.out⟩
    | error er =>
      rw [hfr] at hm
      obtain ⟨ev, rfl, hev⟩ := hm
      obtain ⟨et, eu, rfl⟩ := hev.held
      obtain ⟨hpl, hcd⟩ := HR.out.2 er hfr
      have hof := fun (wx : World) (o : Only [] W4 wx) => of_any (o := some er) (hev.quiet o) ((HE.out.quiet HQ4.out).quiet o)
      have HOf := Lib.hid hof
      have Hcd := Lib.hid hcd
      clear hof hfr hev hcd hpl hz4
      have hnw := Only.new W4 (.cells #[.int .i64 0, .int .i64 0, .slice none 0 0] 27)
      have HRT : Hid ((W4.alloc (.cells #[.int .i64 0, .int .i64 0, .slice none 0 0] 27)).heap[W4.heap.size]? = some (.cells #[.int .i64 0, .int .i64 0, .slice none 0 0] 27 (0, 0))) := Lib.hid (heap_alloc_new W4 _)
      have HQ5 := Lib.hid (HQ4.out.q hnw)
      have HOf5 := Lib.hid (HOf.out _ hnw)
      clear hnw HOf
      go_wp2_with fail
      generalize hW5 : World.alloc W4 _ = W5 at *
      clear hW5
      go_at_call 13
      refine HOf5.out.mono ?_
      rintro e W6 ⟨rfl, hq6⟩
      have HQ6 := Lib.hid (HQ5.out.q hq6)
      have HRT6 := Lib.hid (hq6.row HRT.out)
      have hcd : codeOf (some er) = 3 ∨ codeOf (some er) = 13 ∨ codeOf (some er) = 12 ∨ codeOf (some er) = 2 ∨ codeOf (some er) = 1 ∨ codeOf (some er) = 5 := Hcd.out
      clear hq6 HRT
      generalize codeOf (some er) = kc at *
      rcases hcd with rfl | rfl | rfl | rfl | rfl | rfl
      all_goals
        go_wp2_with fail
        go_at_call 9
        refine (dfirst_any W6 (HE.out.quiet HQ6.out)).mono ?_
        rintro e W7 ⟨rfl, hq7⟩
        obtain ⟨r0, r1, r2⟩ := frame_cells (hq7.row HRT6.out)
        have HQ7 := Lib.hid (HQ6.out.q hq7)
        clear hq7
        go_wp2_with fail
        exact HPost.out _ _ ⟨rfl, HQ7.out⟩
theorem dtotal_card {w : World} {dv pv : Value} {c : Coded} {prev : FrameD} (hd : Ints .u8 0 w.heap.size w dv c.data) (hk : InK .i64 c.kind) (hp : Ints .i64 0 w.heap.size w pv prev.pix) (hpk : InK .i64 prev.W ∧ InK .i64 prev.H) (W H : Int) (_ : w.heap.size ≤ w.heap.size) (hE : ErrT w) :
    Calls Tryz.prog 3 #[.agg #[.int .i64 c.kind, dv], .agg #[.int .i64 prev.W, .int .i64 prev.H, pv], .int .i64 W, .int .i64 H] w fun e w' => e = .returned (.bool true) ∧ Only [] w w' := dtotal_any W H hd hk hp hE
#print axioms dtotal_any
end Go.Proofs.YthgpgbdkcdmbpaaGreatDoor
