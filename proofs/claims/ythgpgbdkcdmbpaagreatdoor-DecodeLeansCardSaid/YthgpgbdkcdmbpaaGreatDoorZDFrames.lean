/- Joined texts: DFrames. Conditions: each part names its own. -/
import Derived.Test.YthgpgbdkcdmbpaaGreatDoorZDOwnF
/- decode.Frames tells what coded frames mean, one behind the other. Conditions: they read. -/
namespace Go.Proofs.YthgpgbdkcdmbpaaGreatDoor
open Go.RowKit
set_option linter.unusedVariables false
set_option linter.unusedSimpArgs false

def FramesP (w : World) (r : Except Err (List FrameD)) (e : Ending) (w' : World) : Prop :=
  Only [] w w' ∧ match r with
    | .ok fs => ∃ a cap, e = .returned (.tuple #[.slice a fs.length cap, .nilIface]) ∧ FramesAt w.heap.size w'.heap.size w' (.slice a fs.length cap) fs
    | .error er => ∃ ev, e = .returned (.tuple #[.slice none 0 0, ev]) ∧ ErrV w.heap.size w'.heap.size w' ev er
theorem dropC {l : List Coded} {k : Nat} (h : k < l.length) : l.drop k = l.getD k default :: l.drop (k + 1) := by
  rw [List.drop_eq_getElem_cons h, List.getD_eq_getElem?_getD, List.getElem?_eq_getElem h]; rfl
set_option maxRecDepth 100000 in
set_option maxHeartbeats 4000000 in
theorem frames_any {lo hi : Nat} {v : Value} {w : World} {l : List Coded} (W H : Int) (h : CodedsAt lo hi w v l) :
    Calls Tryz.prog 15 #[v, .int .i64 W, .int .i64 H] w (FramesP w (framesD l W H)) := by
  suffices key : ∀ Q : Ending → World → Prop, Hid (∀ e w', FramesP w (framesD l W H) e w' → Q e w') → Calls Tryz.prog 15 #[v, .int .i64 W, .int .i64 H] w Q from key _ (Lib.hid fun _ _ h => h)
  intro Q HPost
  obtain ⟨a, cap, rfl, hcap, hmax, hel⟩ := h.open
  have Hel := Lib.hid hel
  have hll : (l.length : Int) ≤ 9223372036854775807 := by unfold maxLen at hmax; omega
  by_cases h16 : 16 < l.length
  · have hr : framesD l W H = .error ⟨[], 5⟩ := by unfold framesD; rw [if_pos h16]
    rw [hr] at HPost
    have h16i : (16 : Int) < (l.length : Int) := by omega
    clear h hel hcap hmax hr h16
    go_enter Tryz.func15, Tryz.ntmps15
    go_wp2_with fail
    exact HPost.out _ _ ⟨Only.refl _ _, _, rfl, ErrV.code _ _ _ _⟩
  · have hr : framesD l W H = framesGo W H l 0 frame0 [] := by unfold framesD; rw [if_neg h16]
    rw [hr] at HPost
    have h16i : ¬ (16 : Int) < (l.length : Int) := by omega
    have h16n : l.length ≤ 16 := by omega
    clear h hel hcap hmax hr h16
    go_enter Tryz.func15, Tryz.ntmps15
    go_wp2_with fail
    have HQ1 := Lib.hid (Only.new w (.cells #[.int .i64 0, .int .i64 0, .slice none 0 0] 27))
    have HRA : Hid ((w.alloc (.cells #[.int .i64 0, .int .i64 0, .slice none 0 0] 27)).heap[w.heap.size]? = some (.cells #[.int .i64 0, .int .i64 0, .slice none 0 0] 27 (0, 0))) := Lib.hid (heap_alloc_new w _)
    have HZ1 : Hid ((w.alloc (.cells #[.int .i64 0, .int .i64 0, .slice none 0 0] 27)).heap.size = w.heap.size + 1) := Lib.hid (by simp)
    generalize hW1 : World.alloc w _ = W1 at *
    clear hW1
    go_loopw [20, 8, 10, 11, 12, 13] (fun i r _ _ _ _ wr => ∃ (k : Nat) (prev : FrameD) (acc : List FrameD) (pv : Value) (b : Nat), k ≤ l.length ∧ i = .int .i64 k ∧ Hid (framesGo W H (l.drop k) k prev acc = framesGo W H l 0 frame0 []) ∧ Hid (acc.length = k) ∧ Hid (OwnF (w.heap.size + 1) wr r acc) ∧ Hid (From (w.heap.size + 1) r) ∧ Hid (wr.heap[w.heap.size]? = some (.cells #[.int .i64 prev.W, .int .i64 prev.H, pv] 27 (0, 0))) ∧ Hid (Ints .i64 b (b + 1) wr pv prev.pix) ∧ Hid (Only [] w wr)) (fun i _ _ _ _ _ _ => l.length - (intOf i).toNat)
    case atStart => exact ⟨0, frame0, [], .slice none 0 0, 0, by omega, rfl, Lib.hid rfl, Lib.hid rfl, Lib.hid (OwnF.nil _ _), Lib.hid (From.nil _), HRA, Lib.hid (Ints.nil _ _ _ _), HQ1⟩
    case round =>
      obtain ⟨k, prev, acc, pv, b, hk, rfl, Hgo, Hal, HOk, HFk, HRk, HIk, HQk⟩ := hrel
      obtain ⟨ra, rcap, rfl⟩ := HOk.out.isSlice
      rw [Hal.out] at HOk HFk ⊢
      by_cases hlt : k < l.length
      · have hki : (k : Int) < (l.length : Int) := by omega
        have hk0 : (0 : Int) ≤ (k : Int) := by omega
        obtain ⟨cb, coff, dv, rfl, _, _, hc1, hc2, hik, hd⟩ := Hel.out k hlt
        have c0 := HQk.out.cell hc1 (by simp)
        have c1 := HQk.out.cell hc2 (by simp)
        have hgo := Hgo.out
        rw [dropC hlt] at hgo
        generalize l.getD k default = c at *
        obtain ⟨pa, pcap, rfl, -⟩ := HIk.out.open
        obtain ⟨da, dcap, rfl, -⟩ := hd.open
        have HGo := Lib.hid hgo
        have HD := Lib.hid (hd.quiet HQk.out)
        have hzk := HQk.out.size
        obtain ⟨r0, r1, r2⟩ := frame_cells HRk.out
        have n0 := block_lt_of_cell r0
        simp only at n0
        have n1 : ¬ wr.heap.size = w.heap.size := by omega
        have n2 : ¬ w.heap.size = wr.heap.size := by omega
        clear hgo hc1 hc2 hd hzk
        go_wp2_with fail
        clear r0 r1 r2 n0 n1 n2 c0 c1
        have hn2 := Only.new wr (.cells #[.int .i64 c.kind, .slice da c.data.length dcap] 24)
        have HQ2 := Lib.hid (HQk.out.q hn2)
        have HFr := Lib.hid (frame_any (c := c) (prev := prev) W H (HD.out.quiet hn2) (HIk.out.quiet hn2))
        have HR2 := Lib.hid (hn2.row HRk.out)
        have HO2 := Lib.hid (HOk.out.quiet hn2)
        have hz2 := hn2.size
        have hzk := HQk.out.size
        have HZ2 := Lib.hid hz2
        clear hn2
        generalize hW2 : World.alloc wr _ = W2 at *
        clear hW2
        go_at_call 11
        refine HFr.out.mono ?_
        rintro e W3 ⟨hq3, hm⟩
        have HQ3 := Lib.hid (HQ2.out.q hq3)
        have HR3 := Lib.hid (hq3.row HR2.out)
        have HO3 := Lib.hid (HO2.out.quiet hq3)
        have HZ3 := Lib.hid (And.intro hq3.size (And.intro hz2 hzk))
        have hn3 := block_lt_of_cell (frame_cells HR3.out).1
        have HN3 : Hid (w.heap.size < W3.heap.size) := Lib.hid hn3
        clear hq3 hz2 hzk hn3
        cases hfr : frameD c prev W H with
        | error er =>
          rw [hfr] at hm
          obtain ⟨ev, rfl, hev⟩ := hm
          obtain ⟨et, eu, rfl⟩ := hev.held
          have hgo := HGo.out
          rw [framesGo_bad hfr] at hgo
          have HGO := Lib.hid hgo
          have hnw := Only.new W3 (.cells #[.int .i64 0, .int .i64 0, .slice none 0 0] 27)
          have HEv := Lib.hid ((hev.quiet hnw).mono (Nat.le_refl _) hnw.size)
          have HQ4 := Lib.hid (HQ3.out.q hnw)
          have HZ4 := Lib.hid hnw.size
          clear hgo hfr hev hnw
          go_wp2_with fail
          generalize hW4 : World.alloc W3 _ = W4 at *
          clear hW4
          go_at_call 37
          refine (in_any _ _ HEv.out (Nat.le_refl _) (by have := HZ3.out; have := HZ4.out; omega)).mono ?_
          rintro e W5 ⟨v5, rfl, he5, hq5⟩
          have HE5 := Lib.hid he5
          have HQ5 := Lib.hid (HQ4.out.q hq5)
          clear he5 hq5
          go_wp2_with fail
          refine HPost.out _ _ ?_
          rw [← HGO.out]
          exact ⟨HQ5.out, _, rfl, HE5.out.mono (by have := HZ3.out; omega) (Nat.le_refl _)⟩
        | ok f =>
          rw [hfr] at hm
          obtain ⟨g, gcap, rfl, hown⟩ := hm
          have hff := frameD_both (c := c) (prev := prev) (w := W) (h := H) HD.out.2
          obtain ⟨hok, hfw, hfh⟩ := hff.1 f hfr
          rw [hfw, hfh]
          have hgo := HGo.out
          rw [framesGo_more hfr] at hgo
          have HGO := Lib.hid hgo
          have hga := hown.at g rfl
          have hgI : Ints .i64 g (g + 1) W3 (.slice (some ⟨g, 0, none⟩) f.pix.length gcap) f.pix := by
            obtain ⟨⟨h1, a', c', e', h3, h4, h5⟩, hk'⟩ := hown.ints
            refine ⟨⟨h1, a', c', e', h3, h4, fun hp => ?_⟩, hk'⟩
            obtain ⟨b', off', e2, x, y, hc⟩ := h5 hp
            injection e' with q1 q2 q3
            rw [← q1] at e2
            injection e2 with e2
            injection e2 with e2 e3
            subst e2
            exact ⟨g, off', by rw [← q1, ← e3], Nat.le_refl _, Nat.lt_succ_self _, hc⟩
          have hn4 := Only.new W3 (.cells #[.int .i64 W, .int .i64 H, .slice (some ⟨g, 0, none⟩) f.pix.length gcap] 27)
          have hrT := heap_alloc_new W3 (.cells #[.int .i64 W, .int .i64 H, .slice (some ⟨g, 0, none⟩) f.pix.length gcap] 27)
          have hnotG : ∀ x, (Value.slice ra k rcap).ownBlock = some x → x < wr.heap.size ∧ w.heap.size + 1 ≤ x := fun x hx => ⟨(HOk.out.at x hx).2, (HOk.out.at x hx).1⟩
          have HnG := Lib.hid hnotG
          have HQ4 := Lib.hid (HQ3.out.q hn4)
          have HR4 := Lib.hid (hn4.row HR3.out)
          have HT4 := Lib.hid hrT
          have HO4 := Lib.hid (HO3.out.quiet hn4)
          have HG4 := Lib.hid (hgI.quiet hn4)
          have HZ4 := Lib.hid (show g < W3.heap.size ∧ W2.heap.size ≤ g ∧ W3.heap.size < (W3.alloc (.cells #[.int .i64 W, .int .i64 H, .slice (some ⟨g, 0, none⟩) f.pix.length gcap] 27)).heap.size from ⟨hga.2, hga.1, by simp⟩)
          have Hff := Lib.hid (And.intro hfw hfh)
          clear hgo hfr hown hff hok hga hgI hn4 hrT hnotG hfw hfh
          have hn5 := Only.new (W3.alloc (.cells #[.int .i64 W, .int .i64 H, .slice (some ⟨g, 0, none⟩) f.pix.length gcap] 27)) (.cells #[.int .i64 W, .int .i64 H, .slice (some ⟨g, 0, none⟩) f.pix.length gcap] 27)
          have HCs : Hid (Cells 3 (W3.heap.size + 1) (W3.heap.size + 1 + 1) ((W3.alloc (.cells #[.int .i64 W, .int .i64 H, .slice (some ⟨g, 0, none⟩) f.pix.length gcap] 27)).alloc (.cells #[.int .i64 W, .int .i64 H, .slice (some ⟨g, 0, none⟩) f.pix.length gcap] 27)) (.slice (some ⟨W3.heap.size + 1, 0, none⟩) 1 1) 1 [.int .i64 f.W, .int .i64 f.H, .slice (some ⟨g, 0, none⟩) f.pix.length gcap]) := Lib.hid (by
            rw [Hff.out.1, Hff.out.2]
            exact cells_newG rfl rfl (by simp [maxLen]) (by simp))
          have HO5 := Lib.hid (HO4.out.quiet hn5)
          have HG5 := Lib.hid (HG4.out.quiet hn5)
          have HT5 := Lib.hid (hn5.row HT4.out)
          have HR5 := Lib.hid (hn5.row HR4.out)
          have HQ5 := Lib.hid (HQ4.out.q hn5)
          have Hb5 : Hid (w.heap.size + 1 ≤ g ∧ g < ((W3.alloc (.cells #[.int .i64 W, .int .i64 H, .slice (some ⟨g, 0, none⟩) f.pix.length gcap] 27)).alloc (.cells #[.int .i64 W, .int .i64 H, .slice (some ⟨g, 0, none⟩) f.pix.length gcap] 27)).heap.size ∧ (Value.slice ra k rcap).ownBlock ≠ some g) := Lib.hid ⟨by have := HZ4.out; have := HZ3.out; have := HZ2.out; have := HN3.out; have h6 := HQk.out.size; have h7 := block_lt_of_cell (frame_cells HRk.out).1; simp only at h7; omega, by have := HZ4.out; simp; omega, fun e => by have := (HnG.out g e).1; have := HZ4.out; have := HZ2.out; omega⟩
          have Hby : Hid ((acc.length + 1) * 40 ≤ 140737488355328) := Lib.hid (by rw [Hal.out]; omega)
          have Hba : Hid (w.heap.size + 1 ≤ ((W3.alloc (.cells #[.int .i64 W, .int .i64 H, .slice (some ⟨g, 0, none⟩) f.pix.length gcap] 27)).alloc (.cells #[.int .i64 W, .int .i64 H, .slice (some ⟨g, 0, none⟩) f.pix.length gcap] 27)).heap.size) := Lib.hid (by have := HN3.out; simp; omega)
          have HTf : Hid (∀ v1 w6, Acc (.slice ra k rcap) ((W3.alloc (.cells #[.int .i64 W, .int .i64 H, .slice (some ⟨g, 0, none⟩) f.pix.length gcap] 27)).alloc (.cells #[.int .i64 W, .int .i64 H, .slice (some ⟨g, 0, none⟩) f.pix.length gcap] 27)) v1 w6 → w6.heap[W3.heap.size]? = some (.cells #[.int .i64 W, .int .i64 H, .slice (some ⟨g, 0, none⟩) f.pix.length gcap] 27 (0, 0))) := Lib.hid (fun v1 w6 ho => ho.only.rowAt HT5.out (fun hm => by have := (HnG.out _ (by simpa using hm)).1; have := HZ3.out; have := HZ2.out; omega))
          have HRf : Hid (∀ v1 w6, Acc (.slice ra k rcap) ((W3.alloc (.cells #[.int .i64 W, .int .i64 H, .slice (some ⟨g, 0, none⟩) f.pix.length gcap] 27)).alloc (.cells #[.int .i64 W, .int .i64 H, .slice (some ⟨g, 0, none⟩) f.pix.length gcap] 27)) v1 w6 → w6.heap[w.heap.size]? = some (.cells #[.int .i64 prev.W, .int .i64 prev.H, .slice pa prev.pix.length pcap] 27 (0, 0))) := Lib.hid (fun v1 w6 ho => ho.only.rowAt HR5.out (fun hm => by have := (HnG.out _ (by simpa using hm)).2; omega))
          have HL : Hid ((acc ++ [f]).length = k + 1) := Lib.hid (by rw [List.length_append, Hal.out]; rfl)
          clear hn5
          go_wp2_with (first
            | (at_builtin; refine wpList_append_frame rfl (.tmp 38) (.tmp 40) _ rfl EFr HO5.out rfl HCs.out HG5.out Hb5.out rfl Hby.out Hba.out (fun v1 w6 hown1 ho1 => ?_); obtain ⟨x1, x1cap, hx1⟩ := hown1.isSlice; subst hx1; rw [HL.out] at hown1 ho1 ⊢; obtain ⟨t0, t1, t2⟩ := frame_cells (HTf.out _ _ ho1); obtain ⟨z0, z1, z2⟩ := frame_cells (HRf.out _ _ ho1); have fz0 := frozen_of_row _ _ 0 _ _ (HRf.out _ _ ho1); have fz1 := frozen_of_row _ _ 1 _ _ (HRf.out _ _ ho1); have fz2 := frozen_of_row _ _ 2 _ _ (HRf.out _ _ ho1); have HO6 := Lib.hid hown1; have HA6 := Lib.hid ho1; clear hown1 ho1)
            | fail)
          obtain ⟨hrow, hon⟩ := row3_set (x := .int .i64 W) (y := .int .i64 H) (z := .slice (some ⟨g, 0, none⟩) f.pix.length gcap) (HRf.out _ _ HA6.out)
          have hq6 : Only [] w w6 := HQ5.out.trans HA6.out.only (U := []) (by simp) (fun x hx hl => by have := (HnG.out x (by simpa using hx)).2; omega)
          refine ⟨⟨k + 1, f, acc ++ [f], .slice (some ⟨g, 0, none⟩) f.pix.length gcap, g, by omega, by go_num, HGO, HL, Lib.hid (HO6.out.only hon (by simp)), Lib.hid (HA6.out.from_ HFk.out Hba.out), Lib.hid ?_, Lib.hid ?_, Lib.hid (hq6.trans hon (by simp) (fun x hx hl => by rw [List.mem_singleton] at hx; omega))⟩, by simp [intOf]; omega⟩
          · rw [Hff.out.1, Hff.out.2]; exact hrow
          · refine (HG5.out.only HA6.out.only (fun x hx => ?_)).only hon (fun x hx => ?_)
            · have hx1 := (HnG.out x (by simpa using hx)).1
              have := HZ4.out
              have := HZ2.out
              left; omega
            · rw [List.mem_singleton] at hx
              have := Hb5.out.1
              left; omega
      · obtain rfl : k = l.length := by omega
        have hx : ¬ (l.length : Int) < (l.length : Int) := by omega
        have hgo := Hgo.out
        rw [List.drop_length, framesGo] at hgo
        have HGO := Lib.hid hgo
        have hzz := block_lt_of_cell (frame_cells HRk.out).1
        have HZZ : Hid (w.heap.size < wr.heap.size) := Lib.hid hzz
        clear hgo hzz
        go_wp2_with fail
        refine HPost.out _ _ ?_
        rw [← HGO.out]
        have hfr := (HOk.out.lower (base' := w.heap.size) (by omega)).frames
        refine ⟨HQk.out, ra, rcap, by rw [Hal.out], ?_⟩
        rw [Hal.out]
        exact hfr
#print axioms frames_any
end Go.Proofs.YthgpgbdkcdmbpaaGreatDoor
