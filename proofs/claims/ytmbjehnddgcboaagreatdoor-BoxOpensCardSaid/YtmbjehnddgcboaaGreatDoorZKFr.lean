/- Joined texts: KFr. Conditions: each part names its own. -/
import Derived.Test.YtmbjehnddgcboaaGreatDoorZKRd
import Derived.Test.YtmbjehnddgcboaaGreatDoorZReadK
import Derived.Test.YtmbjehnddgcboaaGreatDoorZCfg
/- The document's reader of units: frame, part. Conditions: the reader lies in a block behind its units. -/
namespace Go.Proofs.YtmbjehnddgcboaaGreatDoor
open Go.RowKit
set_option linter.unusedVariables false
set_option linter.unusedSimpArgs false

/-- may a unit of this kind not stand there? -/
def badK (first strict : Bool) (k : Int) : Bool := (first && !firstB k) || (strict && (decide (k < 1) || decide (4 < k)))
/-- the next coded frame, or why there is none -/
def frameR (l : List Int) (p : Nat) (first strict : Bool) : Except Err UnitD :=
  match peekR l p with
  | .error e => .error e
  | .ok u => if badK first strict u.kind = true then .error ⟨[], 2⟩ else match readB ⟨u.kind, u.data⟩ with
    | some k => .error ⟨[], k⟩
    | none => .ok u
/-- what frame hands back -/
def KFrameP (K : KS) (R : Nat) (w : World) (p n : Nat) (first strict : Bool) (e : Ending) (w' : World) : Prop :=
  Only [R] w w' ∧ match frameR K.l p first strict with
    | .ok u => ∃ dv, e = .returned (.tuple #[.agg #[.int .i64 u.kind, dv], .agg #[.int .i64 0, .slice none 0 0]]) ∧ Ints .u8 K.lo K.hi w' dv u.data ∧ KRd K R w' u.end_ (n + 1)
    | .error er => ∃ sa scap, e = .returned (.tuple #[.agg #[.int .i64 0, .slice none 0 0], .agg #[.int .i64 er.code, .slice sa er.path.length scap]]) ∧ Cells 2 K.lo K.hi w' (.slice sa er.path.length scap) er.path.length (flat er.path) ∧ KRd K R w' p n
theorem readB_ne {c : Coded} {k : Int} (h : readB c = some k) : k ≠ 0 := by
  unfold readB at h
  split at h
  · cases h; simp
  split at h
  · split at h
    · cases h; simp
    · cases h
  split at h
  · cases h; simp
  split at h
  · cases h; simp
  split at h
  · cases h; simp
  cases h
theorem frameR_err {l : List Int} {p : Nat} {first strict : Bool} {er : Err} (h : frameR l p first strict = .error er) : er.code ≠ 0 ∧ er.path.length ≤ 1 := by
  unfold frameR at h
  split at h
  · rename_i e he; cases h; exact kpeekR_err he
  · split at h
    · cases h; exact ⟨by simp, by simp⟩
    · split at h
      · rename_i k hk; cases h; exact ⟨readB_ne hk, by simp⟩
      · cases h
theorem frameR_ok {l : List Int} {p : Nat} {first strict : Bool} {u : UnitD} (h : frameR l p first strict = .ok u) : peekR l p = .ok u ∧ badK first strict u.kind = false ∧ readB ⟨u.kind, u.data⟩ = none := by
  unfold frameR at h
  split at h
  · cases h
  · rename_i v hv
    split at h
    · cases h
    · rename_i hb
      split at h
      · cases h
      · rename_i hr; cases h; exact ⟨hv, by simpa using hb, hr⟩

set_option maxRecDepth 100000 in
set_option maxHeartbeats 8000000 in
theorem kframe_any {K : KS} {R p n : Nat} {w : World} (first strict : Bool) (h : KRd K R w p n) :
    Calls Tryz.prog 85 #[.pointer (some ⟨R, 0, none⟩), .bool first, .bool strict] w (KFrameP K R w p n first strict) := by
  suffices key : ∀ Q : Ending → World → Prop, Hid (∀ e w', KFrameP K R w p n first strict e w' → Q e w') → Calls Tryz.prog 85 #[.pointer (some ⟨R, 0, none⟩), .bool first, .bool strict] w Q from key _ (Lib.hid fun _ _ h => h)
  intro Q HPost
  have hRl := h.lt
  have HK := Lib.hid h
  have hnl : n ≤ 1000000000000 := Nat.le_trans h.le (Nat.le_trans h.nle h.small)
  have hO : ∀ o o', Only [] w ((w.alloc o).alloc o') := fun o o' => (Only.new _ _).q (Only.new _ _)
  have HT := Lib.hid (fun o o' => ktake_any (h.quiet (hO o o')))
  have HO := Lib.hid hO
  have hR1 : R ≠ w.heap.size := by omega
  have hR2 : R ≠ w.heap.size + 1 := by omega
  clear h hO
  cases hpk : peekR K.l p with
  | error er =>
    have Hfr : Hid (frameR K.l p first strict = .error er) := Lib.hid (by unfold frameR; rw [hpk])
    have hne := kpeekR_err hpk
    have hcb : (er.code == 0) = false := by rw [beq_eq_false_iff_ne]; exact hne.1
    have Hpk := Lib.hid hpk
    clear hpk hne
    go_enter Tryz.func85, Tryz.ntmps85
    go_wp2_with fail
    go_at_call 40
    refine (HT.out _ _).mono ?_
    rintro e w1 hP
    unfold KTakeP at hP
    rw [Hpk.out] at hP
    obtain ⟨hq1, sa, scap, rfl, hsv, hk1⟩ := hP
    have HSv := Lib.hid hsv
    have HK1 := Lib.hid hk1
    have HQ1 := Lib.hid hq1
    have rA := hq1.rowAt (g := w.heap.size) (o := zCoded) ((Below.heap_alloc _ _ _ (by simp)).trans (heap_alloc_new _ _)) (by simpa using fun e => hR1 e.symm)
    have rB := hq1.rowAt (g := w.heap.size + 1) (o := zErr) (heap_alloc_new' (by simp)) (by simpa using fun e => hR2 e.symm)
    clear hsv hk1 hq1
    simp only
    go_wp2_with fail
    go_at_call 20
    refine (ok_any _ _ _).mono ?_
    rintro e w2 ⟨rfl, hq2⟩
    rw [hcb]
    have hqA := ((Only.new w1 zUnit).q (Only.new _ (.cells #[.int .i64 er.code, .slice sa er.path.length scap] 42))).q hq2
    have rX := hq2.row (heap_alloc_new' (w := w1.alloc zUnit) (o := .cells #[.int .i64 er.code, .slice sa er.path.length scap] 42) (g := w1.heap.size + 1) (by simp))
    have rA2 := hqA.row rA
    have rB2 := hqA.row rB
    obtain ⟨x0, x1, _, _, _⟩ := row2 rX
    obtain ⟨a0, a1, af0, af1, _⟩ := row2 rA2
    obtain ⟨b0, b1, bf0, bf1, _⟩ := row2 rB2
    have HR2 := Lib.hid (And.intro rA2 (And.intro rB2 hqA))
    have hz1 : w.heap.size + 2 ≤ w1.heap.size := by have := HQ1.out.size; simp at this; omega
    have hn1 : ¬ w.heap.size = w1.heap.size + 1 := by omega
    clear rA rB rA2 rB2 rX hq2 hqA
    go_wp2_with fail
    go_region
    go_wp2_with fail
    generalize hWf : World.setCell _ _ _ = Wf
    obtain ⟨rA2, rB2, hqA⟩ := HR2.out
    obtain ⟨⟨t0, t1⟩, ⟨s0, s1⟩, oF⟩ := set22r rA2 rB2 (by omega) hWf
    refine bodyPost_ret (v := .tuple #[.agg #[.int .i64 0, .slice none 0 0], .agg #[.int .i64 er.code, .slice sa er.path.length scap]]) (by simp [results, Tryz.results85, go_sem, t0, t1, s0, s1]) rfl (HPost.out _ _ ?_)
    unfold KFrameP
    rw [Hfr.out]
    have hhi := HK.out.hiR
    have hA : Only [R] w w2 := (((HO.out zCoded zErr).mono (U := [R]) (by simp)).trans HQ1.out (fun g h _ => h) (fun g h _ => h)).trans hqA (fun g h _ => h) (by simp)
    exact ⟨(hA.tail2 oF (by omega) (by omega)).drew, sa, scap, rfl, ((HSv.out.only hqA (by simp)).tail2 oF (by omega) (by omega)).only (Only.refl [] _).drew (by simp), ((HK1.out.quiet hqA).tail2 oF (by omega) (by omega)).drew⟩
  | ok u =>
    obtain ⟨uk, ud, uat, uend⟩ := u
    have hpo := peekR_ok hpk HK.out.ple HK.out.r8
    simp only at hpo
    obtain ⟨huat, hue, hule, huk0, huk1, hud⟩ := hpo
    have hsm := HK.out.small
    have Hpk := Lib.hid hpk
    have hr8 := HK.out.r8
    have Hdl : Hid (ud.length ≤ 140737488355328) := Lib.hid (by omega)
    have Hfr0 : Hid (frameR K.l p first strict = if badK first strict uk = true then .error ⟨[], 2⟩ else match readB ⟨uk, ud⟩ with
      | some k => .error ⟨[], k⟩
      | none => .ok ⟨uk, ud, uat, uend⟩) := Lib.hid (by unfold frameR; rw [hpk])
    clear hpk huat hue hule hud hsm hr8
    by_cases hbad : badK first strict uk = true
    · have Hfr : Hid (frameR K.l p first strict = .error ⟨[], 2⟩) := Lib.hid (by rw [Hfr0.out, if_pos hbad])
      have hways : (first = true ∧ firstB uk = false) ∨ ((first = false ∨ (first = true ∧ firstB uk = true)) ∧ strict = true ∧ uk < 1) ∨ ((first = false ∨ (first = true ∧ firstB uk = true)) ∧ strict = true ∧ ¬ uk < 1 ∧ 4 < uk) := by
        unfold badK at hbad
        cases first <;> cases strict <;> cases hfb : firstB uk <;> simp [hfb] at hbad ⊢ <;> omega
      clear hbad Hfr0
      go_enter Tryz.func85, Tryz.ntmps85
      go_wp2_with fail
      go_at_call 40
      refine (HT.out _ _).mono ?_
      rintro e w1 hP
      unfold KTakeP at hP
      rw [Hpk.out] at hP
      obtain ⟨hq1, dv, rfl, hdv, hk1⟩ := hP
      obtain ⟨da, dcap, rfl, _⟩ := hdv.open
      have HK1 := Lib.hid hk1
      have HQ1 := Lib.hid hq1
      have rA := hq1.rowAt (g := w.heap.size) (o := zCoded) ((Below.heap_alloc _ _ _ (by simp)).trans (heap_alloc_new _ _)) (by simpa using fun e => hR1 e.symm)
      have rB := hq1.rowAt (g := w.heap.size + 1) (o := zErr) (heap_alloc_new' (by simp)) (by simpa using fun e => hR2 e.symm)
      clear hk1 hq1 hdv
      simp only
      go_wp2_with fail
      go_at_call 20
      refine (ok_any _ _ _).mono ?_
      rintro e w2 ⟨rfl, hq2⟩
      simp only [BEq.rfl]
      have hqA := ((Only.new w1 (.cells #[.int .i64 uk, .slice da ud.length dcap, .int .i64 uat, .int .i64 uend] 106)).q (Only.new _ zErr)).q hq2
      have rX := hq2.row ((Only.new _ zErr).row (heap_alloc_new w1 (.cells #[.int .i64 uk, .slice da ud.length dcap, .int .i64 uat, .int .i64 uend] 106)))
      have rA2 := hqA.row rA
      have rB2 := hqA.row rB
      have hk2 := HK1.out.quiet hqA
      have kf := frozen_of_row w2 R 1 _ _ hk2.row
      obtain ⟨x0, x1, x2, x3⟩ := row4_cells rX
      have hset : KRd K R (w2.setCell ⟨R, 1, none⟩ (.int .i64 n)) p n := hk2.set HK.out.spl HK.out.le HK.out.zero HK.out.last HK.out.ple
      have o3 : Only [R] w2 (w2.setCell ⟨R, 1, none⟩ (.int .i64 n)) := (Only.refl _ _).setCell (by simp) _
      have rX3 := o3.rowAt rX (by have := HQ1.out.size; simp at this ⊢; omega)
      have rA3 := o3.rowAt rA2 (by simp; omega)
      have rB3 := o3.rowAt rB2 (by simp; omega)
      obtain ⟨y0, y1, y2, y3⟩ := row4_cells rX3
      have hA3 : Only [R] w (w2.setCell ⟨R, 1, none⟩ (.int .i64 n)) := ((((HO.out zCoded zErr).mono (U := [R]) (by simp)).trans HQ1.out (fun g h _ => h) (fun g h _ => h)).trans hqA (fun g h _ => h) (by simp)).trans o3 (fun g h _ => h) (fun g h _ => h)
      have H3 := Lib.hid (And.intro (And.intro rA3 rB3) (And.intro hset hA3))
      have hsp2 := And.intro hk2.spl (And.intro hk2.le (And.intro hk2.last hk2.ple))
      have Hsp := Lib.hid hsp2
      clear hsp2
      obtain ⟨N1, hN1⟩ : ∃ N1 : Int, ((n + 1 : Nat) : Int) = N1 := ⟨_, rfl⟩
      have c1 := hk2.c1
      rw [hN1] at c1
      have hw1 : IntKind.i64.wrap (N1 - 1) = n := by rw [IntKind.wrap_i64]; omega
      clear rA rB rA2 rB2 rX hq2 hqA hk2 o3 rX3 rA3 rB3 hset hA3 hN1
      rcases hways with ⟨rfl, hfb⟩ | ⟨rfl | ⟨rfl, hfb⟩, rfl, hlt⟩ | ⟨rfl | ⟨rfl, hfb⟩, rfl, hlt, hgt⟩
      all_goals
        go_wp2_with fail
        clear hw1
        generalize hW3 : World.setCell _ _ _ = W3 at *
        go_wp2_with (first
          | (go_at_call 94; refine (begins_any _ _).mono ?_; rintro e w' ⟨rfl, rfl⟩; rw [hfb])
          | fail)
        go_at_call 36
        refine (fail_any _ _).mono ?_
        rintro e w4 ⟨rfl, hq4⟩
        obtain ⟨⟨rA3, rB3⟩, hset, hA3⟩ := H3.out
        have rA4 := hq4.row rA3
        have rB4 := hq4.row rB3
        obtain ⟨a0, a1, af0, af1, _⟩ := row2 rA4
        obtain ⟨b0, b1, bf0, bf1, _⟩ := row2 rB4
        have hA4 : Only [R] w w4 := hA3.trans hq4 (fun g h _ => h) (by simp)
        have hset4 := hset.quiet hq4
        clear rA3 rB3 hq4 hset hA3 H3
        go_wp2_with fail
        generalize hWf : World.setCell _ _ _ = Wf
        obtain ⟨⟨t0, t1⟩, ⟨s0, s1⟩, oF⟩ := set22r rA4 rB4 (by omega) hWf
        refine bodyPost_ret (v := .tuple #[.agg #[.int .i64 0, .slice none 0 0], .agg #[.int .i64 2, .slice none 0 0]]) (by simp [results, Tryz.results85, go_sem, t0, t1, s0, s1]) rfl (HPost.out _ _ ?_)
        unfold KFrameP
        rw [Hfr.out]
        exact ⟨hA4.tail2 oF (by omega) (by omega), none, 0, rfl, Cells.nil _ _ _ _, hset4.tail2 oF (by omega) (by omega)⟩
    · have Hfr1 : Hid (frameR K.l p first strict = match readB ⟨uk, ud⟩ with
        | some k => .error ⟨[], k⟩
        | none => .ok ⟨uk, ud, uat, uend⟩) := Lib.hid (by rw [Hfr0.out, if_neg hbad])
      have hways : (first = false ∨ (first = true ∧ firstB uk = true)) ∧ (strict = false ∨ (strict = true ∧ ¬ uk < 1 ∧ ¬ 4 < uk)) := by
        unfold badK at hbad
        cases first <;> cases strict <;> cases hfb : firstB uk <;> simp [hfb] at hbad ⊢ <;> omega
      clear hbad Hfr0
      go_enter Tryz.func85, Tryz.ntmps85
      go_wp2_with fail
      go_at_call 40
      refine (HT.out _ _).mono ?_
      rintro e w1 hP
      unfold KTakeP at hP
      rw [Hpk.out] at hP
      obtain ⟨hq1, dv, rfl, hdv, hk1⟩ := hP
      obtain ⟨da, dcap, rfl, _⟩ := hdv.open
      have HK1 := Lib.hid hk1
      have HQ1 := Lib.hid hq1
      have rA := hq1.rowAt (g := w.heap.size) (o := zCoded) ((Below.heap_alloc _ _ _ (by simp)).trans (heap_alloc_new _ _)) (by simpa using fun e => hR1 e.symm)
      have rB := hq1.rowAt (g := w.heap.size + 1) (o := zErr) (heap_alloc_new' (by simp)) (by simpa using fun e => hR2 e.symm)
      have HDv := Lib.hid hdv
      clear hk1 hq1 hdv
      simp only
      go_wp2_with fail
      go_at_call 20
      refine (ok_any _ _ _).mono ?_
      rintro e w2 ⟨rfl, hq2⟩
      simp only [BEq.rfl]
      have hqA := ((Only.new w1 (.cells #[.int .i64 uk, .slice da ud.length dcap, .int .i64 uat, .int .i64 uend] 106)).q (Only.new _ zErr)).q hq2
      have rX := hq2.row ((Only.new _ zErr).row (heap_alloc_new w1 (.cells #[.int .i64 uk, .slice da ud.length dcap, .int .i64 uat, .int .i64 uend] 106)))
      have rY := hq2.row (heap_alloc_new' (w := w1.alloc (.cells #[.int .i64 uk, .slice da ud.length dcap, .int .i64 uat, .int .i64 uend] 106)) (o := zErr) (g := w1.heap.size + 1) (by simp))
      have hdv2 := HDv.out.quiet hqA
      have rA2 := hqA.row rA
      have rB2 := hqA.row rB
      have hk2 := HK1.out.quiet hqA
      have kf := frozen_of_row w2 R 1 _ _ hk2.row
      obtain ⟨x0, x1, x2, x3⟩ := row4_cells rX
      have hset : KRd K R (w2.setCell ⟨R, 1, none⟩ (.int .i64 n)) p n := hk2.set HK.out.spl HK.out.le HK.out.zero HK.out.last HK.out.ple
      have o3 : Only [R] w2 (w2.setCell ⟨R, 1, none⟩ (.int .i64 n)) := (Only.refl _ _).setCell (by simp) _
      have rX3 := o3.rowAt rX (by have := HQ1.out.size; simp at this ⊢; omega)
      have rA3 := o3.rowAt rA2 (by simp; omega)
      have rB3 := o3.rowAt rB2 (by simp; omega)
      obtain ⟨y0, y1, y2, y3⟩ := row4_cells rX3
      have hA3 : Only [R] w (w2.setCell ⟨R, 1, none⟩ (.int .i64 n)) := ((((HO.out zCoded zErr).mono (U := [R]) (by simp)).trans HQ1.out (fun g h _ => h) (fun g h _ => h)).trans hqA (fun g h _ => h) (by simp)).trans o3 (fun g h _ => h) (fun g h _ => h)
      have rY3 := o3.rowAt rY (by have := HQ1.out.size; simp at this ⊢; omega)
      have hdv3 := hdv2.only o3 (by intro g hg; rw [List.mem_singleton] at hg; subst hg; exact .inr HK.out.hiR)
      have H3 := Lib.hid (And.intro (And.intro rA3 rB3) (And.intro hset (And.intro hA3 (And.intro rY3 hdv3))))
      have hz3 : w1.heap.size + 2 ≤ (w2.setCell ⟨R, 1, none⟩ (.int .i64 n)).heap.size := by have := hqA.size; have := hq2.size; have := o3.size; simp at *; omega
      have hz3e : (w2.setCell ⟨R, 1, none⟩ (.int .i64 n)).heap.size = w2.heap.size := by simp [World.setCell]
      have Hz3e := Lib.hid hz3e
      clear hz3e
      have hzw : w.heap.size + 2 ≤ w1.heap.size := by have := HQ1.out.size; simp at this; omega
      have hsp2 := And.intro hk2.spl (And.intro hk2.le (And.intro hk2.last hk2.ple))
      have Hsp := Lib.hid hsp2
      clear hsp2
      obtain ⟨N1, hN1⟩ : ∃ N1 : Int, ((n + 1 : Nat) : Int) = N1 := ⟨_, rfl⟩
      have c1 := hk2.c1
      rw [hN1] at c1
      have hw1 : IntKind.i64.wrap (N1 - 1) = n := by rw [IntKind.wrap_i64]; omega
      clear rY hdv2 rY3 hdv3 rA rB rA2 rB2 rX hq2 hqA hk2 o3 rX3 rA3 rB3 hset hA3 hN1
      obtain ⟨hw1', hw2'⟩ := hways
      rcases hw1' with rfl | ⟨rfl, hfb⟩ <;> rcases hw2' with rfl | ⟨rfl, hlt, hgt⟩
      all_goals
        go_wp2_with fail
        clear hw1
        generalize hW3 : World.setCell _ _ _ = W3 at *
        go_wp2_with (first
          | (go_at_call 94; refine (begins_any _ _).mono ?_; rintro e w' ⟨rfl, rfl⟩; rw [hfb])
          | fail)
        go_at_call 95
        refine (kread_any (H3.out.2.2.2.2.quiet (Only.new _ _)) Hdl.out).mono ?_
        rintro e w4 hP
        unfold HeadK at hP
        obtain ⟨hq4, hP⟩ := hP
        obtain ⟨⟨rA3, rB3⟩, hset, hA3, rY3, hdv3⟩ := H3.out
        have hqB := (Only.new W3 (.cells #[.int .i64 uk, .slice da ud.length dcap] 71)).q hq4
        have rA4 := hqB.row rA3
        have rB4 := hqB.row rB3
        have rY4 := hqB.row rY3
        have rZ4 := hq4.row (heap_alloc_new' (w := W3) (o := .cells #[.int .i64 uk, .slice da ud.length dcap] 71) Hz3e.out)
        have hset4 := hset.quiet hqB
        have hA4 : Only [R] w w4 := hA3.trans hqB (fun g h _ => h) (by simp)
        have hz4 := hqB.size
        have hdv4 := hdv3.quiet hqB
        have hn2 : ¬ w.heap.size = w1.heap.size + 1 := by omega
        have hn3 : ¬ w.heap.size = w2.heap.size := by have := Hz3e.out; omega
        have hn4 : ¬ w1.heap.size + 1 = w2.heap.size := by have := Hz3e.out; omega
        have hn5 : ¬ w.heap.size + 1 = w2.heap.size := by have := Hz3e.out; omega
        have hn6 : ¬ w.heap.size + 1 = w1.heap.size + 1 := by omega
        obtain ⟨e0, e1, ef0, ef1, _⟩ := row2 rY4
        clear hq4 rA3 rB3 rY3 hset hA3 hdv3 H3 hqB y0 y1 y2 y3
        cases hrb : readB ⟨uk, ud⟩ with
        | some kc =>
          have Hfr : Hid (frameR K.l p _ _ = .error ⟨[], kc⟩) := Lib.hid (by rw [Hfr1.out, hrb])
          have hkc : (kc == 0) = false := by rw [beq_eq_false_iff_ne]; exact readB_ne hrb
          rw [hrb] at hP
          simp only at hP
          subst hP
          clear hrb
          go_wp2_with fail
          generalize hW5 : World.setCell _ _ _ = W5
          obtain ⟨e0, e1, o5, rY5⟩ := set2r rY4 hW5
          have rA5 := o5.rowAt rA4 (by simp; omega)
          have rB5 := o5.rowAt rB4 (by simp; omega)
          have rZ5 := o5.rowAt rZ4 (by simp; omega)
          have hA5 : Only [R] w W5 := hA4.tail1 o5 (by omega)
          have hset5 := hset4.only o5 (by intro g hg; rw [List.mem_singleton] at hg; subst hg; have := HK.out.hiR; omega)
          have hdv5 := hdv4.tail1 o5 (.inr (by have := HK.out.hiR; omega))
          clear hW5 o5 rA4 rB4 rY4 rZ4 hA4 hset4 hdv4
          go_at_call 20
          refine (ok_any _ _ _).mono ?_
          rintro e w6 ⟨rfl, hq6⟩
          rw [hkc]
          have rA6 := hq6.row rA5
          have rB6 := hq6.row rB5
          have rY6 := hq6.row rY5
          have rZ6 := hq6.row rZ5
          have hA6 : Only [R] w w6 := hA5.trans hq6 (fun g h _ => h) (by simp)
          have hset6 := hset5.quiet hq6
          have hdv6 := hdv5.quiet hq6
          obtain ⟨e0, e1, ef0, ef1, _⟩ := row2 rY6
          obtain ⟨a0, a1, af0, af1, _⟩ := row2 rA6
          obtain ⟨b0, b1, bf0, bf1, _⟩ := row2 rB6
          have H6 := Lib.hid (And.intro (And.intro rA6 rB6) (And.intro hset6 hA6))
          clear rA5 rB5 rY5 rZ5 hA5 hset5 hdv5 rA6 rB6 rY6 rZ6 hA6 hset6 hdv6 hq6
          go_wp2_with fail
          go_region
          go_wp2_with fail
          generalize hWf : World.setCell _ _ _ = Wf
          obtain ⟨⟨rA6, rB6⟩, hset6, hA6⟩ := H6.out
          obtain ⟨⟨t0, t1⟩, ⟨s0, s1⟩, oF⟩ := set22r rA6 rB6 (by omega) hWf
          refine bodyPost_ret (v := .tuple #[.agg #[.int .i64 0, .slice none 0 0], .agg #[.int .i64 kc, .slice none 0 0]]) (by simp [results, Tryz.results85, go_sem, t0, t1, s0, s1]) rfl (HPost.out _ _ ?_)
          unfold KFrameP
          rw [Hfr.out]
          exact ⟨(hA6.tail2 oF (by omega) (by omega)).drew, none, 0, rfl, Cells.nil _ _ _ _, (hset6.tail2 oF (by omega) (by omega)).drew⟩
        | none =>
          have Hfr : Hid (frameR K.l p _ _ = .ok ⟨uk, ud, uat, uend⟩) := Lib.hid (by rw [Hfr1.out, hrb])
          rw [hrb] at hP
          simp only at hP
          obtain ⟨dv5, rfl, _⟩ := hP
          clear hrb
          go_wp2_with fail
          generalize hW5 : World.setCell _ _ _ = W5
          obtain ⟨e0, e1, o5, rY5⟩ := set2r rY4 hW5
          have rA5 := o5.rowAt rA4 (by simp; omega)
          have rB5 := o5.rowAt rB4 (by simp; omega)
          have rZ5 := o5.rowAt rZ4 (by simp; omega)
          have hA5 : Only [R] w W5 := hA4.tail1 o5 (by omega)
          have hset5 := hset4.only o5 (by intro g hg; rw [List.mem_singleton] at hg; subst hg; have := HK.out.hiR; omega)
          have hdv5 := hdv4.tail1 o5 (.inr (by have := HK.out.hiR; omega))
          clear hW5 o5 rA4 rB4 rY4 rZ4 hA4 hset4 hdv4
          go_at_call 20
          refine (ok_any _ _ _).mono ?_
          rintro e w6 ⟨rfl, hq6⟩
          simp only [BEq.rfl]
          have rA6 := hq6.row rA5
          have rB6 := hq6.row rB5
          have rY6 := hq6.row rY5
          have rZ6 := hq6.row rZ5
          have hA6 : Only [R] w w6 := hA5.trans hq6 (fun g h _ => h) (by simp)
          have hset6 := hset5.quiet hq6
          have hdv6 := hdv5.quiet hq6
          obtain ⟨e0, e1, ef0, ef1, _⟩ := row2 rY6
          obtain ⟨a0, a1, af0, af1, _⟩ := row2 rA6
          obtain ⟨b0, b1, bf0, bf1, _⟩ := row2 rB6
          obtain ⟨z0, z1, zf0, zf1, hzl⟩ := row2 rZ6
          have c6 := hset6.c1
          have kf6 := frozen_of_row w6 R 1 _ _ hset6.row
          have hk7 : KRd K R (w6.setCell ⟨R, 1, none⟩ (.int .i64 ((n : Int) + 1))) uend (n + 1) := hset6.set (n' := n + 1) Hsp.out.1 Hsp.out.2.1 (by omega) Hsp.out.2.2.1 Hsp.out.2.2.2
          have o7 : Only [R] w6 (w6.setCell ⟨R, 1, none⟩ (.int .i64 ((n : Int) + 1))) := (Only.refl _ _).setCell (by simp) _
          have rA7 := o7.rowAt rA6 (by simp; omega)
          have rB7 := o7.rowAt rB6 (by simp; omega)
          have rY7 := o7.rowAt rY6 (by simp; omega)
          have rZ7 := o7.rowAt rZ6 (by simp; have := Hz3e.out; omega)
          have hA7 : Only [R] w (w6.setCell ⟨R, 1, none⟩ (.int .i64 ((n : Int) + 1))) := hA6.trans o7 (fun g h _ => h) (fun g h _ => h)
          have hdv7 := hdv6.only o7 (by intro g hg; rw [List.mem_singleton] at hg; subst hg; exact .inr HK.out.hiR)
          clear rA5 rB5 rY5 rZ5 hA5 hset5 hdv5 rA6 rB6 rY6 rZ6 hA6 hset6 hdv6 hq6 o7
          have hnn : (n : Int) ≤ 1000000000000 := by omega
          have hn0 : (0 : Int) ≤ (n : Int) := by omega
          go_wp2_with fail
          generalize hW7 : World.setCell _ _ _ = W7 at *
          obtain ⟨e0, e1, ef0, ef1, _⟩ := row2 rY7
          obtain ⟨a0, a1, af0, af1, _⟩ := row2 rA7
          obtain ⟨b0, b1, bf0, bf1, _⟩ := row2 rB7
          obtain ⟨z0, z1, zf0, zf1, _⟩ := row2 rZ7
          have z0' := z0
          have z1' := z1
          rw [← Hz3e.out] at z0' z1'
          have H7 := Lib.hid (And.intro (And.intro rA7 rB7) (And.intro hk7 (And.intro hA7 hdv7)))
          clear rA7 rB7 rY7 rZ7 hk7 hA7 hdv7 hW7 c6 kf6
          go_region
          go_wp2_with fail
          generalize hWf : World.setCell _ _ _ = Wf
          obtain ⟨⟨rA6, rB6⟩, hset6, hA6, hdv6⟩ := H7.out
          obtain ⟨⟨t0, t1⟩, ⟨s0, s1⟩, oF⟩ := set22r rA6 rB6 (by omega) hWf
          refine bodyPost_ret (v := .tuple #[.agg #[.int .i64 uk, .slice da ud.length dcap], .agg #[.int .i64 0, .slice none 0 0]]) (by simp [results, Tryz.results85, go_sem, t0, t1, s0, s1]) rfl (HPost.out _ _ ?_)
          unfold KFrameP
          rw [Hfr.out]
          have hhi := HK.out.hiR
          exact ⟨(hA6.tail2 oF (by omega) (by omega)).drew, _, rfl, (hdv6.tail2 oF (by omega) (by omega)).quiet (Only.refl _ _).drew, (hset6.tail2 oF (by omega) (by omega)).drew⟩
#print axioms kframe_any
end Go.Proofs.YtmbjehnddgcboaaGreatDoor
