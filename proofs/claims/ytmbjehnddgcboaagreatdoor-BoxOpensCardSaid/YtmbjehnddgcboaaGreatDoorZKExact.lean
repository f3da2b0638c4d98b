/- Joined texts: KExact. Conditions: each part names its own. -/
import Derived.Test.YtmbjehnddgcboaaGreatDoorZKFr
import Derived.Test.YtmbjehnddgcboaaGreatDoorZKAt
import Derived.Test.YtmbjehnddgcboaaGreatDoorZRdE
/- The document's reader of units: exact. Conditions: the reader lies in a block behind its units. -/
namespace Go.Proofs.YtmbjehnddgcboaaGreatDoor
open Go.RowKit
set_option linter.unusedVariables false
set_option linter.unusedSimpArgs false

theorem exactR_peek {l : List Int} {p n : Nat} {kind : Int} {data : List Int} : exactR l p n kind data = match peekR l p with
    | .error e => (some e, p, n)
    | .ok u => if u.kind = kind ∧ u.data = data then (none, u.end_, n + 1) else (some ⟨[], 2⟩, p, n) := by
  unfold exactR nextR
  cases h : peekR l p with
  | error e => rfl
  | ok u =>
    simp only
    by_cases h1 : u.kind = kind
    · by_cases h2 : u.data = data
      · rw [if_neg (by simp [h1, h2]), if_pos ⟨h1, h2⟩]
        simp only
        rw [if_pos h2]
      · rw [if_neg (c := u.kind = kind ∧ u.data = data) (fun h => h2 h.2)]
        by_cases h3 : (u.data.length : Int) = data.length
        · rw [if_neg (by simp [h1, h3])]
          simp only
          rw [if_neg h2]
        · rw [if_pos (.inr h3)]
    · rw [if_pos (.inl h1), if_neg (fun h => h1 h.1)]
theorem eqB_iff {l m : List Int} : eqB l m = true ↔ l = m := by unfold eqB; simp
/-- what exact hands back -/
def KExactP (K : KS) (R : Nat) (w : World) (r : Option Err × Nat × Nat) (e : Ending) (w' : World) : Prop :=
  Only [R] w w' ∧ KRd K R w' r.2.1 r.2.2 ∧ ∃ sa scap, e = .returned (.agg #[.int .i64 (codeE r.1), .slice sa (pathE r.1).length scap]) ∧ Cells 2 K.lo K.hi w' (.slice sa (pathE r.1).length scap) (pathE r.1).length (flat (pathE r.1))

set_option maxRecDepth 100000 in
set_option maxHeartbeats 8000000 in
theorem kexact_any {K : KS} {R p n lo hi : Nat} {dv : Value} {data : List Int} {w : World} (kind : Int) (h : KRd K R w p n) (hd : Ints .u8 lo hi w dv data) (hR : R < lo ∨ hi ≤ R) :
    Calls Tryz.prog 45 #[.pointer (some ⟨R, 0, none⟩), .int .i64 kind, dv] w (KExactP K R w (exactR K.l p n kind data)) := by
  suffices key : ∀ Q : Ending → World → Prop, Hid (∀ e w', KExactP K R w (exactR K.l p n kind data) e w' → Q e w') → Calls Tryz.prog 45 #[.pointer (some ⟨R, 0, none⟩), .int .i64 kind, dv] w Q from key _ (Lib.hid fun _ _ h => h)
  intro Q HPost
  have hRl := h.lt
  have HK := Lib.hid h
  have hnl : n ≤ 1000000000000 := Nat.le_trans h.le (Nat.le_trans h.nle h.small)
  have HT := Lib.hid (fun o => ktake_any (h.quiet (Only.new w o)))
  have hR1 : R ≠ w.heap.size := by omega
  have HDa := Lib.hid hd
  obtain ⟨va, vcap, rfl, _⟩ := hd.open
  have Hex := Lib.hid (exactR_peek (l := K.l) (p := p) (n := n) (kind := kind) (data := data))
  clear h hd
  cases hpk : peekR K.l p with
  | error er =>
    have Hfr : Hid (exactR K.l p n kind data = (some er, p, n)) := Lib.hid (by rw [Hex.out, hpk])
    have hne := kpeekR_err hpk
    have hcb : (er.code == 0) = false := by rw [beq_eq_false_iff_ne]; exact hne.1
    have Hpk := Lib.hid hpk
    clear hpk hne Hex
    go_enter Tryz.func45, Tryz.ntmps45
    go_wp2_with fail
    go_at_call 40
    refine (HT.out _).mono ?_
    rintro e w1 hP
    unfold KTakeP at hP
    rw [Hpk.out] at hP
    obtain ⟨hq1, sa, scap, rfl, hsv, hk1⟩ := hP
    have HSv := Lib.hid hsv
    have HK1 := Lib.hid hk1
    have HQ1 := Lib.hid hq1
    have rA := hq1.rowAt (g := w.heap.size) (o := zErr) (heap_alloc_new _ _) (by simpa using fun e => hR1 e.symm)
    have hz1 : w.heap.size + 1 ≤ w1.heap.size := by have := hq1.size; simp at this; omega
    clear hsv hk1 hq1
    simp only
    go_wp2_with fail
    go_at_call 20
    refine (ok_any _ _ _).mono ?_
    rintro e w2 ⟨rfl, hq2⟩
    rw [hcb]
    have hqA := ((Only.new w1 zUnit).q (Only.new _ (.cells #[.int .i64 er.code, .slice sa er.path.length scap] 42))).q hq2
    have rX := hq2.row (heap_alloc_new' (w := w1.alloc zUnit) (o := .cells #[.int .i64 er.code, .slice sa er.path.length scap] 42) (g := w1.heap.size + 1) (by simp))
    have rA2 := hqA.row rA
    obtain ⟨x0, x1, _, _, _⟩ := row2 rX
    obtain ⟨a0, a1, af0, af1, _⟩ := row2 rA2
    have HR2 := Lib.hid (And.intro rA2 hqA)
    have hn1 : ¬ w.heap.size = w1.heap.size + 1 := by omega
    clear rA rA2 rX hq2 hqA
    go_wp2_with fail
    generalize hWf : World.setCell _ _ _ = Wf
    obtain ⟨rA2, hqA⟩ := HR2.out
    obtain ⟨t0, t1, oF, _⟩ := set2r rA2 hWf
    refine bodyPost_ret (v := .agg #[.int .i64 er.code, .slice sa er.path.length scap]) (by simp [results, Tryz.results45, go_sem, t0, t1]) rfl (HPost.out _ _ ?_)
    unfold KExactP
    rw [Hfr.out]
    have hhi := HK.out.hiR
    have hA : Only [R] w w2 := (((Only.new w zErr).mono (U := [R]) (by simp)).trans HQ1.out (fun g h _ => h) (fun g h _ => h)).trans hqA (fun g h _ => h) (by simp)
    exact ⟨hA.tail1 oF (by omega), (HK1.out.quiet hqA).only oF (by intro g hg; rw [List.mem_singleton] at hg; omega), sa, scap, rfl, (HSv.out.only hqA (by simp)).tail1 oF (.inr (by omega))⟩
  | ok u =>
    obtain ⟨uk, ud, uat, uend⟩ := u
    have hpo := peekR_ok hpk HK.out.ple HK.out.r8
    simp only at hpo
    obtain ⟨huat, hue, hule, huk0, huk1, hud⟩ := hpo
    have Hpk := Lib.hid hpk
    have Hex1 : Hid (exactR K.l p n kind data = if uk = kind ∧ ud = data then (none, uend, n + 1) else (some ⟨[], 2⟩, p, n)) := Lib.hid (by rw [Hex.out, hpk])
    have hways : (uk != kind) = true ∨ ((uk != kind) = false ∧ (eqB ud data = false ∨ eqB ud data = true)) := by
      by_cases h : uk = kind
      · right; refine ⟨by simp [h], ?_⟩; cases eqB ud data <;> simp
      · left; rw [bne_iff_ne]; exact h
    clear hpk huat hue hule hud huk0 huk1 Hex
    go_enter Tryz.func45, Tryz.ntmps45
    go_wp2_with fail
    go_at_call 40
    refine (HT.out _).mono ?_
    rintro e w1 hP
    unfold KTakeP at hP
    rw [Hpk.out] at hP
    obtain ⟨hq1, dv, rfl, hdv, hk1⟩ := hP
    obtain ⟨da, dcap, rfl, _⟩ := hdv.open
    have HK1 := Lib.hid hk1
    have HQ1 := Lib.hid hq1
    have HDv := Lib.hid hdv
    have rA := hq1.rowAt (g := w.heap.size) (o := zErr) (heap_alloc_new _ _) (by simpa using fun e => hR1 e.symm)
    have hz1 : w.heap.size + 1 ≤ w1.heap.size := by have := hq1.size; simp at this; omega
    clear hk1 hq1 hdv
    simp only
    go_wp2_with fail
    go_at_call 20
    refine (ok_any _ _ _).mono ?_
    rintro e w2 ⟨rfl, hq2⟩
    simp only [BEq.rfl]
    have hqA := ((Only.new w1 (.cells #[.int .i64 uk, .slice da ud.length dcap, .int .i64 uat, .int .i64 uend] 106)).q (Only.new _ zErr)).q hq2
    have rX := hq2.row ((Only.new _ zErr).row (heap_alloc_new w1 (.cells #[.int .i64 uk, .slice da ud.length dcap, .int .i64 uat, .int .i64 uend] 106)))
    have rY := hq2.row (heap_alloc_new' (w := w1.alloc (.cells #[.int .i64 uk, .slice da ud.length dcap, .int .i64 uat, .int .i64 uend] 106)) (o := zErr) (g := w1.heap.size + 1) (by simp))
    have rA2 := hqA.row rA
    have hk2 := HK1.out.quiet hqA
    have kf := frozen_of_row w2 R 1 _ _ hk2.row
    obtain ⟨x0, x1, x2, x3⟩ := row4_cells rX
    obtain ⟨e0, e1, ef0, ef1, _⟩ := row2 rY
    obtain ⟨a0, a1, af0, af1, _⟩ := row2 rA2
    have hD1 : Only [R] w w1 := ((Only.new w zErr).mono (U := [R]) (by simp)).trans HQ1.out (fun g h _ => h) (fun g h _ => h)
    have hD2 : Only [R] w w2 := hD1.trans hqA (fun g h _ => h) (by simp)
    have HB := Lib.hid (bytes_any (HDv.out.quiet hqA) (HDa.out.only hD2 (by intro g hg; rw [List.mem_singleton] at hg; subst hg; exact hR)))
    have hset : KRd K R (w2.setCell ⟨R, 1, none⟩ (.int .i64 n)) p n := hk2.set HK.out.spl HK.out.le HK.out.zero HK.out.last HK.out.ple
    have o3 : Only [R] w2 (w2.setCell ⟨R, 1, none⟩ (.int .i64 n)) := (Only.refl _ _).setCell (by simp) _
    have rA3 := o3.rowAt rA2 (by simp; omega)
    have rY3 := o3.rowAt rY (by simp; omega)
    have hA3 : Only [R] w (w2.setCell ⟨R, 1, none⟩ (.int .i64 n)) := hD2.trans o3 (fun g h _ => h) (fun g h _ => h)
    have H3 := Lib.hid (And.intro (And.intro rA3 rY3) (And.intro hset hA3))
    have H2 := Lib.hid (And.intro (And.intro rA2 rY) (And.intro hk2 hD2))
    obtain ⟨N1, hN1⟩ : ∃ N1 : Int, ((n + 1 : Nat) : Int) = N1 := ⟨_, rfl⟩
    have c1 := hk2.c1
    rw [hN1] at c1
    have hw1 : IntKind.i64.wrap (N1 - 1) = n := by rw [IntKind.wrap_i64]; omega
    have hn1 : ¬ w.heap.size = w1.heap.size + 1 := by omega
    clear rA rA2 rX rY hq2 hqA hk2 o3 rA3 rY3 hset hA3 hN1 hD1 hD2
    rcases hways with h1 | ⟨h1, hE | hE⟩
    · have Hbad : Hid (exactR K.l p n kind data = (some ⟨[], 2⟩, p, n)) := Lib.hid (by rw [Hex1.out, if_neg (fun h => by rw [bne_iff_ne] at h1; exact h1 h.1)])
      go_wp2_with fail
      clear hw1
      generalize hW3 : World.setCell _ _ _ = W3 at *
      go_at_call 36
      refine (fail_any _ _).mono ?_
      rintro e w4 ⟨rfl, hq4⟩
      obtain ⟨⟨rA3, rY3⟩, hset, hA3⟩ := H3.out
      have rA4 := hq4.row rA3
      have rY4 := hq4.row rY3
      have hset4 := hset.quiet hq4
      have hA4 : Only [R] w w4 := hA3.trans hq4 (fun g h _ => h) (by simp)
      obtain ⟨a0, a1, af0, af1, _⟩ := row2 rA4
      obtain ⟨e0, e1, ef0, ef1, _⟩ := row2 rY4
      clear rA3 rY3 hset hA3 H3 hq4
      go_wp2_with fail
      generalize hWf : World.setCell _ _ _ = Wf
      obtain ⟨⟨s0, s1⟩, ⟨t0, t1⟩, oF⟩ := set22r rY4 rA4 (by omega) hWf
      refine bodyPost_ret (v := .agg #[.int .i64 2, .slice none 0 0]) (by simp [results, Tryz.results45, go_sem, t0, t1]) rfl (HPost.out _ _ ?_)
      unfold KExactP
      rw [Hbad.out]
      have hhi := HK.out.hiR
      exact ⟨hA4.tail2 oF (by omega) (by omega), hset4.tail2 oF (by omega) (by omega), none, 0, rfl, Cells.nil _ _ _ _⟩
    · go_wp2_with fail
      go_at_call 13
      refine HB.out.mono ?_
      rintro e w' ⟨rfl, rfl⟩
      rw [hE]
      have Hbad : Hid (exactR K.l p n kind data = (some ⟨[], 2⟩, p, n)) := Lib.hid (by rw [Hex1.out, if_neg (fun h => by have := eqB_iff.2 h.2; rw [hE] at this; cases this)])
      go_wp2_with fail
      clear hw1
      generalize hW3 : World.setCell _ _ _ = W3 at *
      go_at_call 36
      refine (fail_any _ _).mono ?_
      rintro e w4 ⟨rfl, hq4⟩
      obtain ⟨⟨rA3, rY3⟩, hset, hA3⟩ := H3.out
      have rA4 := hq4.row rA3
      have rY4 := hq4.row rY3
      have hset4 := hset.quiet hq4
      have hA4 : Only [R] w w4 := hA3.trans hq4 (fun g h _ => h) (by simp)
      obtain ⟨a0, a1, af0, af1, _⟩ := row2 rA4
      obtain ⟨e0, e1, ef0, ef1, _⟩ := row2 rY4
      clear rA3 rY3 hset hA3 H3 hq4
      go_wp2_with fail
      generalize hWf : World.setCell _ _ _ = Wf
      obtain ⟨⟨s0, s1⟩, ⟨t0, t1⟩, oF⟩ := set22r rY4 rA4 (by omega) hWf
      refine bodyPost_ret (v := .agg #[.int .i64 2, .slice none 0 0]) (by simp [results, Tryz.results45, go_sem, t0, t1]) rfl (HPost.out _ _ ?_)
      unfold KExactP
      rw [Hbad.out]
      have hhi := HK.out.hiR
      exact ⟨hA4.tail2 oF (by omega) (by omega), hset4.tail2 oF (by omega) (by omega), none, 0, rfl, Cells.nil _ _ _ _⟩
    · go_wp2_with fail
      go_at_call 13
      refine HB.out.mono ?_
      rintro e w' ⟨rfl, rfl⟩
      rw [hE]
      have Hok : Hid (exactR K.l p n kind data = (none, uend, n + 1)) := Lib.hid (by rw [Hex1.out, if_pos ⟨by simpa using h1, eqB_iff.1 hE⟩])
      go_wp2_with fail
      generalize hWf : World.setCell _ _ _ = Wf
      obtain ⟨⟨rA2, rY2⟩, hk2, hD2⟩ := H2.out
      obtain ⟨t0, t1, oF, _⟩ := set2r rA2 hWf
      refine bodyPost_ret (v := .agg #[.int .i64 0, .slice none 0 0]) (by simp [results, Tryz.results45, go_sem, t0, t1]) rfl (HPost.out _ _ ?_)
      unfold KExactP
      rw [Hok.out]
      have hhi := HK.out.hiR
      exact ⟨hD2.tail1 oF (by omega), hk2.only oF (by intro g hg; rw [List.mem_singleton] at hg; omega), none, 0, rfl, Cells.nil _ _ _ _⟩
#print axioms kexact_any
end Go.Proofs.YtmbjehnddgcboaaGreatDoor
