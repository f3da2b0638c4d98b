/- Joined texts: KRead. Conditions: each part names its own. -/
import Derived.Test.YtmbjehnddgcboaaGreatDoorZSplit
import Derived.Test.YtmbjehnddgcboaaGreatDoorZKAll
import Derived.Test.YtmbjehnddgcboaaGreatDoorC10
import Derived.Test.YtmbjehnddgcboaaGreatDoorC11
import Derived.Deep.RegionHeld3
/- kinref23.read and Read: a container's bytes as the document reads them. Conditions: the bytes read. -/
namespace Go.Proofs.YtmbjehnddgcboaaGreatDoor
open Go.RowKit
set_option linter.unusedVariables false
set_option linter.unusedSimpArgs false

/-- what the reader of some bytes is -/
def KReaderP (l : List Int) (w : World) (e : Ending) (w' : World) : Prop :=
  ∃ K R, e = .returned (.pointer (some ⟨R, 0, none⟩)) ∧ K.l = l ∧ KRd K R w' 0 0 ∧ Only [] w w' ∧ w.heap.size ≤ K.lo ∧ K.lo ≤ K.hi

set_option maxRecDepth 100000 in
set_option maxHeartbeats 1000000 in
theorem kreader_any {lo hi : Nat} {v : Value} {l : List Int} {w : World} (h : Ints .u8 lo hi w v l) (hl : l.length ≤ 100000000) :
    Calls Tryz.prog 18 #[v] w (KReaderP l w) := by
  suffices key : ∀ Q : Ending → World → Prop, Hid (∀ e w', KReaderP l w e w' → Q e w') → Calls Tryz.prog 18 #[v] w Q from key _ (Lib.hid fun _ _ h => h)
  intro Q HPost
  obtain ⟨a, cap, rfl, _⟩ := h.open
  have HS := Lib.hid (split_any h hl)
  have Hr8 := Lib.hid h.2
  have Hl := Lib.hid hl
  clear h hl
  go_enter Tryz.func18, Tryz.ntmps18
  go_wp2_with fail
  go_at_call 39
  refine HS.out.mono ?_
  rintro e w1 ⟨hq1, U, E, ua, uc, sa, sc, rfl, hspl, hun, hce, hUl⟩
  have HQ := Lib.hid hq1
  have Hspl := Lib.hid hspl
  have Hun := Lib.hid hun
  have Hce := Lib.hid hce
  have HUl := Lib.hid hUl
  clear hq1 hspl hun hce hUl
  simp only
  go_wp2_with fail
  have rX : ((w1.alloc (.cells #[.int .i64 (codeE E), .slice sa (pathE E).length sc] 42)).alloc (.cells #[.slice ua U.length uc, .int .i64 0, .int .i64 (codeE E), .slice sa (pathE E).length sc] 69)).heap[w1.heap.size + 1]? = some (.cells #[.slice ua U.length uc, .int .i64 0, .int .i64 (codeE E), .slice sa (pathE E).length sc] 69 (0, 0)) := heap_alloc_new' (by simp)
  refine HPost.out _ _ ?_
  have hO := (Only.new w1 (.cells #[.int .i64 (codeE E), .slice sa (pathE E).length sc] 42)).q (Only.new _ (.cells #[.slice ua U.length uc, .int .i64 0, .int .i64 (codeE E), .slice sa (pathE E).length sc] 69))
  refine ⟨⟨l, U, E, .slice ua U.length uc, .slice sa (pathE E).length sc, w.heap.size, w1.heap.size⟩, w1.heap.size + 1, rfl, rfl, ?_, HQ.out.q hO, Nat.le_refl _, HQ.out.size⟩
  exact ⟨rX, Hun.out.quiet hO, Hce.out.only hO (by simp), Hspl.out, Nat.zero_le _, Nat.le_succ _, fun _ => rfl, fun u h => absurd h (Nat.lt_irrefl _), Hr8.out, by have := Hl.out; show l.length ≤ _; omega, Nat.zero_le _, HUl.out⟩

theorem allR_err {l : List Int} (hl : ∀ x ∈ l, InK .u8 x) {er : Err} (h : (allR l).1 = .error er) : ErrOk er := by
  have h2 : openR l = .error (inE sBox (allR l).2.2 er) := by unfold openR; rw [h]
  obtain ⟨n, er', e, _, h3⟩ := openR_err hl h2
  obtain ⟨p, c⟩ := er
  obtain ⟨p', c'⟩ := er'
  unfold inE at e
  injection e with e1 e2
  injection e1 with _ e3
  simp only at e2 e3
  subst e2 e3
  exact h3

/-- what Read hands back -/
def KOpenP (w : World) (r : Except Err WholeD) (e : Ending) (w' : World) : Prop :=
  Only [] w w' ∧ match r with
    | .ok x => ∃ pv cv fv sa scap, e = .returned (.tuple #[allV x.head pv cv fv, .agg #[.int .i64 0, .slice sa 0 scap]]) ∧ scap ≤ maxLen ∧ EntriesAt w.heap.size w'.heap.size w' pv x.parts ∧ CodedsAt w.heap.size w'.heap.size w' cv x.coded ∧ Ints .i64 w.heap.size w'.heap.size w' fv x.fills
    | .error er => ∃ sa scap, e = .returned (.tuple #[allV ⟨0, 0, 0, cfg0, 0⟩ (.slice none 0 0) (.slice none 0 0) (.slice none 0 0), .agg #[.int .i64 er.code, .slice sa er.path.length scap]]) ∧ Cells 2 w.heap.size w'.heap.size w' (.slice sa er.path.length scap) er.path.length (flat er.path)

set_option maxRecDepth 100000 in
set_option maxHeartbeats 16000000 in
theorem kopen_any {lo hi : Nat} {bv : Value} {l : List Int} {w : World} (h : Ints .u8 lo hi w bv l) (hh : hi ≤ w.heap.size) (hl : l.length ≤ 100000000) :
    Calls Tryz.prog 7 #[bv] w (KOpenP w (openR l)) := by
  suffices key : ∀ Q : Ending → World → Prop, Hid (∀ e w', KOpenP w (openR l) e w' → Q e w') → Calls Tryz.prog 7 #[bv] w Q from key _ (Lib.hid fun _ _ h => h)
  intro Q HPost
  have hr8 := h.2
  obtain ⟨ba, bcap, rfl, _⟩ := h.open
  have hO : Only [] w ((w.alloc zAll).alloc zErr) := (Only.new _ _).q (Only.new _ _)
  have HR := Lib.hid (kreader_any (h.quiet hO) hl)
  have HA0 : Hid (((w.alloc zAll).alloc zErr).heap[w.heap.size]? = some zAll) := Lib.hid ((Below.heap_alloc _ _ _ (by simp)).trans (heap_alloc_new _ _))
  have HA1 : Hid (((w.alloc zAll).alloc zErr).heap[w.heap.size + 1]? = some zErr) := Lib.hid (heap_alloc_new' (by simp))
  have HB := Lib.hid (fun (w' : World) (o : Only [] w w') (K : KS) (R : Nat) (hK : KRd K R w' 0 0) (hKl : K.l = l) (hR : hi ≤ R) => kall_any hK (by rw [hKl]; exact h.quiet o) (.inr hR) (Nat.le_trans hh o.size))
  have HO := Lib.hid hO
  have Hh := Lib.hid hh
  have hz0 : w.heap.size + 2 ≤ ((w.alloc zAll).alloc zErr).heap.size := by simp
  clear h hO hl hh
  cases hres : (allR l).1 with
  | error er =>
    have Hfin : Hid (openR l = .error (inE sBox (allR l).2.2 er)) := Lib.hid (by unfold openR; rw [hres])
    have hok := allR_err hr8 hres
    have hcb : (er.code == 0) = false := by rw [beq_eq_false_iff_ne]; have := hok.2.1; omega
    have Hok := Lib.hid hok
    have Hres := Lib.hid hres
    clear hok hres hr8
    -- <S
    go_enter Tryz.func7, Tryz.ntmps7
    go_wp2_with fail
    go_at_call 18
    refine HR.out.mono ?_
    rintro e w1 ⟨K, R, rfl, hKl, hK, hq1, hlo1, hlh1⟩
    have HLH := Lib.hid (And.intro hlo1 hlh1)
    have hhi1 : ((w.alloc zAll).alloc zErr).heap.size ≤ K.hi := Nat.le_trans hlo1 hlh1
    have hRR := hK.hiR
    have hRl := hK.lt
    have HK := Lib.hid hK
    have HKl := Lib.hid hKl
    have HQ1 := Lib.hid hq1
    have hz1 := hq1.size
    clear hK hKl hq1
    go_wp2_with fail
    go_at_call 19
    refine (HB.out w1 (HO.out.q HQ1.out) K R HK.out HKl.out (by have := Hh.out; omega)).mono ?_
    rintro e w2 hP
    unfold KAllP at hP
    rw [HKl.out, Hres.out] at hP
    obtain ⟨hq2, hk2, i0, i1, i2, i3, i4, i5, i6, i7, i8, i9, i10, pa, pn, pcap, ca, cn, ccap, fa, fn, fcap, sa, scap, rfl, hsv⟩ := hP
    generalize (allR l).2.2 = n2 at *
    generalize (allR l).2.1 = p2 at *
    have hz2 := hq2.size
    have HK2 := Lib.hid hk2
    have HQ2 := Lib.hid hq2
    have HSv := Lib.hid hsv
    clear hk2 hq2 hsv
    simp only
    go_wp2_with fail
    go_at_call 20
    refine (ok_any _ _ _).mono ?_
    rintro e w3 ⟨rfl, hq3⟩
    rw [hcb]
    have hqA := ((Only.new w2 (.cells #[.int .i64 i0, .int .i64 i1, .int .i64 i2, .int .i64 i3, .int .i64 i4, .int .i64 i5, .int .i64 i6, .int .i64 i7, .int .i64 i8, .int .i64 i9, .int .i64 i10, .slice pa pn pcap, .slice ca cn ccap, .slice fa fn fcap] 38)).q (Only.new _ (.cells #[.int .i64 er.code, .slice sa er.path.length scap] 42))).q hq3
    have rX := hq3.row (heap_alloc_new' (w := w2.alloc (.cells #[.int .i64 i0, .int .i64 i1, .int .i64 i2, .int .i64 i3, .int .i64 i4, .int .i64 i5, .int .i64 i6, .int .i64 i7, .int .i64 i8, .int .i64 i9, .int .i64 i10, .slice pa pn pcap, .slice ca cn ccap, .slice fa fn fcap] 38)) (o := .cells #[.int .i64 er.code, .slice sa er.path.length scap] 42) (g := w2.heap.size + 1) (by simp))
    have r0 := hqA.row (HQ2.out.rowAt (HQ1.out.row HA0.out) (by simp; omega))
    have r1 := hqA.row (HQ2.out.rowAt (HQ1.out.row HA1.out) (by simp; omega))
    have hk3 := HK2.out.quiet hqA
    have c1 := hk3.c1
    obtain ⟨x0, x1, _, _, _⟩ := row2 rX
    have HX := Lib.hid (And.intro r0 (And.intro r1 (And.intro hk3 hqA)))
    have HS3 := Lib.hid (HSv.out.only hqA (by simp))
    have hz3 := hqA.size
    have hn1 : (w.heap.size = R) = False := eq_false (by omega)
    have hn2 : (w.heap.size + 1 = R) = False := eq_false (by omega)
    have hn3 : (w.heap.size = w2.heap.size + 1) = False := eq_false (by omega)
    have hn4 : (w.heap.size + 1 = w2.heap.size + 1) = False := eq_false (by omega)
    have hn5 : (w.heap.size = w2.heap.size) = False := eq_false (by omega)
    clear r0 r1 hk3 hqA rX hq3
    go_wp2_with fail
    go_region_held3 (fun w' => w'.cell? ⟨R, 1, none⟩ = some (.int .i64 n2) ∧ w'.cell? ⟨w2.heap.size + 1, 0, none⟩ = some (.int .i64 er.code) ∧ w'.cell? ⟨w2.heap.size + 1, 1, none⟩ = some (.slice sa er.path.length scap))
      (first
        | (simp only [World.cell?_setCell_far, ne_eq, hn1, hn2, hn3, hn4, hn5, not_false_eq_true]; exact ⟨u0, u1, u2⟩)
        | exact ⟨u0, u1, u2⟩
        | (simp [*, World.cell?_alloc_some, World.cell?_setCell_far, frozen?_alloc_cells, frozen_drew, World.frozen?_setCell])
        | fail)
      (first
        | (go_at_call 21; refine (kin_any _ _ _ (HS3.out.only (Only.refl [] w3).drew (by simp)) (by have := Hok.out.2.1; omega) (by have := Hok.out.1; omega)).mono ?_; rintro e w4 ⟨v4, rfl, ⟨sv4, rfl, hcs⟩, hq4⟩;
            obtain ⟨s4, s4cap, hse⟩ : ∃ s4 s4cap, sv4 = .slice s4 (er.path.length + 1) s4cap := (by obtain ⟨_, a, cap, h, _⟩ := hcs; exact ⟨a, cap, h⟩); subst hse;
            have hqd := (Only.refl [] w3).drew.q hq4;
            have rd0 := hqd.row HX.out.1; have rd1 := hqd.row HX.out.2.1; have u0 := hqd.cell c1 (by simp); have u1 := hqd.cell x0 (by simp); have u2 := hqd.cell x1 (by simp);
            obtain ⟨b0, b1, bf0, bf1, _⟩ := row2 rd1; obtain ⟨⟨n0', n1', n2', n3', n4', n5', n6'⟩, n7, n8, n9, n10, n11, n12, n13⟩ := cells14 rd0; obtain ⟨⟨k0, k1, k2, k3, k4, k5, k6⟩, k7, k8, k9, k10, k11, k12, k13⟩ := frz14 rd0;
            have HCs := Lib.hid hcs; have Hqd := Lib.hid hqd; have hz4 := hqd.size; have HRd := Lib.hid (And.intro rd0 rd1); clear hcs hqd hq4 rd0 rd1)
        | fail)
    all_goals
      go_wp2_with fail
      generalize hWf : World.setCell _ _ _ = Wf
      obtain ⟨rf, ⟨s0, s1⟩, oF⟩ := set16r HRd.out.1 HRd.out.2 (by omega) hWf
      obtain ⟨⟨t0, t1, t2, t3, t4, t5, t6⟩, t7, t8, t9, t10, t11, t12, t13⟩ := cells14 rf
      refine bodyPost_ret (v := .tuple #[allV ⟨0, 0, 0, cfg0, 0⟩ (.slice none 0 0) (.slice none 0 0) (.slice none 0 0), .agg #[.int .i64 er.code, .slice s4 (er.path.length + 1) s4cap]]) (by simp [results, Tryz.results7, go_sem, t0, t1, t2, t3, t4, t5, t6, t7, t8, t9, t10, t11, t12, t13, s0, s1, allV, cfg0]) rfl (HPost.out _ _ ?_)
      unfold KOpenP
      rw [Hfin.out]
      have hA : Only [] w w3 := (HO.out.q HQ1.out).trans (HQ2.out.trans HX.out.2.2.2 (fun g h _ => h) (fun g h _ => by simp at h)) (by simp) (fun g hg hlt => by rw [List.mem_singleton] at hg; omega)
      have hmem2 : ∀ g ∈ [w.heap.size, w.heap.size + 1], g < w1.heap.size := fun g hg => by simp at hg; omega
      exact ⟨((hA.q Hqd.out).tail2 oF (by omega) (by omega)), s4, s4cap, rfl, ((HCs.out.only oF (fun g hg => .inl (by have := hmem2 g hg; show g < w3.heap.size; omega))).mono (by show _ ≤ w3.heap.size; omega) oF.size)⟩
    -- S>
  | ok x =>
    have Hfin : Hid (openR l = .ok x) := Lib.hid (by unfold openR; rw [hres])
    have Hres := Lib.hid hres
    clear hres hr8
    obtain ⟨⟨hW, hH, hF, ⟨q0, q1, q2, q3, q4, q5, q6, q7⟩, np⟩, es, cs, fs⟩ := x
    -- <S
    go_enter Tryz.func7, Tryz.ntmps7
    go_wp2_with fail
    go_at_call 18
    refine HR.out.mono ?_
    rintro e w1 ⟨K, R, rfl, hKl, hK, hq1, hlo1, hlh1⟩
    have HLH := Lib.hid (And.intro hlo1 hlh1)
    have hhi1 : ((w.alloc zAll).alloc zErr).heap.size ≤ K.hi := Nat.le_trans hlo1 hlh1
    have hRR := hK.hiR
    have hRl := hK.lt
    have HK := Lib.hid hK
    have HKl := Lib.hid hKl
    have HQ1 := Lib.hid hq1
    have hz1 := hq1.size
    clear hK hKl hq1
    go_wp2_with fail
    go_at_call 19
    refine (HB.out w1 (HO.out.q HQ1.out) K R HK.out HKl.out (by have := Hh.out; omega)).mono ?_
    rintro e w2 hP
    unfold KAllP at hP
    rw [HKl.out, Hres.out] at hP
    obtain ⟨hq2, hk2, pv, cv, fv, sa, scap, rfl, hsm, hoe, hoc, hof⟩ := hP
    have Hsm := Lib.hid hsm
    clear hsm
    obtain ⟨pa, pcap, rfl⟩ := hoe.isSlice
    obtain ⟨ca, ccap, rfl⟩ := hoc.isSlice
    obtain ⟨fa, fcap, hfe⟩ : ∃ a cap, fv = .slice a fs.length cap := by obtain ⟨a, cap, h, _⟩ := hof.ints.open; exact ⟨a, cap, h⟩
    subst hfe
    have hz2 := hq2.size
    have HQ2 := Lib.hid hq2
    have HOE := Lib.hid hoe
    have HOC := Lib.hid hoc
    have HOF := Lib.hid hof
    clear hk2 hq2 hoe hoc hof
    unfold allV
    simp only
    go_wp2_with fail
    go_at_call 20
    refine (ok_any _ _ _).mono ?_
    rintro e w3 ⟨rfl, hq3⟩
    simp only [BEq.rfl]
    have hqA := ((Only.new w2 (.cells #[.int .i64 hW, .int .i64 hH, .int .i64 hF, .int .i64 q0, .int .i64 q1, .int .i64 q2, .int .i64 q3, .int .i64 q4, .int .i64 q5, .int .i64 q6, .int .i64 q7, .slice pa es.length pcap, .slice ca cs.length ccap, .slice fa fs.length fcap] 38)).q (Only.new _ (.cells #[.int .i64 0, .slice sa 0 scap] 42))).q hq3
    have rX := hq3.row (heap_alloc_new' (w := w2.alloc (.cells #[.int .i64 hW, .int .i64 hH, .int .i64 hF, .int .i64 q0, .int .i64 q1, .int .i64 q2, .int .i64 q3, .int .i64 q4, .int .i64 q5, .int .i64 q6, .int .i64 q7, .slice pa es.length pcap, .slice ca cs.length ccap, .slice fa fs.length fcap] 38)) (o := .cells #[.int .i64 0, .slice sa 0 scap] 42) (g := w2.heap.size + 1) (by simp))
    have rA := hq3.row ((Below.heap_alloc (w2.alloc (.cells #[.int .i64 hW, .int .i64 hH, .int .i64 hF, .int .i64 q0, .int .i64 q1, .int .i64 q2, .int .i64 q3, .int .i64 q4, .int .i64 q5, .int .i64 q6, .int .i64 q7, .slice pa es.length pcap, .slice ca cs.length ccap, .slice fa fs.length fcap] 38)) (.cells #[.int .i64 0, .slice sa 0 scap] 42) w2.heap.size (by simp)).trans (heap_alloc_new w2 _))
    have r0 := hqA.row (HQ2.out.rowAt (HQ1.out.row HA0.out) (by simp; omega))
    have r1 := hqA.row (HQ2.out.rowAt (HQ1.out.row HA1.out) (by simp; omega))
    obtain ⟨x0, x1, _, _, _⟩ := row2 rX
    obtain ⟨⟨m0, m1, m2, m3, m4, m5, m6⟩, m7, m8, m9, m10, m11, m12, m13⟩ := cells14 rA
    obtain ⟨⟨n0, n1, n2, n3, n4, n5, n6⟩, n7, n8, n9, n10, n11, n12, n13⟩ := cells14 r0
    obtain ⟨⟨k0, k1, k2, k3, k4, k5, k6⟩, k7, k8, k9, k10, k11, k12, k13⟩ := frz14 r0
    obtain ⟨b0, b1, bf0, bf1, _⟩ := row2 r1
    have HX := Lib.hid (And.intro r0 (And.intro r1 hqA))
    have hz3 := hqA.size
    have hn3 : ¬ w.heap.size = w2.heap.size + 1 := by omega
    have hn4 : ¬ w.heap.size + 1 = w2.heap.size + 1 := by omega
    have hn5 : ¬ w.heap.size = w2.heap.size := by omega
    have hn6 : ¬ w.heap.size + 1 = w2.heap.size := by omega
    clear r0 r1 hqA rX rA hq3
    go_wp2_with fail
    go_region
    go_wp2_with fail
    generalize hWf : World.setCell _ _ _ = Wf
    obtain ⟨rf, ⟨s0, s1⟩, oF⟩ := set16r HX.out.1 HX.out.2.1 (by omega) hWf
    obtain ⟨⟨t0, t1, t2, t3, t4, t5, t6⟩, t7, t8, t9, t10, t11, t12, t13⟩ := cells14 rf
    refine bodyPost_ret (v := .tuple #[allV ⟨hW, hH, hF, ⟨q0, q1, q2, q3, q4, q5, q6, q7⟩, np⟩ (.slice pa es.length pcap) (.slice ca cs.length ccap) (.slice fa fs.length fcap), .agg #[.int .i64 0, .slice sa 0 scap]]) (by simp [results, Tryz.results7, go_sem, t0, t1, t2, t3, t4, t5, t6, t7, t8, t9, t10, t11, t12, t13, s0, s1, allV]) rfl (HPost.out _ _ ?_)
    unfold KOpenP
    rw [Hfin.out]
    have hA : Only [] w w3 := (HO.out.q HQ1.out).trans (HQ2.out.trans HX.out.2.2 (fun g h _ => h) (fun g h _ => by simp at h)) (by simp) (fun g hg hlt => by rw [List.mem_singleton] at hg; omega)
    have hzf := oF.size
    have hqA := HX.out.2.2
    have hmem2 : ∀ g ∈ [w.heap.size, w.heap.size + 1], g < w1.heap.size := fun g hg => by simp at hg; omega
    have hmem3 : ∀ g ∈ [w.heap.size, w.heap.size + 1], g < ((w.alloc zAll).alloc zErr).heap.size := fun g hg => by simp only [List.mem_cons, List.not_mem_nil, or_false] at hg; omega
    obtain ⟨hlo1, hlh1⟩ := HLH.out
    have hd : Only [] Wf Wf.drew := (Only.refl _ _).drew
    refine ⟨(hA.tail2 oF (by omega) (by omega)).drew, _, _, _, sa, scap, rfl, Hsm.out, ?_, ?_, ?_⟩
    · exact EntriesAt.quiet (Rows.mono (OwnE.entries (owns_only (HOE.out.quiet hqA) oF (fun g hg e => by have := (HOE.out.lt g e).1; have := hmem2 g hg; omega))) (by omega) (Nat.le_refl _)) hd
    · exact ((((HOC.out.quiet hqA).codeds hlh1 (by omega)).only oF (fun g hg => .inl (by have := hmem3 g hg; omega))).mono (by omega) (by show _ ≤ Wf.heap.size; omega)).quiet hd
    · exact ((((HOF.out.quiet hqA).only oF (fun g hg e => by have := (HOF.out.at g e).1; have := hmem2 g hg; omega)).ints).mono (by omega) (Nat.le_refl _)).quiet hd
    -- S>
#print axioms kopen_any
end Go.Proofs.YtmbjehnddgcboaaGreatDoor
