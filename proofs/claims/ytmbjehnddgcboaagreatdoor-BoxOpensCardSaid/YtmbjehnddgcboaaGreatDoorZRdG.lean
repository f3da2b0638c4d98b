/- Joined texts: RdG. Conditions: each part names its own. -/
import Derived.Test.YtmbjehnddgcboaaGreatDoorC6
/- The reader of box: frames. Conditions: the reader lies in a block behind its bytes. -/
namespace Go.Proofs.YtmbjehnddgcboaaGreatDoor
open Go.RowKit
set_option linter.unusedVariables false
set_option linter.unusedSimpArgs false

theorem getD_nn {d : List Int} (hr : ∀ x ∈ d, InK .u8 x) (i : Nat) : 0 ≤ d.getD i 0 := by
  by_cases h : i < d.length
  · have : InK .u8 (d.getD i 0) := by refine hr _ ?_; simp [h]
    exact this.1
  · simp [List.getD_eq_getElem?_getD, List.getElem?_eq_none (Nat.le_of_not_lt h)]
theorem lenU_nn (d : List Int) (hr : ∀ x ∈ d, InK .u8 x) : 0 ≤ lenU d := by
  have := getD_nn hr 1; have := getD_nn hr 2; have := getD_nn hr 3
  unfold lenU; omega
theorem nextD_ok {d : List Int} {p : Nat} {u : UnitD} (h : nextD d p = .ok u) (hd : 0 < d.length) (hr : ∀ x ∈ d, InK .u8 x) : u.at_ = p ∧ p < u.end_ ∧ u.end_ ≤ p + d.length ∧ 0 ≤ u.kind ∧ u.kind ≤ 255 ∧ u.data.length + p ≤ u.end_ := by
  have h0 : InK .u8 (d.getD 0 0) := by refine hr _ ?_; simp [hd]
  unfold nextD at h
  split at h
  · cases h; exact ⟨rfl, by simp, by simp; omega, by simp, by simp, by simp⟩
  split at h
  · cases h
  split at h
  · cases h
  split at h
  · cases h
  split at h
  · cases h
  cases h
  unfold InK at h0
  refine ⟨rfl, by simp; omega, by simp; have := lenU_nn d hr; omega, h0.1, h0.2, ?_⟩
  simp only [List.length_take]
  omega
theorem peekR_ok {l : List Int} {p : Nat} {u : UnitD} (h : peekR l p = .ok u) (hp : p ≤ l.length) (hr : ∀ x ∈ l, InK .u8 x) : u.at_ = p ∧ p < u.end_ ∧ u.end_ ≤ l.length ∧ 0 ≤ u.kind ∧ u.kind ≤ 255 ∧ u.data.length + p ≤ u.end_ := by
  unfold peekR at h
  split at h
  · cases h
  have := nextD_ok h (by rw [List.length_drop]; omega) (fun x hx => hr x (List.mem_of_mem_drop hx))
  rw [List.length_drop] at this
  omega

def consF (c : Coded) (z : Nat) (r : (Except Err (List Coded × List Int)) × Nat × Nat) : (Except Err (List Coded × List Int)) × Nat × Nat :=
  (match r.1 with | .ok x => .ok (c :: x.1, (z : Int) :: x.2) | .error e => .error e, r.2)
def framesR (l : List Int) : Nat → Nat → Nat → Nat → (Except Err (List Coded × List Int)) × Nat × Nat
  | 0, _, p, n => (.ok ([], []), p, n)
  | c + 1, i, p, n =>
    match peekR l p with
    | .error e => (.error e, p, n)
    | .ok u =>
      if u.kind < 1 ∨ 4 < u.kind ∨ (i = 0 ∧ u.kind ≠ 1 ∧ u.kind ≠ 4) then (.error ⟨[], 2⟩, p, n)
      else match readB ⟨u.kind, u.data⟩ with
        | some k => (.error ⟨[], k⟩, p, n)
        | none => consF ⟨u.kind, u.data⟩ (zeros (l.drop u.end_)) (framesR l c (i + 1) (u.end_ + zeros (l.drop u.end_)) (n + 1 + zeros (l.drop u.end_)))
def preF (cs : List Coded) (fs : List Int) (r : (Except Err (List Coded × List Int)) × Nat × Nat) : (Except Err (List Coded × List Int)) × Nat × Nat :=
  (match r.1 with | .ok x => .ok (cs ++ x.1, fs ++ x.2) | .error e => .error e, r.2)
theorem preF_nil (r : (Except Err (List Coded × List Int)) × Nat × Nat) : preF [] [] r = r := by
  obtain ⟨a, b⟩ := r
  cases a <;> rfl
theorem preF_cons (cs : List Coded) (fs : List Int) (c : Coded) (z : Nat) (r : (Except Err (List Coded × List Int)) × Nat × Nat) : preF cs fs (consF c z r) = preF (cs ++ [c]) (fs ++ [(z : Int)]) r := by
  obtain ⟨a, b⟩ := r
  cases a <;> simp [preF, consF]
/-- what frames hands back -/
def FramesP (R : Nat) (bv : Value) (w : World) (r : (Except Err (List Coded × List Int)) × Nat × Nat) (e : Ending) (w' : World) : Prop :=
  Only [R] w w' ∧ Rd R bv w' r.2.1 r.2.2 ∧ match r.1 with
    | .ok x => ∃ cv fv, e = .returned (.tuple #[cv, fv, .nilIface]) ∧ OwnC w.heap.size w' cv x.1 (fun b => fv.ownBlock = some b) ∧ Own .i64 3 w.heap.size w' fv x.2
    | .error er => ∃ ev, e = .returned (.tuple #[.slice none 0 0, .slice none 0 0, ev]) ∧ ErrV w.heap.size w'.heap.size w' ev er

set_option maxRecDepth 100000 in
set_option maxHeartbeats 4000000 in
theorem rframes_any {lo hi R p n : Nat} {bv : Value} {l : List Int} {w : World} (count : Nat) (hr : Rd R bv w p n) (h : Ints .u8 lo hi w bv l) (hR : hi ≤ R) (hp : p ≤ l.length) (hn : n ≤ p) (hl : l.length ≤ 1000000000000) (hc : count ≤ 1000000) :
    Calls Tryz.prog 82 #[.pointer (some ⟨R, 0, none⟩), .int .i64 count] w (FramesP R bv w (framesR l count 0 p n)) := by
  have hRl := hr.lt
  have Hh := Lib.hid h
  have Hr8 := Lib.hid h.2
  have Hl := Lib.hid hl
  have Hc := Lib.hid hc
  clear h hl
  go_enter Tryz.func82, Tryz.ntmps82
  go_wp2
  go_loopw [16, 7, 8] (fun i x y wr => ∃ (k q m : Nat) (cs : List Coded) (fs : List Int), k ≤ count ∧ i = .int .i64 k ∧ q ≤ l.length ∧ m ≤ q ∧ cs.length = k ∧ fs.length = k ∧ Hid (preF cs fs (framesR l (count - k) k q m) = framesR l count 0 p n) ∧ Rd R bv wr q m ∧
    OwnC w.heap.size wr x cs (fun b => y.ownBlock = some b) ∧ Own .i64 3 w.heap.size wr y fs ∧ From w.heap.size x ∧ From w.heap.size y ∧ Only [R] w wr) (fun i _ _ _ => count - (intOf i).toNat)
  case atStart => exact ⟨0, p, n, [], [], by omega, rfl, hp, hn, rfl, rfl, Lib.hid (preF_nil _), hr, OwnC.nil _ _ _, Own.nil _ _ _ _, From.nil _, From.nil _, Only.refl _ _⟩
  case round =>
    obtain ⟨k, q, m, cs, fs, hk, rfl, hq1, hm1, hcl, hfl, Hk, hrd, hoc, hof, hfx, hfy, hO⟩ := hrel
    clear hp hn hr
    by_cases hlt : k < count
    · obtain ⟨g, hg⟩ : ∃ g, count - k = g + 1 := ⟨count - k - 1, by omega⟩
      have Hg := Lib.hid hg
      have hlti : (k : Int) < (count : Int) := by omega
      have hk0 : (0 : Int) ≤ (k : Int) := by omega
      have hbv := Hh.out.only hO (by intro g hg; rw [List.mem_singleton] at hg; omega)
      have H := Lib.hid (peek_any hrd hbv hq1)
      have HRd := Lib.hid hrd
      have HOC := Lib.hid hoc
      have HOF := Lib.hid hof
      have HO := Lib.hid hO
      have Hcl := Lib.hid hcl
      have Hfl := Lib.hid hfl
      clear hg hrd hoc hof hO hcl hfl hbv
      cases hres : peekR l q with
      | error er =>
        have hfin : framesR l count 0 p n = (.error er, q, m) := by rw [← Hk.out, Hg.out, framesR, hres]; rfl
        have Hfin := Lib.hid hfin
        have Hres := Lib.hid hres
        clear hfin hres
        go_wp2_with (first | (go_at_call 84; refine H.out.mono ?_; rintro e w1 hP; rw [Hres.out] at hP; obtain ⟨hq, ev, rfl, hev⟩ := hP; obtain ⟨et, eu, rfl⟩ := hev.held) | fail)
        refine bodyPost_ret (v := .tuple #[.slice none 0 0, .slice none 0 0, .iface et eu]) (by simp [results, Tryz.results82, go_sem]) rfl ?_
        unfold FramesP
        rw [Hfin.out]
        have hz := HO.out.size
        exact ⟨(HO.out.trans hq (U := [R]) (fun g h _ => h) (by simp)).alloc _, (HRd.out.quiet hq).quiet (Only.new _ _), _, rfl, (hev.quiet (Only.new _ _)).mono hz (by simp)⟩
      | ok u =>
        obtain ⟨uk, ud, ua, ue⟩ := u
        have hpk := peekR_ok hres hq1 Hr8.out
        simp only at hpk
        obtain ⟨rfl, hue1, hue2, huk0, huk1, hud⟩ := hpk
        have Hres := Lib.hid hres
        clear hres
        by_cases hbad : uk < 1 ∨ 4 < uk ∨ (k = 0 ∧ uk ≠ 1 ∧ uk ≠ 4)
        · have hfin : framesR l count 0 p n = (.error ⟨[], 2⟩, ua, m) := by rw [← Hk.out, Hg.out, framesR, Hres.out]; simp only; rw [if_pos hbad]; rfl
          have Hfin := Lib.hid hfin
          clear hfin
          have h3 : uk < 1 ∨ (¬ uk < 1 ∧ 4 < uk) ∨ (¬ uk < 1 ∧ ¬ 4 < uk ∧ ((k : Int) == 0) = true ∧ (uk != 1) = true ∧ (uk != 4) = true) := by
            by_cases h1 : uk < 1
            · exact .inl h1
            by_cases h2 : 4 < uk
            · exact .inr (.inl ⟨h1, h2⟩)
            rcases hbad with h | h | ⟨h, h', h''⟩
            · exact absurd h h1
            · exact absurd h h2
            · exact .inr (.inr ⟨h1, h2, by subst h; rfl, by simpa using h', by simpa using h''⟩)
          clear hbad
          rcases h3 with h1 | ⟨h1, h2⟩ | ⟨h1, h2, h4, h5, h6⟩
          · go_wp2_with (first | (go_at_call 84; refine H.out.mono ?_; rintro e w1 hP; rw [Hres.out] at hP; obtain ⟨hq, dv, rfl, hdv⟩ := hP; obtain ⟨da, dcap, rfl, _⟩ := hdv.open; simp only) | fail)
            refine bodyPost_ret (v := .tuple #[.slice none 0 0, .slice none 0 0, .iface 39 (.int .i64 2)]) (by simp [results, Tryz.results82, go_sem]) rfl ?_
            unfold FramesP
            rw [Hfin.out]
            exact ⟨(HO.out.trans hq (U := [R]) (fun g h _ => h) (by simp)).alloc _, (HRd.out.quiet hq).quiet (Only.new _ _), _, rfl, rfl⟩
          · go_wp2_with (first | (go_at_call 84; refine H.out.mono ?_; rintro e w1 hP; rw [Hres.out] at hP; obtain ⟨hq, dv, rfl, hdv⟩ := hP; obtain ⟨da, dcap, rfl, _⟩ := hdv.open; simp only) | fail)
            refine bodyPost_ret (v := .tuple #[.slice none 0 0, .slice none 0 0, .iface 39 (.int .i64 2)]) (by simp [results, Tryz.results82, go_sem]) rfl ?_
            unfold FramesP
            rw [Hfin.out]
            exact ⟨(HO.out.trans hq (U := [R]) (fun g h _ => h) (by simp)).alloc _, (HRd.out.quiet hq).quiet (Only.new _ _), _, rfl, rfl⟩
          · go_wp2_with (first | (go_at_call 84; refine H.out.mono ?_; rintro e w1 hP; rw [Hres.out] at hP; obtain ⟨hq, dv, rfl, hdv⟩ := hP; obtain ⟨da, dcap, rfl, _⟩ := hdv.open; simp only) | fail)
            refine bodyPost_ret (v := .tuple #[.slice none 0 0, .slice none 0 0, .iface 39 (.int .i64 2)]) (by simp [results, Tryz.results82, go_sem]) rfl ?_
            unfold FramesP
            rw [Hfin.out]
            exact ⟨(HO.out.trans hq (U := [R]) (fun g h _ => h) (by simp)).alloc _, (HRd.out.quiet hq).quiet (Only.new _ _), _, rfl, rfl⟩
        · have hgood : ¬ uk < 1 ∧ ¬ 4 < uk ∧ ((((k : Int) == 0) = false) ∨ (((k : Int) == 0) = true ∧ (uk != 1) = false) ∨ (((k : Int) == 0) = true ∧ (uk != 1) = true ∧ (uk != 4) = false)) := by
            refine ⟨fun h => hbad (.inl h), fun h => hbad (.inr (.inl h)), ?_⟩
            by_cases h0 : k = 0
            · by_cases h1 : uk = 1
              · exact .inr (.inl ⟨by simp [h0], by simp [h1]⟩)
              · by_cases h4 : uk = 4
                · exact .inr (.inr ⟨by simp [h0], by simp [h1], by simp [h4]⟩)
                · exact absurd (.inr (.inr ⟨h0, h1, h4⟩)) hbad
            · exact .inl (by simp; omega)
          have hukk : InK .i64 uk := by unfold InK; omega
          have hstep : framesR l count 0 p n = preF cs fs (match readB ⟨uk, ud⟩ with
            | some k => (.error ⟨[], k⟩, ua, m)
            | none => consF ⟨uk, ud⟩ (zeros (l.drop ue)) (framesR l g (k + 1) (ue + zeros (l.drop ue)) (m + 1 + zeros (l.drop ue)))) := by
            rw [← Hk.out, Hg.out, framesR, Hres.out]; simp only; rw [if_neg hbad]
          obtain ⟨hg1, hg2, hg3⟩ := hgood
          have HRead := Lib.hid (fun (w1 : World) (dv : Value) (W2 : World) (hdv : Ints .u8 wr.heap.size w1.heap.size w1 dv ud) (o : Only [] w1 W2) => read_any (k := uk) (hdv.quiet o))
          clear hbad
          cases hrb : readB ⟨uk, ud⟩ with
          | some kc =>
            have hfin : framesR l count 0 p n = (.error ⟨[], kc⟩, ua, m) := by rw [hstep, hrb]; rfl
            have Hfin := Lib.hid hfin
            have Hrb := Lib.hid hrb
            clear hfin hstep hrb
            rcases hg3 with h1 | ⟨h1, h2⟩ | ⟨h1, h2, h3⟩
            all_goals
              go_wp2_with (first | (go_at_call 84; refine H.out.mono ?_; rintro e w1 hP; rw [Hres.out] at hP; obtain ⟨hq, dv, rfl, hdv⟩ := hP; obtain ⟨da, dcap, rfl, _⟩ := hdv.open; simp only; have Hdv := Lib.hid hdv; clear hdv) | (go_at_call 78; refine (HRead.out w1 _ _ Hdv.out ((Only.new _ _).q (Only.new _ _))).mono ?_; rintro e w2 hP; unfold HeadOr at hP; rw [Hrb.out] at hP; obtain ⟨hq2, rfl⟩ := hP) | fail)
              refine bodyPost_ret (v := .tuple #[.slice none 0 0, .slice none 0 0, .iface 39 (.int .i64 kc)]) (by simp [results, Tryz.results82, go_sem]) rfl ?_
              unfold FramesP
              rw [Hfin.out]
              have hqa : Only [] wr w2 := hq.q (((Only.new _ _).q (Only.new _ _)).q hq2)
              exact ⟨(HO.out.trans hqa (U := [R]) (fun g h _ => h) (by simp)).alloc _, (HRd.out.quiet hqa).quiet (Only.new _ _), _, rfl, rfl⟩
          | none =>
            have hfin : framesR l count 0 p n = preF cs fs (consF ⟨uk, ud⟩ (zeros (l.drop ue)) (framesR l g (k + 1) (ue + zeros (l.drop ue)) (m + 1 + zeros (l.drop ue)))) := by rw [hstep, hrb]
            have Hfin := Lib.hid hfin
            have Hrb := Lib.hid hrb
            clear hfin hstep hrb
            rcases hg3 with h1 | ⟨h1, h2⟩ | ⟨h1, h2, h3⟩
            all_goals
              go_wp2_with (first
                | (go_at_call 84; refine H.out.mono ?_; rintro e w1 hP; rw [Hres.out] at hP; obtain ⟨hq, dv, rfl, hdv⟩ := hP; obtain ⟨da, dcap, rfl, _⟩ := hdv.open; simp only; have Hdv := Lib.hid hdv; clear hdv)
                | (go_at_call 78; refine (HRead.out w1 _ _ Hdv.out ((Only.new _ _).q (Only.new _ _))).mono ?_; rintro e w2 hP; unfold HeadOr at hP; rw [Hrb.out] at hP; obtain ⟨hq2, dv2, rfl, hdv2⟩ := hP; obtain ⟨da2, dcap2, rfl, _⟩ := hdv2.open; clear hdv2; simp only;
                    have rU := hq2.rowAt ((Below.heap_alloc _ _ _ (by simp)).trans (heap_alloc_new w1 _)) (by simp); have rC := hq2.rowAt (heap_alloc_new' (g := w1.heap.size + 1) (by simp)) (by simp);
                    obtain ⟨y0, y1, y2, y3⟩ := row4_cells rU; have v0 := (fun o => (Only.new w2 o).cell y0 (by simp)); have v1 := (fun o => (Only.new w2 o).cell y1 (by simp)); have v2 := (fun o => (Only.new w2 o).cell y2 (by simp)); have v3 := (fun o => (Only.new w2 o).cell y3 (by simp)); have RC := Lib.hid rC; clear rU rC y0 y1 y2 y3)
                | (go_at_call 81; refine (pass_any _ _ _ _ _ (n := m) (e_ := ue) (HRd.out.quiet ((hq.q (((Only.new _ _).q (Only.new _ _)).q hq2)).q (Only.new _ _))) (by have := Hl.out; omega)).mono ?_; rintro e w3 ⟨rfl, hr3, hq3⟩;
                    have hz1 := hq.size; have rC3 := hq3.rowAt ((Only.new w2 _).rowAt RC.out (by simp)) (by simp; have := HRd.out.lt; omega);
                    have c0 : w3.cell? ⟨w1.heap.size + 1, 0, none⟩ = some (.int .i64 uk) := (by rw [cell_of_row _ _ _ _ _ _ rC3]; rfl); have c1 : w3.cell? ⟨w1.heap.size + 1, 1, none⟩ = some (.slice da ud.length dcap) := (by rw [cell_of_row _ _ _ _ _ _ rC3]; rfl); clear rC3; have Hr3 := Lib.hid hr3; clear hr3;
                    have hO3 : Only [R] wr w3 := (((hq.q (((Only.new _ _).q (Only.new _ _)).q hq2)).q (Only.new _ _)).mono (U := [R]) (by simp)).trans hq3 (fun g h _ => h) (fun g h _ => h);
                    have hO3a := hO3.alloc (.cells #[.int .i64 uk, .slice da ud.length dcap] 71);
                    have hocA := HOC.out.only hO3a (by intro g hg; rw [List.mem_singleton] at hg; omega);
                    have hdv3 : Ints .u8 wr.heap.size w3.heap.size w3 (.slice da ud.length dcap) ud := (Hdv.out.only ((((((Only.new _ _).q (Only.new _ _)).q hq2).q (Only.new _ _)).mono (U := [R]) (by simp)).trans hq3 (U := [R]) (fun g h _ => h) (fun g h _ => h)) (by intro g hg; rw [List.mem_singleton] at hg; have := HRd.out.lt; omega)).mono (Nat.le_refl _) (by have := hO3.size; have := hq2.size; have := hq3.size; simp at *; omega);
                    have hone := OwnC.one (g := w3.heap.size) rfl hukk hdv3 hO3.size;
                    have hvb := (fun g hg => (HOC.out.at g hg).2);
                    have hXb := (fun g (hg : u8.ownBlock = some g) => (⟨Nat.lt_of_lt_of_le (HOF.out.at g hg).2 hO3a.size, Or.inl (HOF.out.at g hg).2⟩ : g < (w3.alloc (.cells #[.int .i64 uk, .slice da ud.length dcap] 71)).heap.size ∧ (g < wr.heap.size ∨ g < wr.heap.size)));
                    have hby : (cs.length + 1) * 32 ≤ 140737488355328 := (by have := Hcl.out; omega);
                    have hba : wr.heap.size ≤ (w3.alloc (.cells #[.int .i64 uk, .slice da ud.length dcap] 71)).heap.size := hO3a.size)
                | (at_builtin; refine wpList_append_coded rfl (.tmp 66) (.tmp 68) 35 rfl EC hocA rfl hone rfl HO.out.size hvb hXb hby hba (fun v1 w4 hoc4 hacc4 => ?_); have Hoc4 := Lib.hid hoc4; have Hacc4 := Lib.hid hacc4; clear hoc4 hacc4 hocA hone hvb hXb hdv3;
                    have hO4 : Only [R] w w4 := (HO.out.trans hO3a (U := [R]) (fun g h _ => h) (fun g h _ => h)).trans Hacc4.out.only (fun g h _ => h) (fun g hg hlt => absurd hlt (by have := hfx g (by simpa using hg); omega));
                    have hr4 := (Hr3.out.quiet (Only.new _ _)).only Hacc4.out.only (fun hg => by have := hfx R (by simpa using hg); omega);
                    have hI4 := Hh.out.only hO4 (by intro g hg; rw [List.mem_singleton] at hg; omega);
                    have hof4 := (HOF.out.only hO3a (by intro g hg; rw [List.mem_singleton] at hg; subst hg; exact fun e => by have := hfy _ e; omega)).acc Hacc4.out (HOC.out.sep (fun b h => h));
                    have HF := Lib.hid (rfills_any hr4 hI4 hR hue2 (by have := Hl.out; omega) Hl.out); have Hof4 := Lib.hid hof4; clear hr4 hI4 hof4)
                | (go_at_call 92; refine HF.out.mono ?_; rintro e w5 ⟨rfl, hr5, hq5⟩; have hzz := zeros_le (l.drop ue); rw [List.length_drop] at hzz; generalize hzq : zeros (l.drop ue) = z at *; have Hzq := Lib.hid hzq; clear hzq; have Hr5 := Lib.hid hr5; clear hr5;
                    have hof5 := (Hof4.out.only hq5 (by intro g hg; rw [List.mem_singleton] at hg; subst hg; exact fun e => by have := hfy _ e; omega)).quiet (Only.new _ (.cells #[.int .i64 z] 3));
                    have hsrc := ints_newG (k := .i64) (w := w5) (t := 3) (l := [(z : Int)]) rfl (by simp [maxLen]) (by simp only [List.mem_singleton, forall_eq, InK]; have := Hl.out; omega) 1 rfl rfl;
                    have hby2 : (fs.length + [(z : Int)].length) * 8 ≤ 140737488355328 := (by have := Hfl.out; simp only [List.length_singleton]; omega);
                    have hba2 : w.heap.size ≤ (w5.alloc (.cells #[.int .i64 z] 3)).heap.size := (by have := hO4.size; have := hq5.size; simp; omega))
                | (at_builtin; refine wpList_append_ints rfl (.tmp 70) (.tmp 73) 36 rfl EI hof5 rfl hsrc rfl hby2 hba2 (fun v2 w6 hof6 hacc6 => ?_); have Hof6 := Lib.hid hof6; have Hacc6 := Lib.hid hacc6; clear hof6 hacc6)
                | fail)
              go_roundw
              case rel =>
                have hO5 := hq5.alloc (.cells #[.int .i64 z] 3)
                have hfin2 : Hid (preF (cs ++ [⟨uk, ud⟩]) (fs ++ [(z : Int)]) (framesR l (count - (k + 1)) (k + 1) (ue + z) (m + 1 + z)) = framesR l count 0 p n) := Lib.hid (by
                  rw [Hfin.out, preF_cons]; congr 2; have := Hg.out; omega)
                have hocB := (Hoc4.out.only hO5 (by intro g hg; rw [List.mem_singleton] at hg; omega)).other Hacc6.out (fun g hg => hg) (fun g hg => .inr hg)
                have hO6 : Only [R] w w6 := (hO4.trans hO5 (U := [R]) (fun g h _ => h) (fun g h _ => h)).trans Hacc6.out.only (fun g h _ => h) (fun g hg hlt => absurd hlt (by have := hfy g (by simpa using hg); omega))
                have hr6 := (Hr5.out.quiet (Only.new _ _)).only Hacc6.out.only (fun hg => by have := hfy R (by simpa using hg); omega)
                have hsz4 := hO4.size
                have hsz3 := hO3a.size
                have hszO := HO.out.size
                refine ⟨k + 1, ue + z, m + 1 + z, cs ++ [⟨uk, ud⟩], fs ++ [(z : Int)], by omega, by go_num, by omega, by omega, by have := Hcl.out; simp; omega, by have := Hfl.out; simp; omega, hfin2, hr6, hocB, Hof6.out, Hacc4.out.from_ hfx (by omega), Hacc6.out.from_ hfy hba2, hO6⟩
              case measure => simp [intOf]; omega
    · obtain rfl : k = count := by omega
      have hx : ¬ (k : Int) < (k : Int) := by omega
      have hfin : framesR l k 0 p n = (.ok (cs, fs), q, m) := by rw [← Hk.out, Nat.sub_self]; simp [framesR, preF]
      have Hfin := Lib.hid hfin
      clear hfin
      obtain ⟨ca, ccap, rfl⟩ := hoc.isSlice
      go_wp2
      refine bodyPost_ret (v := .tuple #[.slice ca cs.length ccap, u8, .nilIface]) (by simp [results, Tryz.results82, go_sem, hcl]) rfl ?_
      unfold FramesP
      rw [Hfin.out]
      exact ⟨hO, hrd, _, _, rfl, hoc, hof⟩
end Go.Proofs.YtmbjehnddgcboaaGreatDoor
