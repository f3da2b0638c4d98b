/- Joined texts: Split. Conditions: each part names its own. -/
import Derived.Test.YtmbjehnddgcboaaGreatDoorZSplG
/- kinref4.Split tells all units of some bytes, and the error behind them. Conditions: the bytes read. -/
namespace Go.Proofs.YtmbjehnddgcboaaGreatDoor
open Go.RowKit
set_option linter.unusedVariables false
set_option linter.unusedSimpArgs false

/-- what Split hands back -/
def SplitP (l : List Int) (w : World) (e : Ending) (w' : World) : Prop :=
  Only [] w w' ∧ ∃ U E ua uc sa sc, e = .returned (.tuple #[.slice ua (List.length U) uc, .agg #[.int .i64 (codeE E), .slice sa (pathE E).length sc]]) ∧ SplAt l E 0 U ∧ UnitsAt w.heap.size w'.heap.size w' (.slice ua U.length uc) U ∧
    Cells 2 w.heap.size w'.heap.size w' (.slice sa (pathE E).length sc) (pathE E).length (flat (pathE E)) ∧ U.length ≤ l.length

set_option maxRecDepth 100000 in
set_option maxHeartbeats 8000000 in
theorem split_any {lo hi : Nat} {v : Value} {l : List Int} {w : World} (h : Ints .u8 lo hi w v l) (hl : l.length ≤ 100000000) :
    Calls Tryz.prog 39 #[v] w (SplitP l w) := by
  suffices key : ∀ Q : Ending → World → Prop, Hid (∀ e w', SplitP l w e w' → Q e w') → Calls Tryz.prog 39 #[v] w Q from key _ (Lib.hid fun _ _ h => h)
  intro Q HPost
  have hr8 := Lib.hid h.2
  obtain ⟨a, cap, hv, hcap, hmax, _⟩ := h.open
  subst hv
  have Hh := Lib.hid h
  have hll : (l.length : Int) ≤ 9223372036854775807 := by omega
  have Hl := Lib.hid hl
  clear h hl hmax hcap
  go_enter Tryz.func39, Tryz.ntmps39
  go_wp2
  go_loopw [4, 5] (fun x i wr => ∃ (p : Nat) (U : List UnitD), p ≤ l.length ∧ i = .int .i64 p ∧ U.length ≤ p ∧ Hid (∀ E us, SplAt l E p us → SplAt l E 0 (U ++ us)) ∧ OwnU (w.heap.size + 1) wr x U ∧ Only [] (w.alloc zErr) wr) (fun _ i _ => l.length - (intOf i).toNat)
  case atStart => exact ⟨0, [], by omega, rfl, by simp, Lib.hid (fun _ _ h => h), OwnU.nil _ _, Only.refl _ _⟩
  case round =>
    obtain ⟨p, U, hp, rfl, hUp, hspl, hown, hO⟩ := hrel
    have hz0 := hO.size
    simp only [World.size_alloc] at hz0
    have rE := hO.row (heap_alloc_new w _)
    by_cases hlt : p < l.length
    · have HN := Lib.hid (knext_any p (Hh.out.quiet ((Only.new _ _).q hO)) hlt (by have := Hl.out; omega))
      have hlti : (p : Int) < (l.length : Int) := by omega
      have hp0 : (0 : Int) ≤ (p : Int) := by omega
      obtain ⟨xa, xcap, rfl⟩ := hown.isSlice
      have HOwn := Lib.hid hown
      have HO := Lib.hid hO
      have HRE := Lib.hid rE
      clear hown hO rE
      cases hres : nextD (l.drop p) p with
      | error er =>
        obtain ⟨hne, hpl⟩ := knextD_err hres
        have hcb : (er.code == 0) = false := by rw [beq_eq_false_iff_ne]; exact hne
        have Hfin : Hid (SplAt l (some er) 0 U) := Lib.hid (by have := hspl.out (some er) [] (.bad hlt hres rfl); rwa [List.append_nil] at this)
        have Hres := Lib.hid hres
        clear hres hne hspl
        go_wp2_with fail
        go_at_call 65
        refine HN.out.mono ?_
        rintro e w1 hP
        unfold KNextP at hP
        rw [Hres.out] at hP
        obtain ⟨hq1, sa, scap, rfl, hsv⟩ := hP
        have HSv := Lib.hid hsv
        have hq1s := Lib.hid hq1.size
        clear hsv
        rw [hpl] at HSv
        rw [hpl]
        simp only
        go_wp2_with fail
        go_at_call 20
        refine (ok_any _ _ _).mono ?_
        rintro e w2 ⟨rfl, hq2⟩
        rw [hcb]
        have rE2 := hq2.row ((Only.new _ _).row ((Only.new _ _).row (hq1.row HRE.out)))
        have rX2 := hq2.row (heap_alloc_new' (w := w1.alloc zUnit) (o := .cells #[.int .i64 er.code, .slice sa 1 scap] 42) (g := w1.heap.size + 1) (by simp))
        have hO2 : Only [] wr w2 := hq1.q (((Only.new _ _).q (Only.new _ _)).q hq2)
        have HO2 := Lib.hid hO2
        obtain ⟨e0, e1, ef0, ef1, _⟩ := row2 rE2
        obtain ⟨x0, x1, xf0, xf1, _⟩ := row2 rX2
        have Hq2 := Lib.hid (((Only.new w1 zUnit).q (Only.new _ (.cells #[.int .i64 er.code, .slice sa 1 scap] 42))).q hq2)
        have RE2 := Lib.hid rE2
        clear hq1 hq2 rE2 rX2 hO2
        go_wp2_with fail
        go_region
        go_wp2_with fail
        generalize hWf : World.setCell _ _ _ = Wf
        obtain ⟨t0, t1, oF, _⟩ := set2r RE2.out hWf
        refine bodyPost_ret (v := .tuple #[.slice xa U.length xcap, .agg #[.int .i64 er.code, .slice sa 1 scap]]) (by simp [results, Tryz.results39, go_sem, t0, t1]) rfl (HPost.out _ _ ?_)
        have hO2 := HO2.out
        have hOa : Only [] w w2 := (Only.new _ _).q (HO.out.q hO2)
        have hz2 := hO2.size
        have hzf := oF.size
        have hsz := hq1s.out
        refine ⟨(hOa.tail1 oF (Nat.le_refl _)).drew, U, some er, xa, xcap, sa, scap, ?_, Hfin.out, ?_, ?_, by omega⟩
        · show Ending.returned _ = Ending.returned (.tuple #[_, .agg #[.int .i64 er.code, .slice sa er.path.length scap]])
          rw [hpl]
        · exact ((((HOwn.out.units).quiet hO2).tail1 oF (.inl (by omega))).mono (by omega) (by show _ ≤ Wf.heap.size; omega)).quiet (Only.refl _ _).drew
        · show Cells 2 _ _ _ (.slice sa er.path.length scap) er.path.length (flat er.path)
          rw [hpl]
          exact (((HSv.out.only Hq2.out (by simp)).tail1 oF (.inl (by omega))).mono (by omega) (by simp; omega)).only (Only.refl [] _).drew (by simp)
      | ok u =>
        obtain ⟨uk, ud, uat, uend⟩ := u
        have hok := nextD_ok hres (by rw [List.length_drop]; omega) (fun x hx => hr8.out x (List.mem_of_mem_drop hx))
        rw [List.length_drop] at hok
        simp only at hok
        obtain ⟨huat, hue, hule, _, _, hud⟩ := hok
        have huat' : p = uat := huat.symm
        clear huat
        subst huat'
        have Hspl : Hid (∀ E us, SplAt l E uend us → SplAt l E 0 ((U ++ [⟨uk, ud, p, uend⟩]) ++ us)) := Lib.hid (fun E us h => by
          rw [List.append_assoc]; exact hspl.out E _ (.more hlt hres h))
        have Hres := Lib.hid hres
        clear hres hspl
        go_wp2_with fail
        go_at_call 65
        refine HN.out.mono ?_
        rintro e w1 hP
        unfold KNextP at hP
        rw [Hres.out] at hP
        obtain ⟨hq1, dv, rfl, hdv⟩ := hP
        obtain ⟨da, dcap, rfl, _⟩ := hdv.open
        have HDv := Lib.hid hdv
        clear hdv
        simp only
        go_wp2_with fail
        go_at_call 20
        refine (ok_any _ _ _).mono ?_
        rintro e w2 ⟨rfl, hq2⟩
        simp only [BEq.rfl]
        have rU := hq2.row ((Only.new _ zErr).row (heap_alloc_new w1 (.cells #[.int .i64 uk, .slice da ud.length dcap, .int .i64 p, .int .i64 uend] 106)))
        obtain ⟨y0, y1, y2, y3⟩ := row4_cells rU
        have hqA := ((Only.new w1 (.cells #[.int .i64 uk, .slice da ud.length dcap, .int .i64 p, .int .i64 uend] 106)).q (Only.new _ zErr)).q hq2
        have hqB : Only [] wr w2 := hq1.q hqA
        have hqC := hqB.alloc (.cells #[.int .i64 uk, .slice da ud.length dcap, .int .i64 p, .int .i64 uend] 106)
        have v0 := hqA
        have HU3 := Lib.hid (HOwn.out.quiet hqC)
        have Hd3 : Hid (Ints .u8 wr.heap.size (w2.alloc (.cells #[.int .i64 uk, .slice da ud.length dcap, .int .i64 p, .int .i64 uend] 106)).heap.size _ (.slice da ud.length dcap) ud) := Lib.hid ((HDv.out.quiet (hqA.alloc (.cells #[.int .i64 uk, .slice da ud.length dcap, .int .i64 p, .int .i64 uend] 106))).mono (Nat.le_refl _) (hqA.alloc _).size)
        have HqC := Lib.hid hqC
        have hvb : ∀ g, (Value.slice xa U.length xcap).ownBlock = some g → g < wr.heap.size := fun g hg => (HOwn.out.at g hg).2
        have Hvb := Lib.hid hvb
        have hz1 := hq1.size
        have hsrc : Cells 4 w2.heap.size (w2.heap.size + 1) (w2.alloc (.cells #[.int .i64 uk, .slice da ud.length dcap, .int .i64 p, .int .i64 uend] 106)) (.slice (some ⟨w2.heap.size, 0, none⟩) 1 1) 1 [.int .i64 uk, .slice da ud.length dcap, .int .i64 p, .int .i64 uend] := cells_newG rfl rfl (by simp [maxLen]) rfl
        obtain ⟨xs, hx1, hx2⟩ := HU3.out
        have HX2 := Lib.hid hx2
        have hone : ∀ u ∈ [Value.int .i64 uk, .slice da ud.length dcap, .int .i64 p, .int .i64 uend], u.oneCell' = true := by
          intro u hu; simp only [List.mem_cons, List.not_mem_nil, or_false] at hu; rcases hu with rfl | rfl | rfl | rfl <;> rfl
        have h63 : U.length + 1 ≤ maxLen := by unfold maxLen; have := Hl.out; omega
        have hby : (U.length + 1) * 48 ≤ 140737488355328 := by have := Hl.out; omega
        have hba : w.heap.size + 1 ≤ (w2.alloc (.cells #[.int .i64 uk, .slice da ud.length dcap, .int .i64 p, .int .i64 uend] 106)).heap.size := by have := hqC.size; omega
        clear hq1 hq2 rU hqA hqB hqC hx2 v0 hvb
        have Hhy := Lib.hid (And.intro hx1 (And.intro hsrc hone))
        clear hx1 hsrc hone
        go_wp2_with (first
          | (at_builtin; refine wpList_append_cells rfl (.tmp 23) (.tmp 25) 67 rfl EU Hhy.out.1 rfl Hhy.out.2.1 rfl Hhy.out.2.2 h63 hby hba (fun v3 w3 hown3 ho3 hat3 => ?_); have Ho3 := Lib.hid hown3; have Hq3 := Lib.hid (And.intro ho3 hat3); have u3 := ho3.cell ((Only.new w2 _).cell y3 (by simp)) (fun hm => by have := Hvb.out w1.heap.size (by simpa using hm); omega); obtain ⟨x3, x3cap, rfl⟩ : ∃ a c, v3 = .slice a (U.length + 1) c := (by obtain ⟨_, a, cap, h, _⟩ := Cells.of_own hown3; exact ⟨a, cap, h⟩); clear hown3 ho3 hat3)
          | fail)
        go_roundw
        case rel =>
          obtain ⟨ho3, hat3⟩ := Hq3.out
          have hacc : Acc (.slice xa U.length xcap) (w2.alloc (.cells #[.int .i64 uk, .slice da ud.length dcap, .int .i64 p, .int .i64 uend] 106)) (.slice x3 (U.length + 1) x3cap) w3 := ⟨ho3, hat3.imp id fun e g hg => by rw [e] at hg; injection hg with hg; omega⟩
          have hzC := HqC.out.size
          have hnew := OwnU.snoc (a := p) (e := uend) (k := uk) (lo := wr.heap.size) Hhy.out.1 HX2.out Hd3.out (by omega) Hvb.out Ho3.out hacc
          refine ⟨uend, U ++ [⟨uk, ud, p, uend⟩], by omega, rfl, by simp; omega, Hspl, hnew, ?_⟩
          exact (HO.out.q HqC.out).trans ho3 (by simp) (fun g hg hlt => absurd hlt (by have := HOwn.out.at g (by simpa using hg); simp; omega))
        case measure => simp [intOf]; omega
    · obtain rfl : p = l.length := by omega
      have hx : ¬ (l.length : Int) < (l.length : Int) := by omega
      have Hfin : Hid (SplAt l none 0 U) := Lib.hid (by have := hspl.out none [] (.done rfl); rwa [List.append_nil] at this)
      obtain ⟨xa, xcap, rfl⟩ := hown.isSlice
      obtain ⟨m0, m1, f0, f1, _⟩ := row2 rE
      have RE2 := Lib.hid rE
      have HOwn := Lib.hid hown
      have HO := Lib.hid hO
      clear hspl rE hown hO
      go_wp2_with fail
      generalize hWf : World.setCell _ _ _ = Wf
      obtain ⟨t0, t1, oF, _⟩ := set2r RE2.out hWf
      refine bodyPost_ret (v := .tuple #[.slice xa U.length xcap, .agg #[.int .i64 0, .slice none 0 0]]) (by simp [results, Tryz.results39, go_sem, t0, t1]) rfl (HPost.out _ _ ?_)
      have hOa : Only [] w wr := (Only.new _ _).q HO.out
      have hzf := oF.size
      exact ⟨hOa.tail1 oF (Nat.le_refl _), U, none, xa, xcap, none, 0, rfl, Hfin.out, ((HOwn.out.units).tail1 oF (.inl (by omega))).mono (by omega) (by omega), Cells.nil _ _ _ _, by omega⟩
#print axioms split_any
end Go.Proofs.YtmbjehnddgcboaaGreatDoor
