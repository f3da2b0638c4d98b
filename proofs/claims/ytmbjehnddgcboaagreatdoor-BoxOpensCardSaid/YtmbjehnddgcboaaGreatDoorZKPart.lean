/- Joined texts: KPart. Conditions: each part names its own. -/
import Derived.Test.YtmbjehnddgcboaaGreatDoorZKFr
import Derived.Test.YtmbjehnddgcboaaGreatDoorZKAt
import Derived.Test.YtmbjehnddgcboaaGreatDoorZKOwn
/- The document's reader of units: part. Conditions: the reader lies in a block behind its units. -/
namespace Go.Proofs.YtmbjehnddgcboaaGreatDoor
open Go.RowKit
set_option linter.unusedVariables false
set_option linter.unusedSimpArgs false

/-- what part hands back -/
def KPartP (K : KS) (R : Nat) (w : World) (r : (Except Err (List Coded × List Int)) × Nat × Nat) (e : Ending) (w' : World) : Prop :=
  Only [R] w w' ∧ KRd K R w' r.2.1 r.2.2 ∧ match r.1 with
    | .ok x => ∃ ca cc fa fc, e = .returned (.tuple #[.slice ca x.1.length cc, .slice fa x.2.length fc, .agg #[.int .i64 0, .slice none 0 0]]) ∧ OwnK K.lo K.hi w.heap.size w' (.slice ca x.1.length cc) x.1 ∧ Own .i64 3 w.heap.size w' (.slice fa x.2.length fc) x.2 ∧ Sep (.slice ca x.1.length cc) (.slice fa x.2.length fc)
    | .error er => ∃ sa scap, e = .returned (.tuple #[.slice none 0 0, .slice none 0 0, .agg #[.int .i64 er.code, .slice sa er.path.length scap]]) ∧ Cells 2 K.lo K.hi w' (.slice sa er.path.length scap) er.path.length (flat er.path)

theorem framesR_frame {l : List Int} {c i p n : Nat} : framesR l (c + 1) i p n = match frameR l p (i == 0) true with
    | .error e => (.error e, p, n)
    | .ok u => consF ⟨u.kind, u.data⟩ (zeros (l.drop u.end_)) (framesR l c (i + 1) (u.end_ + zeros (l.drop u.end_)) (n + 1 + zeros (l.drop u.end_))) := by
  unfold frameR
  rw [framesR]
  cases h : peekR l p with
  | error e => rfl
  | ok u =>
    simp only
    have hb : badK (i == 0) true u.kind = true ↔ (u.kind < 1 ∨ 4 < u.kind ∨ (i = 0 ∧ u.kind ≠ 1 ∧ u.kind ≠ 4)) := by
      unfold badK firstB
      simp
      omega
    by_cases hbad : badK (i == 0) true u.kind = true
    · rw [if_pos hbad, if_pos (hb.1 hbad)]
    · rw [if_neg hbad, if_neg (fun h => hbad (hb.2 h))]
      cases hr : readB ⟨u.kind, u.data⟩ with
      | some k => rfl
      | none => rfl

set_option maxRecDepth 100000 in
set_option maxHeartbeats 8000000 in
theorem kpart_any {K : KS} {R p n : Nat} {w : World} (count : Nat) (h : KRd K R w p n) (hc : count ≤ 1000000) :
    Calls Tryz.prog 69 #[.pointer (some ⟨R, 0, none⟩), .int .i64 count] w (KPartP K R w (framesR K.l count 0 p n)) := by
  suffices key : ∀ Q : Ending → World → Prop, Hid (∀ e w', KPartP K R w (framesR K.l count 0 p n) e w' → Q e w') → Calls Tryz.prog 69 #[.pointer (some ⟨R, 0, none⟩), .int .i64 count] w Q from key _ (Lib.hid fun _ _ h => h)
  intro Q HPost
  have hRl := h.lt
  have hhi := h.hiR
  have hlhi : K.hi ≤ w.heap.size := by omega
  have hsmall := Lib.hid h.small
  have Hc := Lib.hid hc
  have hci : (count : Int) ≤ 1000000 := by omega
  clear hc
  go_enter Tryz.func69, Tryz.ntmps69
  go_wp2
  go_loopw [9, 7, 8] (fun i x y wr => ∃ (k q m : Nat) (cs : List Coded) (fs : List Int), k ≤ count ∧ i = .int .i64 k ∧ cs.length = k ∧ fs.length = k ∧ Hid (preF cs fs (framesR K.l (count - k) k q m) = framesR K.l count 0 p n) ∧ KRd K R wr q m ∧
    OwnK K.lo K.hi (w.heap.size + 1) wr x cs ∧ Own .i64 3 (w.heap.size + 1) wr y fs ∧ Sep x y ∧ wr.heap[w.heap.size]? = some zErr ∧ Only [R] w wr) (fun i _ _ _ => count - (intOf i).toNat)
  case atStart => exact ⟨0, p, n, [], [], by omega, rfl, rfl, rfl, Lib.hid (preF_nil _), h.quiet (Only.new _ _), OwnK.nil (by omega) _, Own.nil _ _ _ _, Sep.nil _, heap_alloc_new _ _, (Only.new w zErr).mono (by simp)⟩
  case round =>
    obtain ⟨k, q, m, cs, fs, hk, rfl, hcl, hfl, Hk, hrd, hoc, hof, hsep, rE, hO⟩ := hrel
    clear h
    obtain ⟨ca, ccap, rfl⟩ := hoc.isSlice
    obtain ⟨fa, fcap, hfv, _⟩ := hof.ints.open
    subst hfv
    have hwr : w.heap.size < wr.heap.size := (Array.getElem?_eq_some_iff.1 rE).1
    have HOC := Lib.hid hoc
    have HOF := Lib.hid hof
    have HSP := Lib.hid hsep
    have HRE := Lib.hid rE
    have HO := Lib.hid hO
    by_cases hlt : k < count
    · obtain ⟨g, hg⟩ : ∃ g, count - k = g + 1 := ⟨count - k - 1, by omega⟩
      have hlti : (k : Int) < (count : Int) := by omega
      have hk0 : (0 : Int) ≤ (k : Int) := by omega
      have Hg := Lib.hid hg
      have hfz := (⟨k == 0, (Bool.eq_iff_iff.2 (by simp) : ((k : Int) == 0) = (k == 0))⟩ : ∃ f0 : Bool, ((k : Int) == 0) = f0)
      have hkz : ((k : Int) == 0) = (k == 0) := Bool.eq_iff_iff.2 (by simp)
      have H := Lib.hid (kframe_any (k == 0) true hrd)
      have Hcl := Lib.hid hcl
      have Hfl := Lib.hid hfl
      have HRd := Lib.hid hrd
      clear hg hrd hoc hof hsep rE hO hcl hfl hfz
      generalize hkb : (k == 0) = kb at *
      have Hkb := Lib.hid hkb
      clear hkb
      cases hres : frameR K.l q kb true with
      | error er =>
        have hfin : framesR K.l count 0 p n = (.error er, q, m) := by rw [← Hk.out, Hg.out, framesR_frame, Hkb.out, hres]; rfl
        have Hfin := Lib.hid hfin
        have hne := frameR_err hres
        have hcb : (er.code == 0) = false := by rw [beq_eq_false_iff_ne]; exact hne.1
        have Hres := Lib.hid hres
        clear hfin hres hne
        go_wp2_with fail
        go_at_call 85
        refine H.out.mono ?_
        rintro e w1 hP
        unfold KFrameP at hP
        rw [Hres.out] at hP
        obtain ⟨hq1, sa, scap, rfl, hsv, hk1⟩ := hP
        have rE1 := hq1.rowAt HRE.out (by simp; omega)
        have HSv := Lib.hid hsv
        have HK1 := Lib.hid hk1
        have hzw := HO.out.size
        have hz1 := hq1.size
        have HQ1 := Lib.hid hq1
        have hwl : w.heap.size < w1.heap.size := (Array.getElem?_eq_some_iff.1 rE1).1
        clear hsv hk1 hq1
        simp only
        go_wp2_with fail
        go_at_call 20
        refine (ok_any _ _ _).mono ?_
        rintro e w2 ⟨rfl, hq2⟩
        rw [hcb]
        have hqA := ((Only.new w1 zCoded).q (Only.new _ (.cells #[.int .i64 er.code, .slice sa er.path.length scap] 42))).q hq2
        have rX := hq2.row (heap_alloc_new' (w := w1.alloc zCoded) (o := .cells #[.int .i64 er.code, .slice sa er.path.length scap] 42) (g := w1.heap.size + 1) (by simp))
        have rE2 := hqA.row rE1
        obtain ⟨x0, x1, _, _, _⟩ := row2 rX
        obtain ⟨b0, b1, bf0, bf1, _⟩ := row2 rE2
        have HE2 := Lib.hid (And.intro rE2 hqA)
        have hn1 : ¬ w.heap.size = w1.heap.size + 1 := by omega
        clear rE1 rX rE2 hq2 hqA
        go_wp2_with fail
        go_region
        go_wp2_with fail
        generalize hWf : World.setCell _ _ _ = Wf
        obtain ⟨rE2, hqA⟩ := HE2.out
        obtain ⟨t0, t1, oF, _⟩ := set2r rE2 hWf
        refine bodyPost_ret (v := .tuple #[.slice none 0 0, .slice none 0 0, .agg #[.int .i64 er.code, .slice sa er.path.length scap]]) (by simp [results, Tryz.results69, go_sem, t0, t1]) rfl (HPost.out _ _ ?_)
        unfold KPartP
        rw [Hfin.out]
        have hA2 : Only [R] w w2 := (HO.out.trans HQ1.out (fun g h _ => h) (fun g h _ => h)).trans hqA (fun g h _ => h) (by simp)
        have hk2 := HK1.out.quiet hqA
        refine ⟨(hA2.tail1 oF (Nat.le_refl _)).drew, (hk2.only oF (by intro g hg; rw [List.mem_singleton] at hg; subst hg; omega)).drew, sa, scap, rfl, ((HSv.out.only hqA (by simp)).tail1 oF (.inr (by omega))).only (Only.refl [] _).drew (by simp)⟩
      | ok u =>
        obtain ⟨uk, ud, uat, uend⟩ := u
        obtain ⟨hpk, hbd, hrb⟩ := frameR_ok hres
        have hpo := peekR_ok hpk HRd.out.ple HRd.out.r8
        simp only at hpo
        obtain ⟨_, _, _, huk0, huk1, _⟩ := hpo
        have hukk : InK .i64 uk := by unfold InK; omega
        have hstep : framesR K.l count 0 p n = preF cs fs (consF ⟨uk, ud⟩ (zeros (K.l.drop uend)) (framesR K.l g (k + 1) (uend + zeros (K.l.drop uend)) (m + 1 + zeros (K.l.drop uend)))) := by
          rw [← Hk.out, Hg.out, framesR_frame, Hkb.out, hres]
        rw [preF_cons, show g = count - (k + 1) by have := Hg.out; omega] at hstep
        have Hstep := Lib.hid hstep
        have Hlt := Lib.hid hlt
        have Hres := Lib.hid hres
        clear hstep hres hpk hbd hrb huk0 huk1
        go_wp2_with fail
        go_at_call 85
        refine H.out.mono ?_
        rintro e w1 hP
        unfold KFrameP at hP
        rw [Hres.out] at hP
        obtain ⟨hq1, dv, rfl, hdv, hk1⟩ := hP
        obtain ⟨da, dcap, rfl, _⟩ := hdv.open
        have rE1 := hq1.rowAt HRE.out (by simp; omega)
        have HDv := Lib.hid hdv
        have HK1 := Lib.hid hk1
        have hzw := HO.out.size
        have hz1 := hq1.size
        have HQ1 := Lib.hid hq1
        have hwl : w.heap.size < w1.heap.size := (Array.getElem?_eq_some_iff.1 rE1).1
        clear hdv hk1 hq1
        simp only
        go_wp2_with fail
        go_at_call 20
        refine (ok_any _ _ _).mono ?_
        rintro e w2 ⟨rfl, hq2⟩
        simp only [BEq.rfl]
        have hqA := ((Only.new w1 (.cells #[.int .i64 uk, .slice da ud.length dcap] 71)).q (Only.new _ zErr)).q hq2
        have rX := hq2.row ((Only.new _ zErr).row (heap_alloc_new w1 (.cells #[.int .i64 uk, .slice da ud.length dcap] 71)))
        obtain ⟨x0, x1, _, _, _⟩ := row2 rX
        have rE2 := hqA.row rE1
        have hqN := Only.new w2 (.cells #[.int .i64 uk, .slice da ud.length dcap] 71)
        have hA3 : Only [R] wr (w2.alloc (.cells #[.int .i64 uk, .slice da ud.length dcap] 71)) := HQ1.out.trans (hqA.q hqN) (fun g h _ => h) (by simp)
        have hR3 : ∀ g ∈ [R], K.hi ≤ g ∧ (Value.slice ca cs.length ccap).ownBlock ≠ some g := by
          intro g hg; rw [List.mem_singleton] at hg; subst hg; exact ⟨hhi, fun e => by have := HOC.out.at g e; omega⟩
        have hoc3 := HOC.out.only hA3 hR3
        have hdv3 := HDv.out.quiet (hqA.q hqN)
        have hel := ElK.one hukk hdv3
        have hsrc : Cells 2 w2.heap.size (w2.heap.size + 1) (w2.alloc (.cells #[.int .i64 uk, .slice da ud.length dcap] 71)) (.slice (some ⟨w2.heap.size, 0, none⟩) 1 1) [(⟨uk, ud⟩ : Coded)].length [.int .i64 uk, .slice da ud.length dcap] := cells_newG rfl rfl (by simp [maxLen]) rfl
        have hby : (cs.length + [(⟨uk, ud⟩ : Coded)].length) * 32 ≤ 140737488355328 := by have := Hcl.out; have := Hc.out; have := Hlt.out; simp only [List.length_singleton]; omega
        have hba : w.heap.size + 1 ≤ (w2.alloc (.cells #[.int .i64 uk, .slice da ud.length dcap] 71)).heap.size := by have := hA3.size; omega
        have HS := Lib.hid (And.intro hoc3 (And.intro hsrc hel))
        have HA3 := Lib.hid hA3
        have HK3 := Lib.hid (HK1.out.quiet (hqA.q hqN))
        have HRE3 := Lib.hid (hqN.row rE2)
        clear rE1 rX rE2 hqN hqA hq2 hA3 hR3 hoc3 hdv3 hel hsrc
        go_wp2_with (first
          | (at_builtin; refine wpList_append_ck rfl (.tmp 28) (.tmp 30) 35 rfl EC HS.out.1 rfl HS.out.2.1 HS.out.2.2 rfl hby hba (fun v4 w4 hoc4 hacc4 => ?_); obtain ⟨c4, c4cap, rfl⟩ := hoc4.isSlice; have HOC4 := Lib.hid hoc4; have HAcc4 := Lib.hid hacc4; clear hoc4 hacc4)
          | fail)
        go_at_call 86
        have hat1 := HOC.out.at
        have hat2 := HOF.out.at
        have hk4 := HK3.out.only HAcc4.out.only (fun g hg => by have := hat1 g (by simpa using hg); omega)
        have rE4 := HAcc4.out.only.rowAt HRE3.out (fun hm => by have := hat1 _ (by simpa using hm); omega)
        have hA4 := HA3.out.trans HAcc4.out.only (U := [R] ++ (Value.slice ca cs.length ccap).ownBlock.toList) (fun g h _ => by simp at h ⊢; exact .inl h) (fun g h _ => by simp at h ⊢; exact .inr h)
        have hof4 := HOF.out.only hA4 (fun g hg => by
          rcases List.mem_append.1 hg with h | h
          · rw [List.mem_singleton] at h; subst h; exact fun e => by have := hat2 _ e; omega
          · exact HSP.out g (by simpa using h))
        have hsep4 : Sep (.slice c4 (cs ++ [(⟨uk, ud⟩ : Coded)]).length c4cap) (.slice fa fs.length fcap) := HAcc4.out.sep HSP.out (fun g hg => by have := hat2 g hg; have := HA3.out.size; omega)
        refine (krfills_any hk4).mono ?_
        rintro e w5 ⟨rfl, hk5, hq5⟩
        have hzz := zeros_le (K.l.drop uend)
        rw [List.length_drop] at hzz
        have hzs : ((zeros (K.l.drop uend) : Nat) : Int) ≤ 1000000000000 := by have := hsmall.out; omega
        clear hzz
        have hof5 := (hof4.only hq5 (by intro g hg; rw [List.mem_singleton] at hg; subst hg; exact fun e => by have := hat2 _ e; omega)).quiet (Only.new _ (.cells #[.int .i64 (zeros (K.l.drop uend))] 3))
        have hoc5 := (HOC4.out.only hq5 (by intro g hg; rw [List.mem_singleton] at hg; subst hg; exact ⟨hhi, fun e => by have := HOC4.out.at _ e; omega⟩)).quiet (Only.new _ (.cells #[.int .i64 (zeros (K.l.drop uend))] 3))
        have hk5' := hk5.quiet (Only.new _ (.cells #[.int .i64 (zeros (K.l.drop uend))] 3))
        have rE5 := (Only.new _ (.cells #[.int .i64 (zeros (K.l.drop uend))] 3)).row (hq5.rowAt rE4 (by simp; omega))
        have hA5 : Only [R] w (w5.alloc (.cells #[.int .i64 (zeros (K.l.drop uend))] 3)) := (((HO.out.trans HA3.out (fun g h _ => h) (fun g h _ => h)).trans HAcc4.out.only (fun g h _ => h) (fun g hg hlt => absurd hlt (by have := hat1 g (by simpa using hg); omega))).trans hq5 (fun g h _ => h) (fun g h _ => h)).alloc _
        have hsz : wr.heap.size ≤ (w5.alloc (.cells #[.int .i64 (zeros (K.l.drop uend))] 3)).heap.size := by have := HA3.out.size; have := HAcc4.out.only.size; have := hq5.size; simp at *; omega
        generalize hz : zeros (K.l.drop uend) = z at *
        have Hz := Lib.hid hz
        have hsrc : Ints .i64 w5.heap.size (w5.heap.size + 1) (w5.alloc (.cells #[.int .i64 z] 3)) (.slice (some ⟨w5.heap.size, 0, none⟩) 1 1) [(z : Int)] := ints_newG rfl (by simp [maxLen]) (by simp only [List.mem_singleton, forall_eq, InK]; omega) 1 rfl rfl
        have hby2 : (fs.length + [(z : Int)].length) * 8 ≤ 140737488355328 := by have := Hfl.out; have := Hc.out; have := Hlt.out; simp only [List.length_singleton]; omega
        have hba2 : w.heap.size + 1 ≤ (w5.alloc (.cells #[.int .i64 z] 3)).heap.size := by omega
        have H5 := Lib.hid (And.intro hof5 hsrc)
        have HK5 := Lib.hid (And.intro hk5' (And.intro hoc5 (And.intro rE5 (And.intro hA5 hsep4))))
        have hatF := fun g hg => (HOF.out.at g hg).2
        have HatF := Lib.hid hatF
        clear hof4 hk4 rE4 hA4 hk5 hq5 hof5 hoc5 hk5' rE5 hA5 hsrc hsep4 hat1 hat2 hz hatF
        go_wp2_with (first
          | (at_builtin; refine wpList_append_ints rfl (.tmp 32) (.tmp 35) 36 rfl EI H5.out.1 rfl H5.out.2 rfl hby2 hba2 (fun v6 w6 hof6 hacc6 => ?_); obtain ⟨f6, f6cap, hv6, _⟩ := hof6.ints.open; subst hv6; have HOF6 := Lib.hid hof6; have HAcc6 := Lib.hid hacc6; clear hof6 hacc6)
          | fail)
        go_roundw
        case rel =>
          obtain ⟨hk5', hoc5, rE5, hA5, hsep4⟩ := HK5.out
          have hatf := HOF.out.at
          have hnf : ∀ g ∈ (Value.slice fa fs.length fcap).ownBlock.toList, w.heap.size + 1 ≤ g := fun g hg => (hatf g (by simpa using hg)).1
          refine ⟨k + 1, uend + z, m + 1 + z, cs ++ [⟨uk, ud⟩], fs ++ [(z : Int)], by have := Hlt.out; omega, by go_num, by have := Hcl.out; simp; omega, by have := Hfl.out; simp; omega, Lib.hid ?_, hk5'.only HAcc6.out.only (fun g hg => by have := hnf g hg; omega), ?_, by have := HOF6.out; rwa [List.length_append, List.length_singleton] at this, ?_, HAcc6.out.only.rowAt rE5 (fun hm => by have := hnf _ hm; omega), ?_⟩
          · exact Hstep.out.symm
          · have hx := hoc5.only HAcc6.out.only (fun g hg => ⟨by have := hnf g hg; omega, fun e => hsep4 g e (by simpa using hg)⟩)
            rwa [List.length_append, List.length_singleton] at hx
          · have hx := (HAcc6.out.sep hsep4.symm (fun g hg => (hoc5.at g hg).2)).symm
            rwa [List.length_append, List.length_singleton, List.length_append, List.length_singleton] at hx
          · exact hA5.trans HAcc6.out.only (fun g h _ => h) (fun g hg hlt => absurd hlt (by have := hnf g hg; omega))
        case measure =>
          have := Hlt.out
          simp [intOf]; omega
    · obtain rfl : k = count := by omega
      have hx : ¬ (k : Int) < (k : Int) := by omega
      have Hfin : Hid (framesR K.l k 0 p n = (.ok (cs, fs), q, m)) := Lib.hid (by rw [← Hk.out, Nat.sub_self]; simp [framesR, preF])
      have HRd := Lib.hid hrd
      obtain ⟨b0, b1, bf0, bf1, _⟩ := row2 rE
      have Hcl := Lib.hid hcl
      have Hfl := Lib.hid hfl
      clear hrd hoc hof hsep rE hO hcl hfl
      go_wp2_with fail
      generalize hWf : World.setCell _ _ _ = Wf
      obtain ⟨t0, t1, oF, _⟩ := set2r HRE.out hWf
      refine bodyPost_ret (v := .tuple #[.slice ca cs.length ccap, .slice fa fs.length fcap, .agg #[.int .i64 0, .slice none 0 0]]) (by simp [results, Tryz.results69, go_sem, t0, t1]) rfl (HPost.out _ _ ?_)
      unfold KPartP
      rw [Hfin.out]
      have hat1 := HOC.out.at
      have hat2 := HOF.out.at
      refine ⟨HO.out.tail1 oF (Nat.le_refl _), HRd.out.only oF (by intro g hg; rw [List.mem_singleton] at hg; subst hg; omega), _, _, _, _, rfl, ?_, ?_, HSP.out⟩
      · exact (HOC.out.only oF (by intro g hg; rw [List.mem_singleton] at hg; subst hg; exact ⟨by omega, fun e => by have := hat1 _ e; omega⟩)).lower (by omega) (by omega)
      · exact (HOF.out.only oF (by intro g hg; rw [List.mem_singleton] at hg; subst hg; exact fun e => by have := hat2 _ e; omega)).lower (by omega)
#print axioms kpart_any
end Go.Proofs.YtmbjehnddgcboaaGreatDoor
