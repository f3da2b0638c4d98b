/- Joined texts: KTaken. Conditions: each part names its own. -/
import Derived.Test.YtmbjehnddgcboaaGreatDoorZKRead
import Derived.Test.YtmbjehnddgcboaaGreatDoorZSmallK
import Derived.Test.YtmbjehnddgcboaaGreatDoorC10
import Derived.Test.YtmbjehnddgcboaaGreatDoorC12
import Derived.Test.YtmbjehnddgcboaaGreatDoorZOwnS
/- kinref23.Taken: how many bytes each frame has, with what is filled. Conditions: the bytes read. -/
namespace Go.Proofs.YtmbjehnddgcboaaGreatDoor
open Go.RowKit
set_option linter.unusedVariables false
set_option linter.unusedSimpArgs false

def KTakenP (w : World) (r : Except Err (List Int)) (e : Ending) (w' : World) : Prop :=
  Only [] w w' ∧ match r with
    | .ok l => ∃ v sa scap, e = .returned (.tuple #[v, .agg #[.int .i64 0, .slice sa 0 scap]]) ∧ scap ≤ maxLen ∧ Ints .i64 w.heap.size w'.heap.size w' v l
    | .error er => ∃ sa scap, e = .returned (.tuple #[.slice none 0 0, .agg #[.int .i64 er.code, .slice sa er.path.length scap]]) ∧ Cells 2 w.heap.size w'.heap.size w' (.slice sa er.path.length scap) er.path.length (flat er.path)

theorem sizes_drop {cs : List Coded} {k : Nat} (h : k < cs.length) : sizesOf (cs.drop k) = (((cs.getD k default).data.length : Int) + 8) :: sizesOf (cs.drop (k + 1)) := by
  show (cs.drop k).map costOf = _ :: (cs.drop (k + 1)).map costOf
  rw [List.drop_eq_getElem_cons h, List.map_cons]
  congr 1
  simp [costOf, h]
theorem takenR_len {cs : List Coded} {fs : List Int} {k : Nat} (h : k ≤ cs.length) (h2 : k ≤ fs.length) : (takenR (cs.take k) (fs.take k)).length = k := by
  simp [takenR]; omega
theorem taken_at {cs : List Coded} {fs : List Int} {k : Nat} (h : k < cs.length) (h2 : k < fs.length) : (takenR (cs.take k) (fs.take k) ++ sizesOf (cs.drop k)).getD k 0 = ((cs.getD k default).data.length : Int) + 8 := by
  have hl := takenR_len (cs := cs) (fs := fs) (k := k) (by omega) (by omega)
  rw [sizes_drop h, List.getD_eq_getElem?_getD, List.getElem?_append_right (by omega), hl, Nat.sub_self]
  rfl
theorem taken_set {cs : List Coded} {fs : List Int} {k : Nat} (h : k < cs.length) (h2 : k < fs.length) :
    (takenR (cs.take k) (fs.take k) ++ sizesOf (cs.drop k)).set k (((cs.getD k default).data.length : Int) + 8 + fs.getD k 0) = takenR (cs.take (k + 1)) (fs.take (k + 1)) ++ sizesOf (cs.drop (k + 1)) := by
  have hl := takenR_len (cs := cs) (fs := fs) (k := k) (by omega) (by omega)
  rw [takenR_take h h2, sizes_drop h, List.set_append_right _ _ (by omega), hl, Nat.sub_self, List.append_assoc]
  rfl
theorem taken_len {cs : List Coded} {fs : List Int} {k : Nat} (h : k ≤ cs.length) (h2 : k ≤ fs.length) : (takenR (cs.take k) (fs.take k) ++ sizesOf (cs.drop k)).length = cs.length := by
  rw [List.length_append, takenR_len h h2]
  simp [sizesOf]; omega

set_option maxRecDepth 100000 in
set_option maxHeartbeats 16000000 in
theorem ktaken_any {lo hi : Nat} {bv : Value} {l : List Int} {w : World} (h : Ints .u8 lo hi w bv l) (hh : hi ≤ w.heap.size) (hl : l.length ≤ 100000000) :
    Calls Tryz.prog 9 #[bv] w (KTakenP w (sizesR l)) := by
  suffices key : ∀ Q : Ending → World → Prop, Hid (∀ e w', KTakenP w (sizesR l) e w' → Q e w') → Calls Tryz.prog 9 #[bv] w Q from key _ (Lib.hid fun _ _ h => h)
  intro Q HPost
  have hr8 := h.2
  have hO := Only.new w zErr
  have H := Lib.hid (kopen_any (h.quiet hO) (by simp; omega) hl)
  have HA := Lib.hid (heap_alloc_new w zErr)
  have HO := Lib.hid hO
  clear h hO
  cases hres : openR l with
  | error er =>
    have Hfin : Hid (sizesR l = .error er) := Lib.hid (by unfold sizesR; rw [hres])
    obtain ⟨n2, er2, her, _, hok⟩ := openR_err hr8 hres
    have hcb : (er.code == 0) = false := by rw [beq_eq_false_iff_ne, her]; show er2.code ≠ 0; have := hok.2.1; omega
    rw [hres] at H
    clear hres hr8 her hok hl hh
    go_enter Tryz.func9, Tryz.ntmps9
    go_wp2_with fail
    go_at_call 7
    refine H.out.mono ?_
    rintro e w1 hP
    unfold KOpenP at hP
    simp only at hP
    obtain ⟨hq1, sa, scap, rfl, hsv⟩ := hP
    have HSv := Lib.hid hsv
    have HQ1 := Lib.hid hq1
    have hz1 := hq1.size
    simp only [World.size_alloc] at hz1
    clear hsv hq1
    unfold allV cfg0
    simp only
    go_wp2_with fail
    go_at_call 20
    refine (ok_any _ _ _).mono ?_
    rintro e w3 ⟨rfl, hq3⟩
    rw [hcb]
    have hqA := ((Only.new w1 zAll).q (Only.new _ (.cells #[.int .i64 er.code, .slice sa er.path.length scap] 42))).q hq3
    have rX := hq3.row (heap_alloc_new' (w := w1.alloc zAll) (o := .cells #[.int .i64 er.code, .slice sa er.path.length scap] 42) (g := w1.heap.size + 1) (by simp))
    have r0 := hqA.row (HQ1.out.row HA.out)
    obtain ⟨x0, x1, _, _, _⟩ := row2 rX
    obtain ⟨b0, b1, bf0, bf1, _⟩ := row2 r0
    have HX := Lib.hid (And.intro r0 hqA)
    have hz3 := hqA.size
    have hn3 : ¬ w.heap.size = w1.heap.size + 1 := by omega
    clear r0 hqA rX hq3
    go_wp2_with fail
    go_region
    go_wp2_with fail
    generalize hWf : World.setCell _ _ _ = Wf
    obtain ⟨s0, s1, oF, _⟩ := set2r HX.out.1 hWf
    refine bodyPost_ret (v := .tuple #[.slice none 0 0, .agg #[.int .i64 er.code, .slice sa er.path.length scap]]) (by simp [results, Tryz.results9, go_sem, s0, s1]) rfl (HPost.out _ _ ?_)
    unfold KTakenP
    rw [Hfin.out]
    have hA : Only [] w w3 := (HO.out.q HQ1.out).q HX.out.2
    refine ⟨(hA.tail1 oF (by omega)).drew, sa, scap, rfl, ?_⟩
    exact ((((HSv.out.only HX.out.2 (by simp)).tail1 oF (.inl (by simp))).mono (by simp) (by have := oF.size; show _ ≤ Wf.heap.size; omega))).only (Only.refl [] _).drew (by simp)
  | ok x =>
    have Hfin : Hid (sizesR l = .ok (takenR x.coded x.fills)) := Lib.hid (by unfold sizesR; rw [hres])
    obtain ⟨hok1, ⟨hf1, hf2, hf3⟩, _, hok2⟩ := openR_ok hr8 hres
    have hcm3 : x.coded.length ≤ 16 := by obtain ⟨_, _, h16, _⟩ := hok1; omega
    clear hok1 hok2
    rw [hres] at H
    clear hres
    obtain ⟨⟨hW, hH, hF, ⟨q0, q1, q2, q3, q4, q5, q6, q7⟩, np⟩, es, cs, fs⟩ := x
    simp only at hf1 hf2 hf3 hcm3 Hfin
    have Hf1 := Lib.hid hf1
    have Hf2 := Lib.hid hf2
    have Hf3 := Lib.hid hf3
    have Hll := Lib.hid hl
    have hfl16 : fs.length ≤ 16 := by omega
    clear hf1 hf2 hf3 hl
    -- <S
    go_enter Tryz.func9, Tryz.ntmps9
    go_wp2_with fail
    go_at_call 7
    refine H.out.mono ?_
    rintro e w1 hP
    unfold KOpenP at hP
    simp only at hP
    obtain ⟨hq1, pv, cv, fv, sa, scap, rfl, hsm, hoe, hoc, hof⟩ := hP
    have Hsm := Lib.hid hsm
    clear hsm
    obtain ⟨pa, pcap, hpv, _⟩ := id hoe.open
    subst hpv
    obtain ⟨ca, ccap, hcv, _⟩ := id hoc.open
    subst hcv
    obtain ⟨fa, fcap, hfv, hfc, hfm, hfat, hfcell⟩ := id hof.open
    subst hfv
    have HOC := Lib.hid hoc
    have Hfat := Lib.hid hfat
    have Hfcell := Lib.hid hfcell
    have HQ1 := Lib.hid hq1
    have hz1 := hq1.size
    simp only [World.size_alloc] at hz1
    clear hoe hoc hof hfat hfcell hq1
    unfold allV
    simp only
    go_wp2_with fail
    go_at_call 20
    refine (ok_any _ _ _).mono ?_
    rintro e w3 ⟨rfl, hq3⟩
    simp only [BEq.rfl]
    have hqA := ((Only.new w1 (.cells #[.int .i64 hW, .int .i64 hH, .int .i64 hF, .int .i64 q0, .int .i64 q1, .int .i64 q2, .int .i64 q3, .int .i64 q4, .int .i64 q5, .int .i64 q6, .int .i64 q7, .slice pa es.length pcap, .slice ca cs.length ccap, .slice fa fs.length fcap] 38)).q (Only.new _ (.cells #[.int .i64 0, .slice sa 0 scap] 42))).q hq3
    have rX := hq3.row (heap_alloc_new' (w := w1.alloc (.cells #[.int .i64 hW, .int .i64 hH, .int .i64 hF, .int .i64 q0, .int .i64 q1, .int .i64 q2, .int .i64 q3, .int .i64 q4, .int .i64 q5, .int .i64 q6, .int .i64 q7, .slice pa es.length pcap, .slice ca cs.length ccap, .slice fa fs.length fcap] 38)) (o := .cells #[.int .i64 0, .slice sa 0 scap] 42) (g := w1.heap.size + 1) (by simp))
    have rA := hq3.row ((Below.heap_alloc (w1.alloc (.cells #[.int .i64 hW, .int .i64 hH, .int .i64 hF, .int .i64 q0, .int .i64 q1, .int .i64 q2, .int .i64 q3, .int .i64 q4, .int .i64 q5, .int .i64 q6, .int .i64 q7, .slice pa es.length pcap, .slice ca cs.length ccap, .slice fa fs.length fcap] 38)) (.cells #[.int .i64 0, .slice sa 0 scap] 42) w1.heap.size (by simp)).trans (heap_alloc_new w1 _))
    have r0 := hqA.row (HQ1.out.row HA.out)
    have m12 := (cells14 rA).2.2.2.2.2.2.1
    have hX3 : w1.heap.size + 1 < w3.heap.size := (row2 rX).2.2.2.2
    have HX := Lib.hid (And.intro r0 (And.intro rX (And.intro rA hqA)))
    have hz3 := hqA.size
    have HOC3 := Lib.hid (HOC.out.quiet hqA)
    clear r0 rX rA hq3 hqA
    go_wp2_with fail
    go_at_call 23
    refine (ksizes_any HOC3.out (by omega) (fun i hi => by have := (Hf2.out (cs.getD i default) (by simp [hi])).1; have := Hll.out; omega)).mono ?_
    rintro e w4 ⟨v4, rfl, hown4, hq4⟩
    obtain ⟨ya, ycap, hye⟩ : ∃ a cap, v4 = .slice a cs.length cap := by obtain ⟨a, cap, h, _⟩ := hown4.ints.open; exact ⟨a, cap, by rw [h]; simp [sizesOf]⟩
    subst hye
    have hb4 : ∀ g, (Value.slice ya cs.length ycap).ownBlock = some g → w3.heap.size ≤ g ∧ g < w4.heap.size := hown4.at
    have m13 := (cells14 (hq4.row HX.out.2.2.1)).2.2.2.2.2.2.2
    have HC4 := Lib.hid m13
    have HQ4 := Lib.hid hq4
    have HB4 := Lib.hid hb4
    have hz4 := hq4.size
    have HS4 : Hid (Own .i64 3 w3.heap.size w4 (.slice ya cs.length ycap) (takenR (cs.take 0) (fs.take 0) ++ sizesOf (cs.drop 0))) := Lib.hid hown4
    have hclI : (cs.length : Int) ≤ 9223372036854775807 := by omega
    clear m12 m13 hown4 hq4 hb4
    go_wp2_with fail
    go_loopw [7] (fun i wr => ∃ k : Nat, k ≤ cs.length ∧ i = .int .i64 k ∧ Own .i64 3 w3.heap.size wr (.slice ya cs.length ycap) (takenR (cs.take k) (fs.take k) ++ sizesOf (cs.drop k)) ∧ Only (Value.slice ya cs.length ycap).ownBlock.toList w4 wr) (fun i _ => cs.length - (intOf i).toNat)
    case atStart => exact ⟨0, by omega, rfl, HS4.out, Only.refl _ _⟩
    case round =>
      obtain ⟨k, hk, rfl, hown, hq⟩ := hrel
      by_cases hlt : k < cs.length
      · have hlf : k < fs.length := by have := Hf1.out; omega
        have hlen := taken_len (cs := cs) (fs := fs) (k := k) (by omega) (by omega)
        obtain ⟨g, cap', hge, hgb, hgl⟩ := hown.form (by omega)
        injection hge with hge1 hge2 hge3
        subst hge1
        clear hge2 hge3
        have hob : (Value.slice (some ⟨g, 0, none⟩) cs.length ycap).ownBlock.toList = [g] := rfl
        rw [hob] at hq
        have hg4 : w3.heap.size ≤ g ∧ g < w4.heap.size := HB4.out g rfl
        obtain ⟨fb, foff, hfa, hfb1, hfb2⟩ := Hfat.out k hlf
        subst hfa
        have f0 := (HQ1.out.q HX.out.2.2.2).size
        have hfne : fb ≠ g := by omega
        have f1 := hq.cell (HQ4.out.cell (HX.out.2.2.2.cell (Hfcell.out fb foff rfl k hlf) (by simp)) (by simp)) (by simpa using hfne)
        have m13 := hq.cell HC4.out (by rw [List.mem_singleton]; show ¬ w1.heap.size = g; omega)
        have hz := Hf3.out (fs.getD k 0) (by simp [hlf])
        have hdl := (Hf2.out (cs.getD k default) (by simp [hlt])).1
        have c0 := hown.cellS hlen.symm (i := k) (by rw [hlen]; exact hlt)
        rw [taken_at hlt hlf] at c0
        have cf := hown.frzS hlen.symm k
        have hset := taken_set hlt hlf
        have hin : InK .i64 (((cs.getD k default).data.length : Int) + 8 + fs.getD k 0) := by have := Hll.out; simp only [InK]; omega
        obtain ⟨hs1, hs2⟩ := hown.storeS hlen.symm hin k
        rw [hset] at hs1
        have HS := Lib.hid (And.intro hs1 hs2)
        have HQ := Lib.hid hq
        have hl100 := Hll.out
        have hwv : IntKind.i64.wrap (((cs.getD k default).data.length : Int) + 8 + fs.getD k 0) = ((cs.getD k default).data.length : Int) + 8 + fs.getD k 0 := by rw [IntKind.wrap_i64]; omega
        have hx : (0 : Int) ≤ (k : Int) := by omega
        have hx1 : (k : Int) < (cs.length : Int) := by omega
        have hx2 : (k : Int) < (fs.length : Int) := by omega
        have Hob := Lib.hid hob
        clear hown hq hset hin hs1 hs2 hlen hdl hz hl100 hob
        generalize ((cs.getD k default).data.length : Int) + 8 = x at *
        generalize fs.getD k 0 = z at *
        go_wp2_with fail
        go_region
        go_wp2_with fail
        go_roundw
        case rel =>
          refine ⟨k + 1, by omega, by go_num, ?_, ?_⟩
          · exact HS.out.1.quiet (Only.refl _ _).drew
          · rw [Hob.out]; exact (HQ.out.trans HS.out.2 (fun g h _ => h) (fun g h _ => h)).drew
        case measure => simp [intOf]; omega
      · obtain rfl : k = cs.length := by omega
        have hx : ¬ (cs.length : Int) < (cs.length : Int) := by omega
        have e1 : cs.take cs.length = cs := List.take_length
        have e2 : fs.take cs.length = fs := by rw [← Hf1.out]; exact List.take_length
        have e3 : sizesOf (cs.drop cs.length) = [] := by simp [sizesOf]
        rw [e1, e2, e3, List.append_nil] at hown
        have hne : ∀ g, (Value.slice ya cs.length ycap).ownBlock = some g → g ≠ w.heap.size ∧ g ≠ w1.heap.size + 1 := fun g hg => by have := HB4.out g hg; omega
        have r0 := hq.rowAt (HQ4.out.row HX.out.1) (fun hm => (hne _ (by simpa using hm)).1 rfl)
        have rX := hq.rowAt (HQ4.out.row HX.out.2.1) (fun hm => (hne _ (by simpa using hm)).2 rfl)
        obtain ⟨x0, x1, _, _, _⟩ := row2 rX
        obtain ⟨b0, b1, bf0, bf1, _⟩ := row2 r0
        have HOwn := Lib.hid hown
        have HQ := Lib.hid hq
        have HR0 := Lib.hid r0
        have hn3 : ¬ w.heap.size = w1.heap.size + 1 := by omega
        clear hown hq r0 rX
        go_wp2_with fail
        go_region
        go_wp2_with fail
        generalize hWf : World.setCell _ _ _ = Wf
        obtain ⟨s0, s1, oF, _⟩ := set2r HR0.out hWf
        refine bodyPost_ret (v := .tuple #[.slice ya cs.length ycap, .agg #[.int .i64 0, .slice sa 0 scap]]) (by simp [results, Tryz.results9, go_sem, s0, s1]) rfl (HPost.out _ _ ?_)
        unfold KTakenP
        rw [Hfin.out]
        have hd : Only [] Wf Wf.drew := (Only.refl _ _).drew
        have hA4 : Only [] w w4 := ((HO.out.q HQ1.out).q HX.out.2.2.2).q HQ4.out
        have hAr : Only [] w wr := hA4.trans HQ.out (by simp) (fun g hg hlt => by have := HB4.out g (by simpa using hg); omega)
        have hne0 : ∀ g ∈ [w.heap.size], (Value.slice ya cs.length ycap).ownBlock ≠ some g := fun g hg e => by rw [List.mem_singleton] at hg; have := HB4.out g e; omega
        refine ⟨(hAr.tail1 oF (by omega)).drew, _, sa, scap, rfl, Hsm.out, ?_⟩
        exact (((HOwn.out.only oF hne0).ints).mono (by omega) (Nat.le_refl _)).quiet hd
    -- S>
#print axioms ktaken_any
end Go.Proofs.YtmbjehnddgcboaaGreatDoor
