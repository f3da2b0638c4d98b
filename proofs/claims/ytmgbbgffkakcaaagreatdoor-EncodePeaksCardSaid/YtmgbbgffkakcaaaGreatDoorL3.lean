/- Joined texts: EPkW, EPksW, EPksC. Conditions: each part names its own. -/
import Derived.Test.YtmgbbgffkakcaaaGreatDoorT1
import Derived.Test.YtmgbbgffkakcaaaGreatDoorF4
import Derived.Test.YtmgbbgffkakcaaaGreatDoorC1
import Derived.Test.YtmgbbgffkakcaaaGreatDoorZEFs2
import Derived.Deep.DeepCutAuto
import Derived.Test.YtmgbbgffkakcaaaGreatDoorF3
import Derived.Test.YtmgbbgffkakcaaaGreatDoorTie
import Derived.Test.YtmgbbgffkakcaaaGreatDoorCards
import Derived.SevenTiedAt
set_option maxRecDepth 100000
set_option maxHeartbeats 16000000
namespace Go.Proofs.YtmgbbgffkakcaaaGreatDoor
open Go.RowKit
set_option linter.unusedVariables false
set_option linter.unusedSimpArgs false
section
theorem psize_any (v : Int) (h : NearI 255 v 0) (w : World) : Calls Tryz.prog 69 #[.int .i64 v] w fun e w' => (∃ p, e = .returned (.int .i64 p) ∧ 0 ≤ p ∧ (p = v ∨ p = -v)) ∧ w = w' := by
 unfold NearI at h
 have e1 : IntKind.i64.wrap (-v) = -v := by rw [IntKind.wrap_i64]; omega
 go_enter Tryz.func69, Tryz.ntmps69
 go_wp2
 all_goals
  go_ret
  exact ⟨⟨_, rfl, by omega, by omega⟩, rfl⟩
theorem pboth_ok {lo hi lo' hi' : Nat} {av bv : Value} {a b : FrameD} {w : World} (ha : FrOk a) (hb : FrOk b) (hW : a.W = b.W) (hH : a.H = b.H) (h : Ints .i64 lo hi w av a.pix) (g : Ints .i64 lo' hi' w bv b.pix) :
  Calls Tryz.prog 68 #[.agg #[.int .i64 a.W, .int .i64 a.H, av], .agg #[.int .i64 b.W, .int .i64 b.H, bv]] w fun e w' => e = .returned .nilIface ∧ Only [] w w' := by
 refine hidQ fun Q HPost => ?_
 have HMa := lh (fun (W : World) (o : Only [] w W) => pmay_any a.W a.H (h.quiet o))
 have HMb := lh (fun (W : World) (o : Only [] w W) => pmay_any b.W b.H (g.quiet o))
 rw [show (⟨a.W, a.H, a.pix⟩ : FrameD) = a from rfl, mayF_iff.2 ha] at HMa
 rw [show (⟨b.W, b.H, b.pix⟩ : FrameD) = b from rfl, mayF_iff.2 hb] at HMb
 obtain ⟨aa, ac, rfl, -⟩ := h.open
 obtain ⟨ba, bc, rfl, -⟩ := g.open
 rw [← hW, ← hH] at HMb ⊢
 obtain ⟨hb1, HRa, HRb, -⟩ := boxes2 w (.cells #[.int .i64 a.W, .int .i64 a.H, .slice aa a.pix.length ac] 24) (.cells #[.int .i64 a.W, .int .i64 a.H, .slice ba b.pix.length bc] 24)
 have HQ1 := lh hb1
 clear h g ha hb hW hH hb1
 go_enter Tryz.func68, Tryz.ntmps68
 go_wp2_with fail
 go_at_call 24
 refine (HMa.out _ HQ1.out).mono ?_
 rintro e w2 ⟨rfl, hq2⟩
 have HQ2 := lh (HQ1.out.q hq2)
 have HRa2 := lh (hq2.row HRa.out)
 obtain ⟨p0, p1, p2⟩ := frame_cells (hq2.row HRb.out)
 have HRb2 := lh (hq2.row HRb.out)
 clear hq2 HRa HRb
 go_wp2_with fail
 clear p0 p1 p2
 go_at_call 24
 refine (HMb.out _ HQ2.out).mono ?_
 rintro e w3 ⟨rfl, hq3⟩
 have HQ3 := lh (HQ2.out.q hq3)
 obtain ⟨a0, a1, a2⟩ := frame_cells (hq3.row HRa2.out)
 obtain ⟨p0, p1, p2⟩ := frame_cells (hq3.row HRb2.out)
 clear hq3
 go_wp2_with fail
 exact HPost.out _ _ ⟨rfl, HQ3.out⟩
theorem peak_any {lo hi lo' hi' : Nat} {av bv : Value} {a b : FrameD} {w : World} (n : Int) (hn : 0 ≤ n ∧ n ≤ 255) (ha : FrOk a) (hb : FrOk b) (hW : a.W = b.W) (hH : a.H = b.H) (h : Ints .i64 lo hi w av a.pix) (g : Ints .i64 lo' hi' w bv b.pix) (hnr : ∀ i, i < a.pix.length → NearI n (b.pix.getD i 0) (a.pix.getD i 0)) :
  Calls Tryz.prog 31 #[.agg #[.int .i64 a.W, .int .i64 a.H, av], .agg #[.int .i64 b.W, .int .i64 b.H, bv]] w fun e w' => (∃ p, e = .returned (.tuple #[.int .i64 p, .nilIface]) ∧ 0 ≤ p ∧ p ≤ n) ∧ Only [] w w' := by
 refine hidQ fun Q HPost => ?_
 have HBo := lh (fun (W : World) (o : Only [] w W) => pboth_ok ha hb hW hH (h.quiet o) (g.quiet o))
 have hab : a.pix.length = b.pix.length := by
  have e1 := ha.len; have e2 := hb.len
  rw [hW, hH] at e1
  omega
 have Hnr : Hid (∀ i, i < a.pix.length → NearI n (b.pix.getD i 0) (a.pix.getD i 0) ∧ (0 ≤ a.pix.getD i 0 ∧ a.pix.getD i 0 ≤ 255) ∧ (0 ≤ b.pix.getD i 0 ∧ b.pix.getD i 0 ≤ 255)) := lh (fun i hi => ⟨hnr i hi, ha.sam.at i, hb.sam.at i⟩)
 have hll : (a.pix.length : Int) ≤ 9223372036854775807 := by have := h.1.len_le; unfold maxLen at this; omega
 obtain ⟨aa, ac, rfl, -, -, hat, hcell⟩ := h.open
 obtain ⟨ba, bc, rfl, -, -, hat', hcell'⟩ := g.open
 have HatA := lh hat
 have HcA := lh hcell
 have HatB := lh hat'
 have HcB := lh hcell'
 have Hab := lh hab
 obtain ⟨hb1, HRa, HRb, -⟩ := boxes2 w (.cells #[.int .i64 a.W, .int .i64 a.H, .slice aa a.pix.length ac] 24) (.cells #[.int .i64 b.W, .int .i64 b.H, .slice ba b.pix.length bc] 24)
 have HQ1 := lh hb1
 have HN := lh hn
 clear h g ha hb hW hH hb1 hat hat' hcell hcell' hab hnr hn
 obtain ⟨a0, a1, a2⟩ := frame_cells HRa.out
 obtain ⟨b0, b1, b2⟩ := frame_cells HRb.out
 go_enter Tryz.func31, Tryz.ntmps31
 go_wp2_with fail
 go_at_call 68
 refine (HBo.out _ HQ1.out).mono ?_
 rintro e w2 ⟨rfl, hq2⟩
 have HQ2 := lh (HQ1.out.q hq2)
 have HRb2 := lh (hq2.row HRb.out)
 clear a0 a1 a2 b0 b1 b2
 obtain ⟨a0, a1, a2⟩ := frame_cells (hq2.row HRa.out)
 clear hq2
 go_wp2_with fail
 clear a0 a1 a2
 go_loopw [7, 19] (fun m i wr => ∃ (k : Nat) (x : Int), k ≤ a.pix.length ∧ i = .int .i64 k ∧ m = .int .i64 x ∧ Hid (0 ≤ x ∧ x ≤ n) ∧ wr = w2) (fun _ i _ => a.pix.length - (intOf i).toNat)
 case atStart => exact ⟨0, 0, by omega, rfl, rfl, lh ⟨by omega, HN.out.1⟩, rfl⟩
 case round =>
  obtain ⟨k, x, hk, rfl, rfl, HX, rfl⟩ := hrel
  by_cases hlt : k < a.pix.length
  ·have hki : (k : Int) < (a.pix.length : Int) := by omega
   have hk0 : (0 : Int) ≤ (k : Int) := by omega
   have hkb : (k : Int) < (b.pix.length : Int) := by have := Hab.out; omega
   obtain ⟨ga, oa, rfl, -, -⟩ := HatA.out k hlt
   obtain ⟨gb, ob, rfl, -, -⟩ := HatB.out k (by have := Hab.out; omega)
   have hca := HQ2.out.cell (HcA.out ga oa rfl k hlt) (by simp)
   have hcb := HQ2.out.cell (HcB.out gb ob rfl k (by have := Hab.out; omega)) (by simp)
   obtain ⟨b0, b1, b2⟩ := frame_cells HRb2.out
   obtain ⟨h1, h2, h3⟩ := Hnr.out k hlt
   generalize a.pix.getD k 0 = u at *
   generalize b.pix.getD k 0 = v at *
   unfold NearI at h1
   have e1 : IntKind.i64.wrap (u - v) = u - v := by rw [IntKind.wrap_i64]; omega
   have HSz := lh (psize_any (u - v) (by unfold NearI; omega))
   have H1 := lh h1
   have HK := lh (And.intro hlt hk)
   clear h1 h2 h3
   go_wp2_with fail
   go_at_call 69
   refine (HSz.out _).mono ?_
   rintro e w3 ⟨⟨p, rfl, hp⟩, rfl⟩
   have HP := lh hp
   clear hp
   go_wp2_with fail
   go_round
   case rel => exact ⟨k + 1, _, by have := HK.out; omega, by go_num, rfl, lh (by have := HX.out; have := HP.out; have := H1.out; first | omega | (split <;> omega)), by first | rfl | trivial⟩
   case measure => simp [intOf]; have := HK.out; omega
  ·obtain rfl : k = a.pix.length := by omega
   have hx : ¬ (a.pix.length : Int) < (a.pix.length : Int) := by omega
   go_wp2_with fail
   exact HPost.out _ _ ⟨⟨x, rfl, HX.out⟩, HQ2.out⟩
theorem qbound_any (n : Nat) (hn : n ≤ 15) (w : World) : Calls Tryz.prog 32 #[.int .i64 n] w fun e w' => e = .returned (.tuple #[.int .i64 (stepD n / 2), .nilIface]) ∧ Only [] w w' := by
 refine hidQ fun Q HPost => ?_
 have hs := stepD_in hn
 have HS := lh (step_any n hn w)
 generalize stepD n = st at *
 have e1 : st.tdiv 2 = st / 2 := Int.tdiv_eq_ediv_of_nonneg hs.1
 have e2 : IntKind.i64.wrap (st / 2) = st / 2 := by rw [IntKind.wrap_i64]; omega
 clear hs
 go_enter Tryz.func32, Tryz.ntmps32
 go_wp2_with fail
 go_at_call 70
 refine HS.out.mono ?_
 rintro e w1 ⟨rfl, hq⟩
 have HQ := lh hq
 clear hq
 go_wp2_with fail
 exact HPost.out _ _ ⟨rfl, HQ.out⟩
end
section
theorem qEPksW0 {p : Prop} (h : p := by
 go_wp2_with fail
 exact HPost.out _ _ ⟨rfl, HQ1.out.q HQ13.out⟩) : p := h
theorem epeaks_any {sv pv : Value} {src prev : FrameD} {w : World} (hs : Ints .i64 0 w.heap.size w sv src.pix) (hp : Ints .i64 0 w.heap.size w pv prev.pix) (key : Bool) (qp reach : Int) (hE : ErrT w) :
  Calls Tryz.prog 9 #[.agg #[.int .i64 src.W, .int .i64 src.H, sv], .agg #[.int .i64 prev.W, .int .i64 prev.H, pv], .bool key, .int .i64 qp, .int .i64 reach] w fun e w' => e = .returned (.bool true) ∧ Only [] w w' := by
 refine hidQ fun Q HPost => ?_
 have HFi := lh (fun (W : World) (o : Only [] w W) => first_any W (hE.quiet o))
 have HFr := lh (fun (W : World) (o : Only [] w W) => encq_any (src := src) (prev := prev) key qp reach (hs.quiet o) (hp.quiet o) o.size o.size)
 have HFw := lh (fun (W : World) (o : Only [] w W) => few_any (l := [src, prev]) reach (frames_two (hs.quiet o) (hp.quiet o)) (by simp))
 have HP := lh hs
 have HGo : Hid (checkE src prev key qp reach = none → 0 ≤ qp ∧ qp ≤ 15 ∧ FrOk src ∧ FrOk (qBlt src prev key qp reach) ∧ src.W = (qBlt src prev key qp reach).W ∧ src.H = (qBlt src prev key qp reach).H ∧ (∀ i, i < src.pix.length → NearI (stepD qp / 2) ((qBlt src prev key qp reach).pix.getD i 0) (src.pix.getD i 0)) ∧ (∃ l, qCod src prev key qp reach = ⟨if key then 1 else 2, qp :: l⟩) ∧ (qCod src prev key qp reach).data.length ≤ 65000) := lh (fun hc => by
  obtain ⟨hsf, hmt, hq0, hq1, hr0, hr1⟩ := checkE_none hc
  have hpe := enc_peak (q := qp.toNat) (reach := reach.toNat) hsf (fun h => mates_ok (hmt h)) (by omega) (by omega)
  have h5 := (enc_drift (q := qp.toNat) (reach := reach.toNat) hsf hmt (by omega) (by omega)).2
  rw [Int.toNat_of_nonneg hq0] at hpe h5
  rw [(enc_at hc).1, (enc_at hc).2]
  exact ⟨hq0, hq1, hsf, hpe.1, hpe.2.1.symm, hpe.2.2.1.symm, hpe.2.2.2, ⟨_, rfl⟩, h5⟩)
 have HNo : Hid (∀ k, checkE src prev key qp reach = some k → qCod src prev key qp reach = ⟨0, []⟩ ∧ qBlt src prev key qp reach = frame0) := lh (fun k h => enc_no h)
 generalize qCod src prev key qp reach = C at *
 generalize qBlt src prev key qp reach = B at *
 generalize checkE src prev key qp reach = CK at *
 obtain ⟨sa, sc, rfl, -⟩ := hs.open
 obtain ⟨pa, pc, rfl, -⟩ := hp.open
 clear hs hp hE
 obtain ⟨hb1, HS1, HP1, -⟩ := boxes2 w (.cells #[.int .i64 src.W, .int .i64 src.H, .slice sa src.pix.length sc] 24) (.cells #[.int .i64 prev.W, .int .i64 prev.H, .slice pa prev.pix.length pc] 24)
 have HQ1 := lh hb1
 clear hb1
 go_enter Tryz.func9, Tryz.ntmps9
 go_wp2_with fail
 generalize hW1 : World.alloc (World.alloc w _) _ = W1 at *
 clear hW1
 go_at_call 11
 refine (HFi.out _ HQ1.out).mono ?_
 rintro e w2 ⟨rfl, hq2⟩
 have HQ2 := lh hq2
 clear hq2
 obtain ⟨s0, s1, s2⟩ := frame_cells (HQ2.out.row HS1.out)
 obtain ⟨p0, p1, p2⟩ := frame_cells (HQ2.out.row HP1.out)
 have HOn := lh (Only.new w2 (.cells #[.int .i64 src.W, .int .i64 src.H, .slice sa src.pix.length sc, .int .i64 prev.W, .int .i64 prev.H, .slice pa prev.pix.length pc] 24))
 have HFx := lh (HFw.out _ (HQ1.out.q HQ2.out))
 go_wp2_with fail
 generalize hW3 : World.alloc w2 _ = W3 at *
 clear hW3
 clear s0 s1 s2 p0 p1 p2
 have HQ3 := lh (HQ2.out.q HOn.out)
 go_at_call 12
 refine HFx.out.mono ?_
 rintro e w4 ⟨⟨b, rfl, -⟩, hq4⟩
 have HQ4 := lh (HQ3.out.q hq4)
 clear hq4
 cases b with
 | false =>
  go_wp2_with fail
  go_at_call 11
  refine (HFi.out _ (HQ1.out.q HQ4.out)).mono ?_
  rintro e w5 ⟨rfl, hq5⟩
  have HQ5 := lh (HQ4.out.q hq5)
  clear hq5
  go_wp2_with fail
  exact HPost.out _ _ ⟨rfl, HQ1.out.q HQ5.out⟩
 | true =>
  obtain ⟨s0, s1, s2⟩ := frame_cells (HQ4.out.row HS1.out)
  obtain ⟨p0, p1, p2⟩ := frame_cells (HQ4.out.row HP1.out)
  go_wp2_with fail
  clear s0 s1 s2 p0 p1 p2
  go_at_call 14
  refine (HFr.out _ (HQ1.out.q HQ4.out)).mono ?_
  rintro e w6 ⟨hq6, d1, n1, f1, m1, rfl, hk1⟩
  have HQ6 := lh (HQ4.out.q hq6)
  have HK := lh hk1
  clear hq6 hk1
  obtain ⟨hb8, HVc, HVf, -⟩ := boxes2 w6 (.cells #[.int .i64 C.kind, .slice d1 C.data.length n1] 31) (.cells #[.int .i64 B.W, .int .i64 B.H, .slice f1 B.pix.length m1] 24)
  have HA8 := lh hb8
  clear hb8
  go_upto_region 6 with (fail)
  generalize hW8 : World.alloc (World.alloc w6 _) _ = W8 at *
  clear hW8
  obtain ⟨VC, hVC⟩ : ∃ z, z = w6.heap.size := ⟨_, rfl⟩
  rw [← hVC] at HVc HVf ⊢
  clear hVC
  have HQ8 := lh (HQ6.out.q HA8.out)
  cases CK with
  | some kk =>
   obtain ⟨rfl, rfl⟩ := HNo.out kk rfl
   simp only [codeV]
   go_wp2_with fail
   go_at_call 11
   refine (HFi.out _ (HQ1.out.q HQ8.out)).mono ?_
   rintro e w9 ⟨rfl, hq9⟩
   have HQ9 := lh (HQ8.out.q hq9)
   obtain ⟨f0, f1', f2⟩ := frame_cells (hq9.row HVf.out)
   clear hq9
   have hl1 : ((frame0.pix.length : Nat) : Int) = 0 := rfl
   go_wp2_with fail
   exact HPost.out _ _ ⟨rfl, HQ1.out.q HQ9.out⟩
  | none =>
   simp only [codeV]
   obtain ⟨hq0, hq1, hsf, hbf, hbW, hbH, hnr, ⟨l, hC⟩, hlen⟩ := HGo.out rfl
   have hst := stepD_in (n := qp.toNat) (by omega)
   rw [Int.toNat_of_nonneg hq0] at hst
   have hst0 : qp = 0 → stepD qp / 2 = 0 := by intro h; subst h; rfl
   have HPk := lh (fun (W : World) (o : Only [] W8 W) => peak_any (stepD qp / 2) (by omega) hsf hbf hbW hbH (HP.out.quiet (HQ1.out.q (HQ8.out.q o))) (HK.out.2.quiet (HA8.out.q o)) hnr)
   have HBo := lh (fun (W : World) => qbound_any qp.toNat (by omega) W)
   rw [Int.toNat_of_nonneg hq0] at HBo
   have hrd : readB C = none := by
    rw [hC] at hlen ⊢
    simp only at hlen
    unfold readB
    simp only [List.getD_cons_zero]
    cases key
    ·rw [if_neg (by decide), if_neg (by decide), if_neg (by simp), if_neg (by omega), if_neg (by simp at hlen ⊢; omega)]
    ·rw [if_neg (by decide), if_neg (by decide), if_neg (by simp), if_neg (by omega), if_neg (by simp at hlen ⊢; omega)]
   have HRd := lh (fun (W : World) (o : Only [] W8 W) => read_any (k := C.kind) (HK.out.1.quiet (HA8.out.q o)))
   unfold HeadOr at HRd
   rw [show (⟨C.kind, C.data⟩ : Coded) = C from rfl, hrd] at HRd
   have hck : C.kind = if key then 1 else 2 := by rw [hC]
   have hcd : C.data.getD 0 0 = qp := by rw [hC]; rfl
   simp only at HRd
   rw [hcd] at HRd
   have HC := lh hck
   have HQP := lh (And.intro hq0 hq1)
   have HST := lh hst
   have HST0 := lh hst0
   clear hq0 hq1 hsf hbf hbW hbH hnr hC hlen hst hst0 hrd hck hcd HGo HNo
   generalize stepD qp = st at *
   obtain ⟨f0, f1', f2⟩ := frame_cells HVf.out
   obtain ⟨s0, s1, s2⟩ := frame_cells (HQ8.out.row HS1.out)
   go_wp2_with fail
   clear f0 f1' f2 s0 s1 s2
   go_at_call 31
   refine (HPk.out _ (Only.refl _ _)).mono ?_
   rintro e w9 ⟨⟨pk, rfl, hpk0, hpk1⟩, hq9⟩
   have HX9 := lh hq9
   have HPK := lh (And.intro hpk0 hpk1)
   clear hq9 hpk0 hpk1
   go_wp2_with fail
   go_at_call 32
   refine (HBo.out _).mono ?_
   rintro e w10 ⟨rfl, hq10⟩
   have HX10 := lh (HX9.out.q hq10)
   clear hq10
   obtain ⟨c0, c1, -⟩ := row2 (HX10.out.row HVc.out)
   go_wp2_with fail
   clear c0 c1
   go_at_call 33
   refine (HRd.out _ HX10.out).mono ?_
   rintro e w11 ⟨hq11, dv, rfl, hdv⟩
   have HX11 := lh (HX10.out.q hq11)
   obtain ⟨dd, dn, rfl, -⟩ := hdv.open
   clear hq11 hdv
   generalize (C.data.drop 1).length = DL at *
   have HA12 := lh (Only.new w11 (.cells #[.int .i64 C.kind, .int .i64 qp, .slice dd DL dn] 77))
   have HVh := lh (heap_alloc_new w11 (.cells #[.int .i64 C.kind, .int .i64 qp, .slice dd DL dn] 77))
   go_upto_region 11 with (fail)
   generalize hW12 : World.alloc w11 _ = W12 at *
   clear hW12
   have HQ12 := lh (HQ8.out.q (HX11.out.q HA12.out))
   go_wp2_with fail
   go_at_call 11
   refine (HFi.out _ (HQ1.out.q HQ12.out)).mono ?_
   rintro e w13 ⟨rfl, hq13⟩
   have HQ13 := lh (HQ12.out.q hq13)
   have hh := hq13.row HVh.out
   clear hq13
   rw [HC.out] at hh
   obtain ⟨h0, h1, h2⟩ := frame_cells hh
   have hle : pk ≤ st / 2 := HPK.out.2
   clear hh
   by_cases hz : 0 < qp
   ·cases key with
    | true =>
     simp only [if_true] at h0
     exact qEPksW0
    | false =>
     simp only [Bool.false_eq_true, if_false] at h0
     exact qEPksW0
   ·obtain rfl : pk = 0 := by have h1 := HQP.out; have h2 := HST0.out (by omega); have h3 := HPK.out; omega
    cases key with
    | true =>
     simp only [if_true] at h0
     exact qEPksW0
    | false =>
     simp only [Bool.false_eq_true, if_false] at h0
     exact qEPksW0
end
theorem epeaks_card {sv pv : Value} {src prev : FrameD} {w : World} (hs : Ints .i64 0 w.heap.size w sv src.pix) (_ : InK .i64 src.W ∧ InK .i64 src.H) (hp : Ints .i64 0 w.heap.size w pv prev.pix) (_ : InK .i64 prev.W ∧ InK .i64 prev.H) (key : Bool) (qp reach : Int) (_ : w.heap.size ≤ w.heap.size) (hE : ErrT w) :
  Calls Tryz.prog 9 #[.agg #[.int .i64 src.W, .int .i64 src.H, sv], .agg #[.int .i64 prev.W, .int .i64 prev.H, pv], .bool key, .int .i64 qp, .int .i64 reach] w fun e w' => e = .returned (.bool true) ∧ Only [] w w' := epeaks_any hs hp key qp reach hE
end Go.Proofs.YtmgbbgffkakcaaaGreatDoor
/- EncodePeaks of the encoder: for any arguments the law kinlaw22.EncodePeaks answers true and leaves its arguments as they were (no sample is further from its own than the quantiser's bound). Conditions: errors.errorType is laid as the program's text lays it (the card ties it). -/
namespace Go.Proofs.YtmgbbgffkakcaaaGreatDoor
open Go.ChangeShapes Go.WideShapes Go.ChangeAt Go.RowKit
set_option linter.unusedVariables false
set_option linter.unusedSimpArgs false
theorem encodePeaks_lifted (os : Os) (started : os.Started) (H : Type) (enc : TypeId × Value → H) :
  ReturnsInHanded {} Tryz.checked os 9 .any (fun w args => (Rows.encodePeaksSpec.pre enc Tryz.prog Tryz.f9 [] false w args ∧ laidMetH Tryz.prog laid1 w) ∧ sizedMet enc Tryz.prog Tryz.f9 (OpenSpec.ofChange Rows.encodePeaksSpec) false w args)
   (Rows.encodePeaksSpec.post enc Tryz.prog Tryz.f9 false true false false) := by
 refine returnsInHanded_of_change_and (C := Tryz.checked) (X := fun w _ => laidMetH Tryz.prog laid1 w) (fun _ _ _ hh h => h.of_heap hh) own_ started (by kernel_rfl) Tryz.func9
  (ChangeSpec.witness_at (enc := enc) (C := Tryz.checked) (os := os) (X := fun w _ => laidMetH Tryz.prog laid1 w) false (laidWorld os) #[.agg #[.int .i64 0, .int .i64 0, .slice none 0 0], .agg #[.int .i64 0, .int .i64 0, .slice none 0 0], .bool false, .int .i64 0, .int .i64 0] 8 rfl (by kernel_rfl) (by kernel_rfl) (by kernel_rfl) (by kernel_rfl) (by kernel_rfl) (laidWorld_met os _)) ?_
 intro W base args ds gs before hval0 hW _ _ hL _
 have hval : ∀ (j : Nat) t v, Tryz.f9.params[j]? = some t → args[j]? = some v → Value.okWide Tryz.prog W .any base t v := hval0
 have hW' := hW
 obtain ⟨p, q, hA0, hV, rfl, hfz, hnd⟩ := hW
 have hA : DataW.TrodAll enc Tryz.prog W 0 (fun _ => true) true Tryz.f9.params.toList args.toList ds p := hA0
 rw [Tryz.params9] at hA hval
 obtain ⟨v0, vs0, d0, ds0, p0, q0, hargs, rfl, rfl, h0, r0⟩ := trodAll_cons hA
 obtain ⟨v1, vs1, d1, ds1, p1, q1, rfl, rfl, rfl, h1, r1⟩ := trodAll_cons r0
 obtain ⟨v2, vs2, d2, ds2, p2, q2, rfl, rfl, rfl, h2, r2⟩ := trodAll_cons r1
 obtain ⟨v3, vs3, d3, ds3, p3, q3, rfl, rfl, rfl, h3, r3⟩ := trodAll_cons r2
 obtain ⟨v4, vs4, d4, ds4, p4, q4, rfl, rfl, rfl, h4, r4⟩ := trodAll_cons r3
 obtain ⟨rfl, rfl, rfl⟩ := trodAll_nil r4
 obtain rfl : args = #[v0, v1, v2, v3, v4] := by cases args; simp_all
 obtain ⟨rfl, rfl⟩ := trodVars_none hV
 have k0 := h0
 have lt0 : ∀ x ∈ p0, x.block < W.heap.size := by obtain ⟨m, hm⟩ := k0; exact DataW.trod_lt m _ _ _ hm
 obtain ⟨f0, pv0, rfl, hk0, hd0⟩ := frame_in (hval 0 24 v0 rfl rfl) h0
 have k1 := h1
 have lt1 : ∀ x ∈ p1, x.block < W.heap.size := by obtain ⟨m, hm⟩ := k1; exact DataW.trod_lt m _ _ _ hm
 obtain ⟨f1, pv1, rfl, hk1, hd1⟩ := frame_in (hval 1 24 v1 rfl rfl) h1
 obtain ⟨n2, rfl, rfl, rfl⟩ := open_bool Tryz.underlying4 (hval 2 4 v2 rfl rfl) h2
 obtain ⟨n3, rfl, rfl, rfl, w3⟩ := open_int Tryz.underlying3 (hval 3 3 v3 rfl rfl) h3
 obtain ⟨n4, rfl, rfl, rfl, w4⟩ := open_int Tryz.underlying3 (hval 4 3 v4 rfl rfl) h4
 clear hA0 hval0
 simp only [List.append_nil] at hW'
 refine (epeaks_card hd0 hk0 hd1 hk1 n2 n3 n4 (Nat.le_refl _) (errT_of_laid hL)).mono fun e W' ⟨he, hq⟩ => ?_
 subst he
 have bel := hq.quiet
 exact ⟨_, rfl, _, _, _, [], _, [], hW', trodAll_mk1 (shut_bool Tryz.underlying4 _), (trodAll_cons_mk (Below.trod laidOut_ (by kernel_rfl) (of_decide_eq_true (by kernel_rfl)) k0 bel lt0) (trodAll_cons_mk (Below.trod laidOut_ (by kernel_rfl) (of_decide_eq_true (by kernel_rfl)) k1 bel lt1) (trodAll_cons_mk (shut_bool Tryz.underlying4 _) (trodAll_cons_mk (shut_int Tryz.underlying3 w3) (trodAll_cons_mk (shut_int Tryz.underlying3 w4) trodAll_mk0))))), rfl, bel.frame _, fun h => by cases h⟩
theorem encodePeaks_row : Rows.EncodePeaksSaid :=
 OpenClaim.holds_of_wide 9 Tryz.f9 rfl rfl rfl rfl rfl rfl rfl ⟨rfl, rfl, rfl, rfl, rfl⟩ rfl rfl rfl rfl rfl (by kernel_rfl) Tryz.func9 (by kernel_rfl)
  (of_decide_eq_true (by kernel_rfl)) (by unfold Func.isWrapper; first | (rw [if_pos (by decide +kernel)]; kernel_rfl) | (rw [if_neg (by decide +kernel)]; exact ⟨rfl, rfl⟩))
  (fun os started H enc _ => encodePeaks_lifted os started H enc)
theorem encodePeaks_holds : Rows.EncodePeaksCardSaid :=
 Claim7.holds_tied_plain_at .later [] [.handle] true _ true
  encodePeaks_row (fun _ h => by cases h) (by kernel_rfl) (fun _ h => by cases h) encodePeaks_row_tie rfl ⟨rfl, rfl⟩ (by kernel_rfl) rfl
  (fun f fn hf hfn => by
   obtain rfl : f = 9 := Option.some.inj ((show Tryz.prog.funcNamed "kinescope/kinlaw22.EncodePeaks" = some 9 by kernel_rfl).symm.trans hf) |>.symm
   obtain rfl : fn = Tryz.f9 := (Option.some.inj (Tryz.func9.symm.trans hfn)).symm
   exact ⟨by kernel_rfl, fun j t ht => by
    rw [Tryz.params9] at ht
    have hm : t ∈ [24, 24, 4, 3, 3] := by simpa using Array.mem_of_getElem? ht
    have hall : ([24, 24, 4, 3, 3].all fun u => !Tryz.prog.wantsStandIn u) = true := by kernel_rfl
    exact (show Tryz.prog.wantsStandIn t = false by simpa using List.all_eq_true.1 hall t hm)⟩)
  (by kernel_rfl)
end Go.Proofs.YtmgbbgffkakcaaaGreatDoor
