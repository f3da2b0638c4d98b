/- Joined texts: EDriW, EDriC. Conditions: each part names its own. -/
import Derived.Test.YtmgbbgffkakcaaaGreatDoorT1
import Derived.Test.YtmgbbgffkakcaaaGreatDoorZEFs2
import Derived.Test.YtmgbbgffkakcaaaGreatDoorF4
import Derived.Deep.DeepCutAuto
import Derived.Test.YtmgbbgffkakcaaaGreatDoorF3
import Derived.Test.YtmgbbgffkakcaaaGreatDoorTie
import Derived.Test.YtmgbbgffkakcaaaGreatDoorCards
import Derived.SevenTiedAt
set_option maxRecDepth 100000
set_option maxHeartbeats 16000000
namespace Go.Proofs.YtmgbbgffkakcaaaGreatDoor
open Go.RowKit
set_option linter.unusedVariables false
set_option linter.unusedSimpArgs false
section
theorem edrifts_any {sv pv : Value} {src prev : FrameD} {a0 a1 a2 a3 a4 a5 a6 a7 : Int} {w : World} (hs : Ints .i64 0 w.heap.size w sv src.pix) (hp : Ints .i64 0 w.heap.size w pv prev.pix) (key : Bool) (most : Int) (hE : ErrT w) :
  Calls Tryz.prog 10 #[.agg #[.int .i64 src.W, .int .i64 src.H, sv], .agg #[.int .i64 prev.W, .int .i64 prev.H, pv], .bool key, .agg #[.int .i64 a0, .int .i64 a1, .int .i64 a2, .int .i64 a3, .int .i64 a4, .int .i64 a5, .int .i64 a6, .int .i64 a7], .int .i64 most] w fun e w' => e = .returned (.bool true) ∧ Only [] w w' := by
 refine hidQ fun Q HPost => ?_
 have HFi := lh (fun (W : World) (o : Only [] w W) => first_any W (hE.quiet o))
 have HFt := lh (fun (W : World) (o : Only [] w W) => fitq_any (src := src) (prev := prev) key (⟨a0, a1, a2, a3, a4, a5, a6, a7⟩ : Cfg) most (hs.quiet o) (hp.quiet o) o.size o.size)
 have HFr := lh (fun (W : World) (q : Int) (o : Only [] w W) => encq_any (src := src) (prev := prev) key q a2 (hs.quiet o) (hp.quiet o) o.size o.size)
 have HPx' := lh (fun (W : World) (o : Only [] w W) => pix_any (frames_two (hs.quiet o) (hp.quiet o)))
 have HLi := lh (fun (W : World) => light_any (⟨a0, a1, a2, a3, a4, a5, a6, a7⟩ : Cfg) src.W src.H 1 W)
 unfold Cfg.v at HFt HLi
 simp only at HFt HLi
 have HP := lh (And.intro hs hp)
 generalize hFC : fitC src prev key (⟨a0, a1, a2, a3, a4, a5, a6, a7⟩ : Cfg) most = C at *
 generalize hFB : fitB src prev key (⟨a0, a1, a2, a3, a4, a5, a6, a7⟩ : Cfg) most = B at *
 generalize hFV : fitV src prev key (⟨a0, a1, a2, a3, a4, a5, a6, a7⟩ : Cfg) most = V at *
 have HFD := lh (And.intro hFC (And.intro hFB hFV))
 clear hFC hFB hFV
 generalize pixB [src, prev] = PXB at *
 obtain ⟨sa, sc, rfl, -⟩ := hs.open
 obtain ⟨pa, pc, rfl, -⟩ := hp.open
 clear hs hp hE
 obtain ⟨hb1, HS1, HP1, HK1, -⟩ := boxes3 w (.cells #[.int .i64 src.W, .int .i64 src.H, .slice sa src.pix.length sc] 24) (.cells #[.int .i64 prev.W, .int .i64 prev.H, .slice pa prev.pix.length pc] 24) (.cells #[.int .i64 a0, .int .i64 a1, .int .i64 a2, .int .i64 a3, .int .i64 a4, .int .i64 a5, .int .i64 a6, .int .i64 a7] 47)
 have HQ1 := lh hb1
 clear hb1
 go_enter Tryz.func10, Tryz.ntmps10
 go_wp2_with fail
 generalize hW1 : World.alloc (World.alloc (World.alloc w _) _) _ = W1 at *
 clear hW1
 go_at_call 11
 refine (HFi.out _ HQ1.out).mono ?_
 rintro e w2 ⟨rfl, hq2⟩
 have HQ2 := lh hq2
 clear hq2
 obtain ⟨s0, s1, s2⟩ := frame_cells (HQ2.out.row HS1.out)
 obtain ⟨p0, p1, p2⟩ := frame_cells (HQ2.out.row HP1.out)
 obtain ⟨k0, k1, k2, k3, k4, k5, k6, k7⟩ := cfg_cells (HQ2.out.row HK1.out)
 have HOn := lh (Only.new w2 (.cells #[.int .i64 src.W, .int .i64 src.H, .slice sa src.pix.length sc, .int .i64 prev.W, .int .i64 prev.H, .slice pa prev.pix.length pc] 24))
 have HPx := lh (HPx'.out _ (HQ1.out.q HQ2.out))
 go_wp2_with fail
 generalize hW3 : World.alloc w2 _ = W3 at *
 clear hW3 HPx'
 clear s0 s1 s2 p0 p1 p2 k0 k1 k2 k3 k4 k5 k6 k7
 have HQ3 := lh (HQ2.out.q HOn.out)
 go_at_call 19
 refine HPx.out.mono ?_
 rintro e w4 ⟨rfl, hw4⟩
 subst hw4
 cases PXB with
 | false =>
  go_wp2_with fail
  go_at_call 11
  refine (HFi.out _ (HQ1.out.q HQ3.out)).mono ?_
  rintro e w5 ⟨rfl, hq5⟩
  have HQ5 := lh (HQ3.out.q hq5)
  clear hq5
  go_wp2_with fail
  exact HPost.out _ _ ⟨rfl, HQ1.out.q HQ5.out⟩
 | true =>
  obtain ⟨s0, s1, s2⟩ := frame_cells (HQ3.out.row HS1.out)
  obtain ⟨p0, p1, p2⟩ := frame_cells (HQ3.out.row HP1.out)
  obtain ⟨k0, k1, k2, k3, k4, k5, k6, k7⟩ := cfg_cells (HQ3.out.row HK1.out)
  go_wp2_with fail
  clear s0 s1 s2 p0 p1 p2 k0 k1 k2 k3 k4 k5 k6 k7
  go_at_call 20
  refine (HLi.out _).mono ?_
  rintro e w5 ⟨⟨b, rfl⟩, hq5⟩
  have HQ5 := lh (HQ3.out.q hq5)
  clear hq5
  cases b with
  | false =>
   go_wp2_with fail
   go_at_call 11
   refine (HFi.out _ (HQ1.out.q HQ5.out)).mono ?_
   rintro e w6 ⟨rfl, hq6⟩
   have HQ6 := lh (HQ5.out.q hq6)
   clear hq6
   go_wp2_with fail
   exact HPost.out _ _ ⟨rfl, HQ1.out.q HQ6.out⟩
  | true =>
   obtain ⟨s0, s1, s2⟩ := frame_cells (HQ5.out.row HS1.out)
   obtain ⟨p0, p1, p2⟩ := frame_cells (HQ5.out.row HP1.out)
   obtain ⟨k0, k1, k2, k3, k4, k5, k6, k7⟩ := cfg_cells (HQ5.out.row HK1.out)
   go_wp2_with fail
   clear s0 s1 s2 p0 p1 p2 k0 k1 k2 k3 k4 k5 k6 k7
   go_at_call 21
   refine (HFt.out _ (HQ1.out.q HQ5.out)).mono ?_
   rintro e w6 ⟨hq6, d1, n1, f1, m1, rfl, hk1⟩
   have HQ6 := lh (HQ5.out.q hq6)
   have HK := lh hk1
   clear hq6 hk1 HPx HLi HOn
   obtain ⟨hb8, HVc, HVf, -⟩ := boxes2 w6 (.cells #[.int .i64 C.kind, .slice d1 C.data.length n1] 31) (.cells #[.int .i64 B.W, .int .i64 B.H, .slice f1 B.pix.length m1] 24)
   have HA8 := lh hb8
   clear hb8
   go_upto_region 6 with (fail)
   generalize hW8 : World.alloc (World.alloc w6 _) _ = W8 at *
   clear hW8
   obtain ⟨VC, hVC⟩ : ∃ z, z = w6.heap.size := ⟨_, rfl⟩
   rw [← hVC] at HVc HVf ⊢
   clear hVC
   have HQ8 := lh (HQ6.out.q HA8.out)
   go_cut [49] (fun s49 wx => ∃ t : Bool, s49 = .bool t ∧ Hid (t = true → FitOk src prev key (⟨a0, a1, a2, a3, a4, a5, a6, a7⟩ : Cfg) most C B) ∧ W8 = wx)
   case first =>
    rcases fit_cases src prev key (⟨a0, a1, a2, a3, a4, a5, a6, a7⟩ : Cfg) most with ⟨kk, hV, -, -, -⟩ | ⟨hV, hok⟩
    ·obtain ⟨-, -, h3⟩ := HFD.out
     rw [hV] at h3
     subst h3
     clear hV
     go_wp2_with fail
     go_meet
     exact ⟨false, rfl, lh (fun h => by cases h), rfl⟩
    ·obtain ⟨h1, h2, h3⟩ := HFD.out
     rw [hV] at h3
     rw [h1, h2] at hok
     subst h3
     have HOk := lh hok
     clear hV h1 h2 hok
     go_wp2_with fail
     go_meet
     exact ⟨true, rfl, lh (fun _ => HOk.out), rfl⟩
   case rest =>
   obtain ⟨t, rfl, HOk, rfl⟩ := hcut
   go_upto_if 49 with (fail)
   go_cut [] (fun wx => Hid (Only [] W8 wx))
   case first =>
    cases t with
    | false =>
     go_wp2_with fail
     go_meet
     exact lh (Only.refl _ _)
    | true =>
     have hok := HOk.out rfl
     have HDe := lh (fun (W : World) (o : Only [] W8 W) => frame_any (c := C) (prev := prev) src.W src.H (HK.out.1.quiet (HA8.out.q o)) (HP.out.2.quiet (HQ1.out.q (HQ8.out.q o))))
     rw [fit_drift hok] at HDe
     clear hok
     obtain ⟨c0, c1, -⟩ := row2 HVc.out
     obtain ⟨s0, s1, s2⟩ := frame_cells (HQ8.out.row HS1.out)
     obtain ⟨p0, p1, p2⟩ := frame_cells (HQ8.out.row HP1.out)
     go_wp2_with fail
     clear c0 c1 s0 s1 s2 p0 p1 p2
     go_at_call 34
     refine (HDe.out _ (Only.refl _ _)).mono ?_
     rintro e w9 ⟨hq9, g3, c3, rfl, ho9⟩
     have HX9 := lh hq9
     have HG := lh ho9.ints
     clear hq9 ho9
     have HA10 := lh (Only.new w9 (.cells #[.int .i64 B.W, .int .i64 B.H, .slice (some ⟨g3, 0, none⟩) B.pix.length c3] 24))
     have HRg := lh (heap_alloc_new w9 (.cells #[.int .i64 B.W, .int .i64 B.H, .slice (some ⟨g3, 0, none⟩) B.pix.length c3] 24))
     have HKf := lh (kframe_any (A := B) (B := B) (HK.out.2.quiet (HA8.out.q (HX9.out.q HA10.out))) (HG.out.quiet HA10.out))
     rw [show frEq B B = true by unfold frEq; simp [eqB]] at HKf
     obtain ⟨f0, f1', f2⟩ := frame_cells ((HX9.out.q HA10.out).row HVf.out)
     obtain ⟨g0, g1, g2⟩ := frame_cells HRg.out
     go_upto_region 8 with (fail)
     generalize hW10 : World.alloc w9 _ = W10 at *
     clear hW10
     go_wp2_with fail
     go_at_call 17
     refine HKf.out.mono ?_
     rintro e w11 ⟨rfl, hq11⟩
     have HX11 := lh (HX9.out.q (HA10.out.q hq11))
     clear f0 f1' f2 g0 g1 g2 hq11
     go_wp2_with fail
     go_meet
     exact HX11
   case rest =>
    obtain ⟨W12, hW12⟩ : ∃ z, z = wc := ⟨_, rfl⟩
    subst hW12
    have HQ12 := lh (HQ8.out.q hcut.out)
    clear hcut HK HVc HVf HA8 HFD
    have HFrX := lh (HFr.out W12 a0 (HQ1.out.q HQ12.out))
    have HDr : Hid (checkE src prev key a0 a2 = none → frameD (qCod src prev key a0 a2) prev src.W src.H = .ok (qBlt src prev key a0 a2)) := lh (fun hc => by
     rw [(enc_at hc).1, (enc_at hc).2]
     obtain ⟨hsf, hmt, hq0, hq1, hr0, hr1⟩ := checkE_none hc
     have h5 := (enc_drift (q := a0.toNat) (reach := a2.toNat) hsf hmt (by omega) (by omega)).1
     rwa [Int.toNat_of_nonneg hq0] at h5)
    have HNo : Hid (∀ k, checkE src prev key a0 a2 = some k → qCod src prev key a0 a2 = ⟨0, []⟩ ∧ qBlt src prev key a0 a2 = frame0) := lh (fun k h => enc_no h)
    generalize qCod src prev key a0 a2 = C2 at *
    generalize qBlt src prev key a0 a2 = B2 at *
    generalize checkE src prev key a0 a2 = CK at *
    obtain ⟨s0, s1, s2⟩ := frame_cells (HQ12.out.row HS1.out)
    obtain ⟨p0, p1, p2⟩ := frame_cells (HQ12.out.row HP1.out)
    obtain ⟨k0, k1, k2, k3, k4, k5, k6, k7⟩ := cfg_cells (HQ12.out.row HK1.out)
    go_wp2_with fail
    clear s0 s1 s2 p0 p1 p2 k0 k1 k2 k3 k4 k5 k6 k7
    go_at_call 14
    refine HFrX.out.mono ?_
    rintro e w13 ⟨hq13, d2, n2, f2, m2, rfl, hk2⟩
    have HQ13 := lh (HQ12.out.q hq13)
    have HKq := lh hk2
    clear hq13 hk2
    obtain ⟨hb14, HVd, HVg, -⟩ := boxes2 w13 (.cells #[.int .i64 C2.kind, .slice d2 C2.data.length n2] 31) (.cells #[.int .i64 B2.W, .int .i64 B2.H, .slice f2 B2.pix.length m2] 24)
    have HA14 := lh hb14
    clear hb14
    go_upto_region 11 with (fail)
    generalize hW14 : World.alloc (World.alloc w13 _) _ = W14 at *
    clear hW14
    obtain ⟨VD, hVD⟩ : ∃ z, z = w13.heap.size := ⟨_, rfl⟩
    rw [← hVD] at HVd HVg ⊢
    clear hVD
    have HQ14 := lh (HQ13.out.q HA14.out)
    cases CK with
    | some kk =>
     obtain ⟨rfl, rfl⟩ := HNo.out kk rfl
     simp only [codeV]
     go_wp2_with fail
     go_at_call 11
     refine (HFi.out _ (HQ1.out.q HQ14.out)).mono ?_
     rintro e w15 ⟨rfl, hq15⟩
     have HQ15 := lh (HQ14.out.q hq15)
     obtain ⟨c0, c1, -⟩ := row2 (hq15.row HVd.out)
     obtain ⟨f0, f1', f2'⟩ := frame_cells (hq15.row HVg.out)
     clear hq15
     have hl1 : ((frame0.pix.length : Nat) : Int) = 0 := rfl
     have hl2 : (((⟨0, []⟩ : Coded).data.length : Nat) : Int) = 0 := rfl
     go_wp2_with fail
     exact HPost.out _ _ ⟨rfl, HQ1.out.q HQ15.out⟩
    | none =>
     simp only [codeV]
     have HDe := lh (fun (W : World) (o : Only [] W14 W) => frame_any (c := C2) (prev := prev) src.W src.H (HKq.out.1.quiet (HA14.out.q o)) (HP.out.2.quiet (HQ1.out.q (HQ14.out.q o))))
     rw [HDr.out rfl] at HDe
     obtain ⟨c0, c1, -⟩ := row2 HVd.out
     obtain ⟨s0, s1, s2⟩ := frame_cells (HQ14.out.row HS1.out)
     obtain ⟨p0, p1, p2⟩ := frame_cells (HQ14.out.row HP1.out)
     go_wp2_with fail
     clear c0 c1 s0 s1 s2 p0 p1 p2
     go_at_call 34
     refine (HDe.out _ (Only.refl _ _)).mono ?_
     rintro e w15 ⟨hq15, g3, c3, rfl, ho15⟩
     have HX15 := lh hq15
     have HG := lh ho15.ints
     clear hq15 ho15
     have HA16 := lh (Only.new w15 (.cells #[.int .i64 B2.W, .int .i64 B2.H, .slice (some ⟨g3, 0, none⟩) B2.pix.length c3] 24))
     have HRg := lh (heap_alloc_new w15 (.cells #[.int .i64 B2.W, .int .i64 B2.H, .slice (some ⟨g3, 0, none⟩) B2.pix.length c3] 24))
     go_upto_region 14 with (fail)
     generalize hW16 : World.alloc w15 _ = W16 at *
     clear hW16
     obtain ⟨VE, hVE⟩ : ∃ z, z = w15.heap.size := ⟨_, rfl⟩
     rw [← hVE] at HRg ⊢
     clear hVE
     have HX16 := lh (HX15.out.q HA16.out)
     have HQ16 := lh (HQ14.out.q HX16.out)
     have HKf := lh (fun (W : World) (o : Only [] W16 W) => kframe_any (A := B2) (B := B2) (HKq.out.2.quiet (HA14.out.q (HX16.out.q o))) (HG.out.quiet (HA16.out.q o)))
     rw [show frEq B2 B2 = true by unfold frEq; simp [eqB]] at HKf
     go_wp2_with fail
     go_at_call 11
     refine (HFi.out _ (HQ1.out.q HQ16.out)).mono ?_
     rintro e w17 ⟨rfl, hq17⟩
     have HX17 := lh hq17
     clear hq17
     obtain ⟨f0, f1', f2'⟩ := frame_cells ((HX16.out.q HX17.out).row HVg.out)
     obtain ⟨g0, g1, g2⟩ := frame_cells (HX17.out.row HRg.out)
     go_wp2_with fail
     go_at_call 17
     refine (HKf.out _ HX17.out).mono ?_
     rintro e w18 ⟨rfl, hq18⟩
     have HQ18 := lh (HQ16.out.q (HX17.out.q hq18))
     clear hq18 f0 f1' f2' g0 g1 g2
     go_wp2_with fail
     exact HPost.out _ _ ⟨rfl, HQ1.out.q HQ18.out⟩
end
theorem edrifts_card {sv pv : Value} {src prev : FrameD} {w : World} (hs : Ints .i64 0 w.heap.size w sv src.pix) (_ : InK .i64 src.W ∧ InK .i64 src.H) (hp : Ints .i64 0 w.heap.size w pv prev.pix) (_ : InK .i64 prev.W ∧ InK .i64 prev.H) (key : Bool) (c : Cfg) (most : Int) (_ : w.heap.size ≤ w.heap.size) (hE : ErrT w) :
  Calls Tryz.prog 10 #[.agg #[.int .i64 src.W, .int .i64 src.H, sv], .agg #[.int .i64 prev.W, .int .i64 prev.H, pv], .bool key, c.v, .int .i64 most] w fun e w' => e = .returned (.bool true) ∧ Only [] w w' := edrifts_any hs hp key most hE
end Go.Proofs.YtmgbbgffkakcaaaGreatDoor
/- EncodeDrifts of the encoder: for any arguments the law kinlaw22.EncodeDrifts answers true and leaves its arguments as they were (what is built beside a coded frame is what the decoder makes of it). Conditions: errors.errorType is laid as the program's text lays it (the card ties it). -/
namespace Go.Proofs.YtmgbbgffkakcaaaGreatDoor
open Go.ChangeShapes Go.WideShapes Go.ChangeAt Go.RowKit
set_option linter.unusedVariables false
set_option linter.unusedSimpArgs false
theorem encodeDrifts_lifted (os : Os) (started : os.Started) (H : Type) (enc : TypeId × Value → H) :
  ReturnsInHanded {} Tryz.checked os 10 .any (fun w args => (Rows.encodeDriftsSpec.pre enc Tryz.prog Tryz.f10 [] false w args ∧ laidMetH Tryz.prog laid1 w) ∧ sizedMet enc Tryz.prog Tryz.f10 (OpenSpec.ofChange Rows.encodeDriftsSpec) false w args)
   (Rows.encodeDriftsSpec.post enc Tryz.prog Tryz.f10 false true false false) := by
 refine returnsInHanded_of_change_and (C := Tryz.checked) (X := fun w _ => laidMetH Tryz.prog laid1 w) (fun _ _ _ hh h => h.of_heap hh) own_ started (by kernel_rfl) Tryz.func10
  (ChangeSpec.witness_at (enc := enc) (C := Tryz.checked) (os := os) (X := fun w _ => laidMetH Tryz.prog laid1 w) false (laidWorld os) #[.agg #[.int .i64 0, .int .i64 0, .slice none 0 0], .agg #[.int .i64 0, .int .i64 0, .slice none 0 0], .bool false, .agg #[.int .i64 0, .int .i64 0, .int .i64 0, .int .i64 0, .int .i64 0, .int .i64 0, .int .i64 0, .int .i64 0], .int .i64 0] 8 rfl (by kernel_rfl) (by kernel_rfl) (by kernel_rfl) (by kernel_rfl) (by kernel_rfl) (laidWorld_met os _)) ?_
 intro W base args ds gs before hval0 hW _ _ hL _
 have hval : ∀ (j : Nat) t v, Tryz.f10.params[j]? = some t → args[j]? = some v → Value.okWide Tryz.prog W .any base t v := hval0
 have hW' := hW
 obtain ⟨p, q, hA0, hV, rfl, hfz, hnd⟩ := hW
 have hA : DataW.TrodAll enc Tryz.prog W 0 (fun _ => true) true Tryz.f10.params.toList args.toList ds p := hA0
 rw [Tryz.params10] at hA hval
 obtain ⟨v0, vs0, d0, ds0, p0, q0, hargs, rfl, rfl, h0, r0⟩ := trodAll_cons hA
 obtain ⟨v1, vs1, d1, ds1, p1, q1, rfl, rfl, rfl, h1, r1⟩ := trodAll_cons r0
 obtain ⟨v2, vs2, d2, ds2, p2, q2, rfl, rfl, rfl, h2, r2⟩ := trodAll_cons r1
 obtain ⟨v3, vs3, d3, ds3, p3, q3, rfl, rfl, rfl, h3, r3⟩ := trodAll_cons r2
 obtain ⟨v4, vs4, d4, ds4, p4, q4, rfl, rfl, rfl, h4, r4⟩ := trodAll_cons r3
 obtain ⟨rfl, rfl, rfl⟩ := trodAll_nil r4
 obtain rfl : args = #[v0, v1, v2, v3, v4] := by cases args; simp_all
 obtain ⟨rfl, rfl⟩ := trodVars_none hV
 have k0 := h0
 have lt0 : ∀ x ∈ p0, x.block < W.heap.size := by obtain ⟨m, hm⟩ := k0; exact DataW.trod_lt m _ _ _ hm
 obtain ⟨f0, pv0, rfl, hk0, hd0⟩ := frame_in (hval 0 24 v0 rfl rfl) h0
 have k1 := h1
 have lt1 : ∀ x ∈ p1, x.block < W.heap.size := by obtain ⟨m, hm⟩ := k1; exact DataW.trod_lt m _ _ _ hm
 obtain ⟨f1, pv1, rfl, hk1, hd1⟩ := frame_in (hval 1 24 v1 rfl rfl) h1
 obtain ⟨n2, rfl, rfl, rfl⟩ := open_bool Tryz.underlying4 (hval 2 4 v2 rfl rfl) h2
 have k3 := h3
 have lt3 : ∀ x ∈ p3, x.block < W.heap.size := by obtain ⟨m, hm⟩ := k3; exact DataW.trod_lt m _ _ _ hm
 obtain ⟨c3, rfl⟩ := config_in (hval 3 47 v3 rfl rfl) h3
 obtain ⟨n4, rfl, rfl, rfl, w4⟩ := open_int Tryz.underlying3 (hval 4 3 v4 rfl rfl) h4
 clear hA0 hval0
 simp only [List.append_nil] at hW'
 refine (edrifts_card hd0 hk0 hd1 hk1 n2 c3 n4 (Nat.le_refl _) (errT_of_laid hL)).mono fun e W' ⟨he, hq⟩ => ?_
 subst he
 have bel := hq.quiet
 exact ⟨_, rfl, _, _, _, [], _, [], hW', trodAll_mk1 (shut_bool Tryz.underlying4 _), (trodAll_cons_mk (Below.trod laidOut_ (by kernel_rfl) (of_decide_eq_true (by kernel_rfl)) k0 bel lt0) (trodAll_cons_mk (Below.trod laidOut_ (by kernel_rfl) (of_decide_eq_true (by kernel_rfl)) k1 bel lt1) (trodAll_cons_mk (shut_bool Tryz.underlying4 _) (trodAll_cons_mk (Below.trod laidOut_ (by kernel_rfl) (of_decide_eq_true (by kernel_rfl)) k3 bel lt3) (trodAll_cons_mk (shut_int Tryz.underlying3 w4) trodAll_mk0))))), rfl, bel.frame _, fun h => by cases h⟩
theorem encodeDrifts_row : Rows.EncodeDriftsSaid :=
 OpenClaim.holds_of_wide 10 Tryz.f10 rfl rfl rfl rfl rfl rfl rfl ⟨rfl, rfl, rfl, rfl, rfl⟩ rfl rfl rfl rfl rfl (by kernel_rfl) Tryz.func10 (by kernel_rfl)
  (of_decide_eq_true (by kernel_rfl)) (by unfold Func.isWrapper; first | (rw [if_pos (by decide +kernel)]; kernel_rfl) | (rw [if_neg (by decide +kernel)]; exact ⟨rfl, rfl⟩))
  (fun os started H enc _ => encodeDrifts_lifted os started H enc)
theorem encodeDrifts_holds : Rows.EncodeDriftsCardSaid :=
 Claim7.holds_tied_plain_at .later [] [.handle] true _ true
  encodeDrifts_row (fun _ h => by cases h) (by kernel_rfl) (fun _ h => by cases h) encodeDrifts_row_tie rfl ⟨rfl, rfl⟩ (by kernel_rfl) rfl
  (fun f fn hf hfn => by
   obtain rfl : f = 10 := Option.some.inj ((show Tryz.prog.funcNamed "kinescope/kinlaw22.EncodeDrifts" = some 10 by kernel_rfl).symm.trans hf) |>.symm
   obtain rfl : fn = Tryz.f10 := (Option.some.inj (Tryz.func10.symm.trans hfn)).symm
   exact ⟨by kernel_rfl, fun j t ht => by
    rw [Tryz.params10] at ht
    have hm : t ∈ [24, 24, 4, 47, 3] := by simpa using Array.mem_of_getElem? ht
    have hall : ([24, 24, 4, 47, 3].all fun u => !Tryz.prog.wantsStandIn u) = true := by kernel_rfl
    exact (show Tryz.prog.wantsStandIn t = false by simpa using List.all_eq_true.1 hall t hm)⟩)
  (by kernel_rfl)
end Go.Proofs.YtmgbbgffkakcaaaGreatDoor
