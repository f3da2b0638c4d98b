/- Joined texts: ECosW, ECosC. Conditions: each part names its own. -/
import Derived.Test.YtmgbbgffkakcaaaGreatDoorT1
import Derived.Test.YtmgbbgffkakcaaaGreatDoorZEFs2
import Derived.Test.YtmgbbgffkakcaaaGreatDoorF4
import Derived.Deep.DeepCutAuto
import Derived.Test.YtmgbbgffkakcaaaGreatDoorF3
import Derived.Test.YtmgbbgffkakcaaaGreatDoorTie
import Derived.Test.YtmgbbgffkakcaaaGreatDoorCards
import Derived.SevenTiedAt
set_option maxRecDepth 100000
set_option maxHeartbeats 16000000
namespace Go.Proofs.YtmgbbgffkakcaaaGreatDoor
open Go.RowKit
set_option linter.unusedVariables false
set_option linter.unusedSimpArgs false
theorem qECosWt0 {p : Prop} (h : p := by intro wz hSw; obtain ⟨hS0, hS1, hS2⟩ := hSw; obtain ⟨c0, c1, -⟩ := row2 hS0; obtain ⟨k0, k1, k2, k3, k4, k5, k6, k7⟩ := cfg_cells hS2; go_simp; try with_reducible rfl) : p := h
section
theorem newF_within {W H : Int} : withinB (newF W H 128).pix 128 128 = true := by
 unfold withinB newF
 simp only
 rw [List.all_eq_true]
 intro x hx
 have := (List.mem_replicate.1 hx).2
 subst this
 decide
theorem ecosts_any {sv pv : Value} {src prev : FrameD} {a0 a1 a2 a3 a4 a5 a6 a7 : Int} {w : World} (hs : Ints .i64 0 w.heap.size w sv src.pix) (hp : Ints .i64 0 w.heap.size w pv prev.pix) (key : Bool) (most : Int) (hE : ErrT w) :
  Calls Tryz.prog 5 #[.agg #[.int .i64 src.W, .int .i64 src.H, sv], .agg #[.int .i64 prev.W, .int .i64 prev.H, pv], .bool key, .agg #[.int .i64 a0, .int .i64 a1, .int .i64 a2, .int .i64 a3, .int .i64 a4, .int .i64 a5, .int .i64 a6, .int .i64 a7], .int .i64 most] w fun e w' => e = .returned (.bool true) ∧ Only [] w w' := by
 refine hidQ fun Q HPost => ?_
 have HFi := lh (fun (W : World) (o : Only [] w W) => first_any W (hE.quiet o))
 have HFt := lh (fun (W : World) (o : Only [] w W) => fitq_any (src := src) (prev := prev) key (⟨a0, a1, a2, a3, a4, a5, a6, a7⟩ : Cfg) most (hs.quiet o) (hp.quiet o) o.size o.size)
 have HFr := lh (fun (W : World) (q : Int) (o : Only [] w W) => encq_any (src := src) (prev := prev) key q a2 (hs.quiet o) (hp.quiet o) o.size o.size)
 have HPx' := lh (fun (W : World) (o : Only [] w W) => pix_any (frames_two (hs.quiet o) (hp.quiet o)))
 have HLi := lh (fun (W : World) => light_any (⟨a0, a1, a2, a3, a4, a5, a6, a7⟩ : Cfg) src.W src.H 1 W)
 unfold Cfg.v at HFt HLi
 simp only at HFt HLi
 have HP := lh (And.intro hs hp)
 generalize hFC : fitC src prev key (⟨a0, a1, a2, a3, a4, a5, a6, a7⟩ : Cfg) most = C at *
 generalize hFB : fitB src prev key (⟨a0, a1, a2, a3, a4, a5, a6, a7⟩ : Cfg) most = B at *
 generalize hFV : fitV src prev key (⟨a0, a1, a2, a3, a4, a5, a6, a7⟩ : Cfg) most = V at *
 have HFD := lh (And.intro hFC (And.intro hFB hFV))
 clear hFC hFB hFV
 generalize pixB [src, prev] = PXB at *
 obtain ⟨sa, sc, rfl, -⟩ := hs.open
 obtain ⟨pa, pc, rfl, -⟩ := hp.open
 clear hs hp hE
 obtain ⟨hb1, HS1, HP1, HK1, -⟩ := boxes3 w (.cells #[.int .i64 src.W, .int .i64 src.H, .slice sa src.pix.length sc] 24) (.cells #[.int .i64 prev.W, .int .i64 prev.H, .slice pa prev.pix.length pc] 24) (.cells #[.int .i64 a0, .int .i64 a1, .int .i64 a2, .int .i64 a3, .int .i64 a4, .int .i64 a5, .int .i64 a6, .int .i64 a7] 47)
 have HQ1 := lh hb1
 clear hb1
 go_enter Tryz.func5, Tryz.ntmps5
 go_wp2_with fail
 generalize hW1 : World.alloc (World.alloc (World.alloc w _) _) _ = W1 at *
 clear hW1
 go_at_call 11
 refine (HFi.out _ HQ1.out).mono ?_
 rintro e w2 ⟨rfl, hq2⟩
 have HQ2 := lh hq2
 clear hq2
 obtain ⟨s0, s1, s2⟩ := frame_cells (HQ2.out.row HS1.out)
 obtain ⟨p0, p1, p2⟩ := frame_cells (HQ2.out.row HP1.out)
 obtain ⟨k0, k1, k2, k3, k4, k5, k6, k7⟩ := cfg_cells (HQ2.out.row HK1.out)
 have HOn := lh (Only.new w2 (.cells #[.int .i64 src.W, .int .i64 src.H, .slice sa src.pix.length sc, .int .i64 prev.W, .int .i64 prev.H, .slice pa prev.pix.length pc] 24))
 have HPx := lh (HPx'.out _ (HQ1.out.q HQ2.out))
 go_wp2_with fail
 generalize hW3 : World.alloc w2 _ = W3 at *
 clear hW3 HPx'
 clear s0 s1 s2 p0 p1 p2 k0 k1 k2 k3 k4 k5 k6 k7
 have HQ3 := lh (HQ2.out.q HOn.out)
 go_at_call 19
 refine HPx.out.mono ?_
 rintro e w4 ⟨rfl, hw4⟩
 subst hw4
 cases PXB with
 | false =>
  go_wp2_with fail
  go_at_call 11
  refine (HFi.out _ (HQ1.out.q HQ3.out)).mono ?_
  rintro e w5 ⟨rfl, hq5⟩
  have HQ5 := lh (HQ3.out.q hq5)
  clear hq5
  go_wp2_with fail
  exact HPost.out _ _ ⟨rfl, HQ1.out.q HQ5.out⟩
 | true =>
  obtain ⟨s0, s1, s2⟩ := frame_cells (HQ3.out.row HS1.out)
  obtain ⟨p0, p1, p2⟩ := frame_cells (HQ3.out.row HP1.out)
  obtain ⟨k0, k1, k2, k3, k4, k5, k6, k7⟩ := cfg_cells (HQ3.out.row HK1.out)
  go_wp2_with fail
  clear s0 s1 s2 p0 p1 p2 k0 k1 k2 k3 k4 k5 k6 k7
  go_at_call 20
  refine (HLi.out _).mono ?_
  rintro e w5 ⟨⟨b, rfl⟩, hq5⟩
  have HQ5 := lh (HQ3.out.q hq5)
  clear hq5
  cases b with
  | false =>
   go_wp2_with fail
   go_at_call 11
   refine (HFi.out _ (HQ1.out.q HQ5.out)).mono ?_
   rintro e w6 ⟨rfl, hq6⟩
   have HQ6 := lh (HQ5.out.q hq6)
   clear hq6
   go_wp2_with fail
   exact HPost.out _ _ ⟨rfl, HQ1.out.q HQ6.out⟩
  | true =>
   obtain ⟨s0, s1, s2⟩ := frame_cells (HQ5.out.row HS1.out)
   obtain ⟨p0, p1, p2⟩ := frame_cells (HQ5.out.row HP1.out)
   obtain ⟨k0, k1, k2, k3, k4, k5, k6, k7⟩ := cfg_cells (HQ5.out.row HK1.out)
   go_wp2_with fail
   clear s0 s1 s2 p0 p1 p2 k0 k1 k2 k3 k4 k5 k6 k7
   go_at_call 21
   refine (HFt.out _ (HQ1.out.q HQ5.out)).mono ?_
   rintro e w6 ⟨hq6, d1, n1, f1, m1, rfl, hk1⟩
   have HQ6 := lh (HQ5.out.q hq6)
   have HK := lh hk1
   clear hq6 hk1 HPx HLi HOn
   obtain ⟨hb8, HVc, HVf, -⟩ := boxes2 w6 (.cells #[.int .i64 C.kind, .slice d1 C.data.length n1] 31) (.cells #[.int .i64 B.W, .int .i64 B.H, .slice f1 B.pix.length m1] 24)
   have HA8 := lh hb8
   clear hb8
   go_upto_region 6 with (fail)
   generalize hW8 : World.alloc (World.alloc w6 _) _ = W8 at *
   clear hW8
   obtain ⟨VC, hVC⟩ : ∃ z, z = w6.heap.size := ⟨_, rfl⟩
   rw [← hVC] at HVc HVf ⊢
   clear hVC
   have HQ8 := lh (HQ6.out.q HA8.out)
   rcases fit_cases src prev key (⟨a0, a1, a2, a3, a4, a5, a6, a7⟩ : Cfg) most with ⟨kk, hV, hC, hB, hbad⟩ | ⟨hV, hok⟩
   ·obtain ⟨-, -, h3⟩ := HFD.out
    rw [hV] at h3
    subst h3
    clear hV hC hB
    have HBad := lh hbad
    have HMy := lh (fun (W : World) => may_any (⟨a0, a1, a2, a3, a4, a5, a6, a7⟩ : Cfg) W)
    have HMa := lh (fun (W : World) (o : Only [] w W) => pmay_any src.W src.H (HP.out.1.quiet o))
    rw [show (⟨src.W, src.H, src.pix⟩ : FrameD) = src from rfl] at HMa
    unfold Cfg.v at HMy
    simp only at HMy
    generalize mayB (⟨a0, a1, a2, a3, a4, a5, a6, a7⟩ : Cfg) = MB at *
    generalize mayF src = MF at *
    go_wp2_with fail
    go_at_call 11
    refine (HFi.out _ (HQ1.out.q HQ8.out)).mono ?_
    rintro e w9 ⟨rfl, hq9⟩
    have HQ9 := lh (HQ8.out.q hq9)
    clear hq9
    obtain ⟨s0, s1, s2⟩ := frame_cells (HQ9.out.row HS1.out)
    obtain ⟨p0, p1, p2⟩ := frame_cells (HQ9.out.row HP1.out)
    obtain ⟨k0, k1, k2, k3, k4, k5, k6, k7⟩ := cfg_cells (HQ9.out.row HK1.out)
    go_wp2_with fail
    clear s0 s1 s2 p0 p1 p2 k0 k1 k2 k3 k4 k5 k6 k7
    go_at_call 23
    refine (HMy.out _).mono ?_
    rintro e w10 ⟨rfl, hq10⟩
    have HQ10 := lh (HQ9.out.q hq10)
    clear hq10
    cases MB with
    | false =>
     go_wp2_with fail
     exact HPost.out _ _ ⟨rfl, HQ1.out.q HQ10.out⟩
    | true =>
     by_cases hm : most < 8
     ·go_wp2_with fail
      exact HPost.out _ _ ⟨rfl, HQ1.out.q HQ10.out⟩
     ·have hbad := HBad.out
      clear HBad
      have HBad : Hid (MF = false ∨ key = false) := lh (by rcases hbad with h | h | h; cases h; omega; exact h)
      clear hbad
      obtain ⟨s0, s1, s2⟩ := frame_cells (HQ10.out.row HS1.out)
      obtain ⟨p0, p1, p2⟩ := frame_cells (HQ10.out.row HP1.out)
      obtain ⟨k0, k1, k2, k3, k4, k5, k6, k7⟩ := cfg_cells (HQ10.out.row HK1.out)
      go_wp2_with fail
      clear s0 s1 s2 p0 p1 p2 k0 k1 k2 k3 k4 k5 k6 k7
      go_at_call 24
      refine (HMa.out _ (HQ1.out.q HQ10.out)).mono ?_
      rintro e w11 ⟨rfl, hq11⟩
      have HQ11 := lh (HQ10.out.q hq11)
      clear hq11
      cases MF with
      | false =>
       go_wp2_with fail
       exact HPost.out _ _ ⟨rfl, HQ1.out.q HQ11.out⟩
      | true =>
       obtain rfl : key = false := by rcases HBad.out with h | h; cases h; exact h
       go_wp2_with fail
       exact HPost.out _ _ ⟨rfl, HQ1.out.q HQ11.out⟩
   ·obtain ⟨h1, h2, h3⟩ := HFD.out
    rw [hV] at h3
    rw [h1, h2] at hok
    subst h3
    clear hV h1 h2
    have HOK := lh hok
    obtain ⟨co, hco⟩ : ∃ z : Int, z = (C.data.length : Int) + 8 := ⟨_, rfl⟩
    have HCo := lh (fun (W : World) (o : Only [] W8 W) => cost_any (k := C.kind) (HK.out.1.quiet (HA8.out.q o)) (by have := HOK.out.len; omega))
    rw [← hco] at HCo
    have HMb := lh (fun (W : World) (o : Only [] W8 W) => pmay_any B.W B.H (HK.out.2.quiet (HA8.out.q o)))
    rw [show (⟨B.W, B.H, B.pix⟩ : FrameD) = B from rfl, mayF_iff.2 HOK.out.ok] at HMb
    have hc1 : ¬ most < co := by have := HOK.out.fit; omega
    have hc2 : ¬ co < 8 := by omega
    clear hco
    obtain ⟨c0, c1, -⟩ := row2 HVc.out
    go_wp2_with fail
    clear c0 c1
    go_at_call 25
    refine (HCo.out _ (Only.refl _ _)).mono ?_
    rintro e w9 ⟨rfl, hq9⟩
    have HX9 := lh hq9
    clear hq9
    obtain ⟨c0, c1, -⟩ := row2 (HX9.out.row HVc.out)
    go_wp2_with fail
    clear c0 c1
    go_at_call 25
    refine (HCo.out _ HX9.out).mono ?_
    rintro e w10 ⟨rfl, hq10⟩
    have HX10 := lh (HX9.out.q hq10)
    clear hq10
    obtain ⟨f0, f1', f2⟩ := frame_cells (HX10.out.row HVf.out)
    go_wp2_with fail
    clear f0 f1' f2
    go_at_call 24
    refine (HMb.out _ HX10.out).mono ?_
    rintro e w11 ⟨rfl, hq11⟩
    have HX11 := lh (HX10.out.q hq11)
    clear hq11 HCo HMb
    go_upto_region 10 with (fail)
    clear hc1 hc2
    go_cut [106] (fun s106 wx => s106 = .bool false ∧ Hid (Only [] W8 wx))
    case first =>
     have HC1 := HX11.out.row HVc.out
     have HF1 := HX11.out.row HVf.out
     obtain ⟨p0, p1, p2⟩ := frame_cells ((HQ8.out.q HX11.out).row HP1.out)
     rcases HOK.out.how with ⟨q, -, -, hc, hC, -⟩ | ⟨⟨rfl, rfl, hB⟩ | ⟨rfl, rfl, rfl⟩, -⟩
     ·have hk : C.kind = if key then 1 else 2 := by rw [hC]; rfl
      rw [hk] at HC1
      obtain ⟨c0, c1, -⟩ := row2 HC1
      clear HC1 HF1 hc hC hk p0 p1 p2
      cases key with
      | true =>
       simp only [if_true] at c0
       go_wp2_with fail
       go_meet
       exact ⟨rfl, HX11⟩
      | false =>
       simp only [Bool.false_eq_true, if_false] at c0
       go_wp2_with fail
       go_meet
       exact ⟨rfl, HX11⟩
     ·have HWi := lh (within_any (x := 128) (y := 128) (HK.out.2.quiet (HA8.out.q HX11.out)))
      have hwi : withinB B.pix 128 128 = true := by rw [hB]; exact newF_within
      rw [hwi] at HWi
      obtain ⟨c0, c1, -⟩ := row2 HC1
      obtain ⟨f0, f1', f2⟩ := frame_cells HF1
      clear HC1 HF1 hB hwi p0 p1 p2
      go_wp2_with fail
      go_at_call 26
      refine HWi.out.mono ?_
      rintro e w12 ⟨rfl, hw12⟩
      subst hw12
      go_wp2_with fail
      go_meet
      exact ⟨rfl, HX11⟩
     ·have HKf := lh (kframe_any (A := B) (B := B) (HK.out.2.quiet (HA8.out.q HX11.out)) (HP.out.2.quiet (HQ1.out.q (HQ8.out.q HX11.out))))
      rw [show frEq B B = true by unfold frEq; simp [eqB]] at HKf
      obtain ⟨c0, c1, -⟩ := row2 HC1
      obtain ⟨f0, f1', f2⟩ := frame_cells HF1
      clear HC1 HF1
      go_wp2_with fail
      go_at_call 17
      refine HKf.out.mono ?_
      rintro e w12 ⟨rfl, hq12⟩
      have HX12 := lh (HX11.out.q hq12)
      go_wp2_with fail
      go_meet
      exact ⟨rfl, HX12⟩
    case rest =>
     obtain ⟨rfl, HX11'⟩ := hcut
     obtain ⟨W12, hW12⟩ : ∃ z, z = wc := ⟨_, rfl⟩
     subst hW12
     have HX12 := HX11'
     clear HX11 HX11'
     have HQ12 := lh (HQ8.out.q HX12.out)
     have HFi12 := lh (fun (W : World) (o : Only [] W12 W) => HFi.out W (HQ1.out.q (HQ12.out.q o)))
     have HVc12 := lh (HX12.out.row HVc.out)
     rcases HOK.out.how with ⟨q, hq0, hq1, hc, hC, -⟩ | ⟨hf, hall⟩
     ·simp only at hq0 hq1 hc hC
      have hk : ¬ 2 < C.kind := by rw [hC]; unfold codedE; simp only; cases key <;> decide
      have hl : 0 < C.data.length := by rw [hC]; simp [codedE]
      have hd : C.data.getD 0 0 = q := by rw [hC]; rfl
      obtain ⟨gd, od, cap, hsl, -, -, hcd⟩ := (HK.out.1.quiet (HA8.out.q HX12.out)).at hl
      obtain ⟨rfl, rfl⟩ : d1 = some ⟨gd, od, none⟩ ∧ n1 = cap := by injection hsl with h1 h2 h3; exact ⟨h1, h3⟩
      rw [Nat.add_zero, hd] at hcd
      have HCd := lh hcd
      have hli : (0 : Int) < (C.data.length : Int) := by omega
      have hq15 : 0 ≤ q ∧ q ≤ 15 := by obtain ⟨-, -, h1, h2, -⟩ := checkE_none hc; exact ⟨h1, h2⟩
      have hwq : IntKind.i64.wrap q = q := by rw [IntKind.wrap_i64]; omega
      have HS20 : Hid (∀ wx : World, Only [] W12 wx → wx.heap[VC]? = some (.cells #[.int .i64 C.kind, .slice (some ⟨gd, od, none⟩) C.data.length n1] 31 (0, 0)) ∧ wx.cell? ⟨gd, od, none⟩ = some (.int .u8 q) ∧ wx.heap[w.heap.size + 1 + 1]? = some (.cells #[.int .i64 a0, .int .i64 a1, .int .i64 a2, .int .i64 a3, .int .i64 a4, .int .i64 a5, .int .i64 a6, .int .i64 a7] 47 (0, 0))) := lh (fun wx o => ⟨o.row HVc12.out, o.cell HCd.out (by simp), (HQ12.out.q o).row HK1.out⟩)
      obtain ⟨c0, c1, -⟩ := row2 HVc12.out
      clear hc hC hd hsl hcd
      go_upto_region 20 with (fail)
      clear c0 c1
      have x0 := lh (Only.refl [] W12)
      refine wp_region_held_drew (S := (fun wz => wz.heap[VC]? = some (.cells #[.int .i64 C.kind, .slice (some ⟨gd, od, none⟩) C.data.length n1] 31 (0, 0)) ∧ wz.cell? ⟨gd, od, none⟩ = some (.int .u8 q) ∧ wz.heap[w.heap.size + 1 + 1]? = some (.cells #[.int .i64 a0, .int .i64 a1, .int .i64 a2, .int .i64 a3, .int .i64 a4, .int .i64 a5, .int .i64 a6, .int .i64 a7] 47 (0, 0)))) (by kernel_rfl) ?_ (fun hHeld => ?_)
      ·exact HS20.out _ (by first | exact x0.out | exact x0.out.drew)
      refine rdy (rdc 0 138 (fun K hK => ?_) .nil)
      go_simp
      go_at_call 11
      refine (HFi12.out _ (by first | exact x0.out | exact x0.out.drew)).mono ?_
      rintro e y1 ⟨rfl, hq⟩
      have x1 : Hid (Only [] W12 y1) := lh (by first | exact x0.out.q hq | exact x0.out.drew.q hq)
      clear hq
      refine hK.out _ _ ?_ (fun hHeld => ?_)
      ·exact HS20.out _ (by first | exact x1.out | exact x1.out.drew)
      clear hK K
      try simp only [Act.put, List.setIfInBounds_toArray, List.set_cons_zero, List.set_cons_succ]
      refine tkw 1 139 ⟨rfl, qECosWt0⟩ ?_
      refine tkw 2 140 ⟨rfl, qECosWt0⟩ ?_
      refine tkw 3 141 ⟨rfl, qECosWt0⟩ ?_
      refine tkw 4 142 ⟨rfl, qECosWt0⟩ ?_
      refine tkw 5 143 ⟨rfl, qECosWt0⟩ ?_
      refine tkw 6 144 ⟨rfl, qECosWt0⟩ ?_
      refine tkw 7 145 ⟨rfl, qECosWt0⟩ ?_
      refine tkw 8 146 ⟨rfl, qECosWt0⟩ ?_
      refine tkw 9 147 ⟨rfl, qECosWt0⟩ ?_
      refine tkw 10 148 ⟨rfl, qECosWt0⟩ ?_
      refine tkw 11 149 ⟨rfl, qECosWt0⟩ ?_
      refine tkw 12 150 ⟨rfl, qECosWt0⟩ ?_
      refine tkw 13 151 ⟨rfl, qECosWt0⟩ ?_
      refine tkw 14 152 ⟨rfl, qECosWt0⟩ ?_
      refine tkw 15 153 ⟨rfl, qECosWt0⟩ ?_
      refine tkw 16 154 ⟨rfl, qECosWt0⟩ ?_
      refine tkw 17 155 ⟨rfl, qECosWt0⟩ ?_
      refine tkw 18 156 ⟨rfl, qECosWt0⟩ ?_
      refine tkw 19 157 ⟨rfl, qECosWt0⟩ ?_
      refine tkw 20 158 ⟨rfl, qECosWt0⟩ ?_
      refine tkw 21 10 ⟨rfl, qECosWt0⟩ ?_
      refine wpAnyH_done (by kernel_rfl) ?_ _
      go_wp2_with fail
      exact HPost.out _ _ ⟨rfl, by first | exact HQ1.out.q (HQ12.out.q x1.out) | exact HQ1.out.q (HQ12.out.q x1.out.drew)⟩
     ·simp only at hall
      have hk : 2 < C.kind := by rcases hf with ⟨-, rfl, -⟩ | ⟨-, rfl, -⟩ <;> decide
      have HAll := lh hall
      have HB := lh (mayB_in HOK.out.may)
      simp only at HB
      obtain ⟨c0, c1, -⟩ := row2 HVc12.out
      obtain ⟨k0, k1, k2, k3, k4, k5, k6, k7⟩ := cfg_cells (HQ12.out.row HK1.out)
      clear hf hall
      go_wp2_with fail
      clear c0 c1 k0 k1 k2 k3 k4 k5 k6 k7 hk
      go_loopw [14] (fun qv wr => ∃ q : Int, qv = .int .i64 q ∧ Hid (a0 ≤ q ∧ q ≤ a1 + 1) ∧ Hid (Only [] W12 wr)) (fun qv _ => (16 - intOf qv).toNat)
      case atStart => exact ⟨a0, rfl, lh (by have := HB.out; omega), lh (Only.refl _ _)⟩
      case round =>
       obtain ⟨q, rfl, Hq, HQr⟩ := hrel
       by_cases hlq : q ≤ a1
       ·have hq16 : IntKind.i64.wrap (q + 1) = q + 1 := by rw [IntKind.wrap_i64]; have := Hq.out; have := HB.out; omega
        obtain ⟨hck, hmo⟩ := HAll.out q Hq.out.1 hlq
        have hln := coded_len hck
        have HFrx := HFr.out wr q (HQ1.out.q (HQ12.out.q HQr.out))
        rw [(enc_at hck).1, (enc_at hck).2, hck] at HFrx
        simp only [codeV] at HFrx
        obtain ⟨co, hco⟩ : ∃ z : Int, z = ((codedE src prev key q a2.toNat).data.length : Int) + 8 := ⟨_, rfl⟩
        have hmo2 : ¬ co ≤ most := by omega
        have HCo : Hid (∀ (W : World) (lo hi : Nat) (v : Value), Ints .u8 lo hi W v (codedE src prev key q a2.toNat).data → Calls Tryz.prog 25 #[.agg #[.int .i64 (codedE src prev key q a2.toNat).kind, v]] W fun e w' => e = .returned (.int .i64 co) ∧ Only [] W w') := lh (fun W lo hi v h => by rw [hco]; exact cost_any h (by omega))
        clear hck hmo hln hco
        generalize codedE src prev key q a2.toNat = CQ at *
        generalize (encF src prev key q a2.toNat).1 = BQ at *
        have HFrX := lh HFrx
        clear HFrx
        have HQ12r := lh (HQ12.out.q HQr.out)
        obtain ⟨s0, s1, s2⟩ := frame_cells (HQ12r.out.row HS1.out)
        obtain ⟨p0, p1, p2⟩ := frame_cells (HQ12r.out.row HP1.out)
        obtain ⟨k0, k1, k2, k3, k4, k5, k6, k7⟩ := cfg_cells (HQ12r.out.row HK1.out)
        go_wp2_with fail
        clear s0 s1 s2 p0 p1 p2 k0 k1 k2 k3 k4 k5 k6 k7
        go_at_call 14
        refine HFrX.out.mono ?_
        rintro e w13 ⟨hq13, d3, n3, f3, m3, rfl, hk3⟩
        have HQ13 := lh hq13
        have HKq := lh hk3
        clear hq13 hk3
        obtain ⟨hb14, HVd, HVg, -⟩ := boxes2 w13 (.cells #[.int .i64 CQ.kind, .slice d3 CQ.data.length n3] 31) (.cells #[.int .i64 BQ.W, .int .i64 BQ.H, .slice f3 BQ.pix.length m3] 24)
        have HA14 := lh hb14
        clear hb14
        go_upto_region 17 with (fail)
        generalize hW14 : World.alloc (World.alloc w13 _) _ = w14 at *
        clear hW14
        obtain ⟨c0, c1, -⟩ := row2 HVd.out
        go_wp2_with fail
        clear c0 c1
        go_at_call 25
        refine (HCo.out _ _ _ _ (HKq.out.1.quiet HA14.out)).mono ?_
        rintro e w15 ⟨rfl, hq15⟩
        have HQ15 := lh (HQr.out.q (HQ13.out.q (HA14.out.q hq15)))
        clear hq15
        go_wp2_with fail
        exact ⟨⟨q + 1, rfl, lh (by have := Hq.out; omega), HQ15⟩, by simp [intOf]; have := Hq.out; have := HB.out; omega⟩
       ·obtain ⟨k0, k1, k2, k3, k4, k5, k6, k7⟩ := cfg_cells ((HQ12.out.q HQr.out).row HK1.out)
        go_wp2_with fail
        go_at_call 11
        refine (HFi12.out _ HQr.out).mono ?_
        rintro e w13 ⟨rfl, hq13⟩
        have HQ13 := lh (HQ12.out.q (HQr.out.q hq13))
        clear hq13
        go_wp2_with fail
        exact HPost.out _ _ ⟨rfl, HQ1.out.q HQ13.out⟩
end
theorem ecosts_card {sv pv : Value} {src prev : FrameD} {w : World} (hs : Ints .i64 0 w.heap.size w sv src.pix) (_ : InK .i64 src.W ∧ InK .i64 src.H) (hp : Ints .i64 0 w.heap.size w pv prev.pix) (_ : InK .i64 prev.W ∧ InK .i64 prev.H) (key : Bool) (c : Cfg) (most : Int) (_ : w.heap.size ≤ w.heap.size) (hE : ErrT w) :
  Calls Tryz.prog 5 #[.agg #[.int .i64 src.W, .int .i64 src.H, sv], .agg #[.int .i64 prev.W, .int .i64 prev.H, pv], .bool key, c.v, .int .i64 most] w fun e w' => e = .returned (.bool true) ∧ Only [] w w' := ecosts_any hs hp key most hE
end Go.Proofs.YtmgbbgffkakcaaaGreatDoor
/- EncodeCosts of the encoder: for any arguments the law kinlaw22.EncodeCosts answers true and leaves its arguments as they were (what is fitted costs no more than it may). Conditions: errors.errorType is laid as the program's text lays it (the card ties it). -/
namespace Go.Proofs.YtmgbbgffkakcaaaGreatDoor
open Go.ChangeShapes Go.WideShapes Go.ChangeAt Go.RowKit
set_option linter.unusedVariables false
set_option linter.unusedSimpArgs false
theorem encodeCosts_lifted (os : Os) (started : os.Started) (H : Type) (enc : TypeId × Value → H) :
  ReturnsInHanded {} Tryz.checked os 5 .any (fun w args => (Rows.encodeCostsSpec.pre enc Tryz.prog Tryz.f5 [] false w args ∧ laidMetH Tryz.prog laid1 w) ∧ sizedMet enc Tryz.prog Tryz.f5 (OpenSpec.ofChange Rows.encodeCostsSpec) false w args)
   (Rows.encodeCostsSpec.post enc Tryz.prog Tryz.f5 false true false false) := by
 refine returnsInHanded_of_change_and (C := Tryz.checked) (X := fun w _ => laidMetH Tryz.prog laid1 w) (fun _ _ _ hh h => h.of_heap hh) own_ started (by kernel_rfl) Tryz.func5
  (ChangeSpec.witness_at (enc := enc) (C := Tryz.checked) (os := os) (X := fun w _ => laidMetH Tryz.prog laid1 w) false (laidWorld os) #[.agg #[.int .i64 0, .int .i64 0, .slice none 0 0], .agg #[.int .i64 0, .int .i64 0, .slice none 0 0], .bool false, .agg #[.int .i64 0, .int .i64 0, .int .i64 0, .int .i64 0, .int .i64 0, .int .i64 0, .int .i64 0, .int .i64 0], .int .i64 0] 8 rfl (by kernel_rfl) (by kernel_rfl) (by kernel_rfl) (by kernel_rfl) (by kernel_rfl) (laidWorld_met os _)) ?_
 intro W base args ds gs before hval0 hW _ _ hL _
 have hval : ∀ (j : Nat) t v, Tryz.f5.params[j]? = some t → args[j]? = some v → Value.okWide Tryz.prog W .any base t v := hval0
 have hW' := hW
 obtain ⟨p, q, hA0, hV, rfl, hfz, hnd⟩ := hW
 have hA : DataW.TrodAll enc Tryz.prog W 0 (fun _ => true) true Tryz.f5.params.toList args.toList ds p := hA0
 rw [Tryz.params5] at hA hval
 obtain ⟨v0, vs0, d0, ds0, p0, q0, hargs, rfl, rfl, h0, r0⟩ := trodAll_cons hA
 obtain ⟨v1, vs1, d1, ds1, p1, q1, rfl, rfl, rfl, h1, r1⟩ := trodAll_cons r0
 obtain ⟨v2, vs2, d2, ds2, p2, q2, rfl, rfl, rfl, h2, r2⟩ := trodAll_cons r1
 obtain ⟨v3, vs3, d3, ds3, p3, q3, rfl, rfl, rfl, h3, r3⟩ := trodAll_cons r2
 obtain ⟨v4, vs4, d4, ds4, p4, q4, rfl, rfl, rfl, h4, r4⟩ := trodAll_cons r3
 obtain ⟨rfl, rfl, rfl⟩ := trodAll_nil r4
 obtain rfl : args = #[v0, v1, v2, v3, v4] := by cases args; simp_all
 obtain ⟨rfl, rfl⟩ := trodVars_none hV
 have k0 := h0
 have lt0 : ∀ x ∈ p0, x.block < W.heap.size := by obtain ⟨m, hm⟩ := k0; exact DataW.trod_lt m _ _ _ hm
 obtain ⟨f0, pv0, rfl, hk0, hd0⟩ := frame_in (hval 0 24 v0 rfl rfl) h0
 have k1 := h1
 have lt1 : ∀ x ∈ p1, x.block < W.heap.size := by obtain ⟨m, hm⟩ := k1; exact DataW.trod_lt m _ _ _ hm
 obtain ⟨f1, pv1, rfl, hk1, hd1⟩ := frame_in (hval 1 24 v1 rfl rfl) h1
 obtain ⟨n2, rfl, rfl, rfl⟩ := open_bool Tryz.underlying4 (hval 2 4 v2 rfl rfl) h2
 have k3 := h3
 have lt3 : ∀ x ∈ p3, x.block < W.heap.size := by obtain ⟨m, hm⟩ := k3; exact DataW.trod_lt m _ _ _ hm
 obtain ⟨c3, rfl⟩ := config_in (hval 3 47 v3 rfl rfl) h3
 obtain ⟨n4, rfl, rfl, rfl, w4⟩ := open_int Tryz.underlying3 (hval 4 3 v4 rfl rfl) h4
 clear hA0 hval0
 simp only [List.append_nil] at hW'
 refine (ecosts_card hd0 hk0 hd1 hk1 n2 c3 n4 (Nat.le_refl _) (errT_of_laid hL)).mono fun e W' ⟨he, hq⟩ => ?_
 subst he
 have bel := hq.quiet
 exact ⟨_, rfl, _, _, _, [], _, [], hW', trodAll_mk1 (shut_bool Tryz.underlying4 _), (trodAll_cons_mk (Below.trod laidOut_ (by kernel_rfl) (of_decide_eq_true (by kernel_rfl)) k0 bel lt0) (trodAll_cons_mk (Below.trod laidOut_ (by kernel_rfl) (of_decide_eq_true (by kernel_rfl)) k1 bel lt1) (trodAll_cons_mk (shut_bool Tryz.underlying4 _) (trodAll_cons_mk (Below.trod laidOut_ (by kernel_rfl) (of_decide_eq_true (by kernel_rfl)) k3 bel lt3) (trodAll_cons_mk (shut_int Tryz.underlying3 w4) trodAll_mk0))))), rfl, bel.frame _, fun h => by cases h⟩
theorem encodeCosts_row : Rows.EncodeCostsSaid :=
 OpenClaim.holds_of_wide 5 Tryz.f5 rfl rfl rfl rfl rfl rfl rfl ⟨rfl, rfl, rfl, rfl, rfl⟩ rfl rfl rfl rfl rfl (by kernel_rfl) Tryz.func5 (by kernel_rfl)
  (of_decide_eq_true (by kernel_rfl)) (by unfold Func.isWrapper; first | (rw [if_pos (by decide +kernel)]; kernel_rfl) | (rw [if_neg (by decide +kernel)]; exact ⟨rfl, rfl⟩))
  (fun os started H enc _ => encodeCosts_lifted os started H enc)
theorem encodeCosts_holds : Rows.EncodeCostsCardSaid :=
 Claim7.holds_tied_plain_at .later [] [.handle] true _ true
  encodeCosts_row (fun _ h => by cases h) (by kernel_rfl) (fun _ h => by cases h) encodeCosts_row_tie rfl ⟨rfl, rfl⟩ (by kernel_rfl) rfl
  (fun f fn hf hfn => by
   obtain rfl : f = 5 := Option.some.inj ((show Tryz.prog.funcNamed "kinescope/kinlaw22.EncodeCosts" = some 5 by kernel_rfl).symm.trans hf) |>.symm
   obtain rfl : fn = Tryz.f5 := (Option.some.inj (Tryz.func5.symm.trans hfn)).symm
   exact ⟨by kernel_rfl, fun j t ht => by
    rw [Tryz.params5] at ht
    have hm : t ∈ [24, 24, 4, 47, 3] := by simpa using Array.mem_of_getElem? ht
    have hall : ([24, 24, 4, 47, 3].all fun u => !Tryz.prog.wantsStandIn u) = true := by kernel_rfl
    exact (show Tryz.prog.wantsStandIn t = false by simpa using List.all_eq_true.1 hall t hm)⟩)
  (by kernel_rfl)
end Go.Proofs.YtmgbbgffkakcaaaGreatDoor
