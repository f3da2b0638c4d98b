/- Joined texts: GWhW, GWhC. Conditions: each part names its own. -/
import Derived.Test.YtkigikallkpbcaaGreatDoorT1
import Derived.Test.YtkigikallkpbcaaGreatDoorGC
import Derived.Test.YtkigikallkpbcaaGreatDoorC1
import Derived.Test.YtkigikallkpbcaaGreatDoorC4
import Derived.Test.YtkigikallkpbcaaGreatDoorC3
import Derived.Deep.DeepCutAuto
import Derived.Test.YtkigikallkpbcaaGreatDoorF2
import Derived.Test.YtkigikallkpbcaaGreatDoorG7
import Derived.Test.YtkigikallkpbcaaGreatDoorW3
import Derived.Test.YtkigikallkpbcaaGreatDoorW2
import Derived.Test.YtkigikallkpbcaaGreatDoorF3
import Derived.Test.YtkigikallkpbcaaGreatDoorTie
import Derived.Test.YtkigikallkpbcaaGreatDoorCards
import Derived.SevenTiedAt
set_option maxRecDepth 100000
set_option maxHeartbeats 16000000
namespace Go.Proofs.YtkigikallkpbcaaGreatDoor
open Go.RowKit
set_option linter.unusedVariables false
set_option linter.unusedSimpArgs false
structure AtW (c:Cfg) (most:Int) (kb:Bool) (f g:FrameD) (C:Coded):Prop where
 cost:(C.data.length:Int)+8≤most
 kind:C.kind=1∨C.kind=2∨C.kind=3∨C.kind=4
 key:C.kind=1∨C.kind=4↔kb=true
 coded:C.kind≤2→∃ q:Nat,q≤15∧c.qmin≤(q:Int)∧(q:Int)≤c.qmax∧C.data.getD 0 0=(q:Int)∧readB C=none∧0≤stepD (q:Int) / 2∧stepD (q:Int) / 2≤255∧FrOk f∧FrOk g∧g.W=f.W∧g.H=f.H∧∀ i,i<g.pix.length→NearI (stepD (q:Int) / 2) (f.pix.getD i 0) (g.pix.getD i 0)
theorem step_half:∀ q:Nat,q≤15→0≤stepD (q:Int) / 2∧stepD (q:Int) / 2≤255:=by decide
theorem atW {src prev:FrameD} {key:Bool} {c:Cfg} {most:Int} {C:Coded} {B:FrameD} (h:FitOk src prev key c most C B):AtW c most key src B C:=by
 obtain ⟨k1,k2,k3,k4⟩:=fit_kind h
 refine ⟨h.fit,by omega,k3,fun hk=>?_⟩
 obtain ⟨q,h1,h2,h3,e1,e2⟩:=k4 hk
 obtain ⟨hsf,hmt,hq0,hq1,hr0,hr1⟩:=checkE_none h3
 obtain ⟨n,hn⟩:∃ n:Nat,q=(n:Int):=⟨q.toNat,(Int.toNat_of_nonneg hq0).symm⟩
 subst hn
 have hpk:=enc_peak (src:=src) (prev:=prev) (key:=key) (q:=n) (reach:=c.reach.toNat) hsf (fun hk=>mates_ok (hmt hk)) (by omega) (by omega)
 rw [← e2] at hpk
 obtain ⟨p1,p2,p3,p4⟩:=hpk
 obtain ⟨s0,s1⟩:=step_half n (by omega)
 have hlen:B.pix.length=src.pix.length:=by
  have h1:=p1.len
  have h2:=hsf.len
  rw [p2,p3,← h2] at h1
  omega
 have hd:C.data.getD 0 0=(n:Int):=by rw [e1];rfl
 refine ⟨n,by omega,h1,h2,hd,?_,s0,s1,hsf,p1,p2,p3,fun i hi=>?_⟩
 ·have hdl:0<C.data.length:=by rw [e1];unfold codedE;simp
  have hll:=h.len
  unfold readB
  rw [if_neg (by unfold kindB;rw [decide_eq_true (by omega)];decide),if_neg (by unfold bareB;rw [decide_eq_false (by omega)];decide),if_neg (by omega),if_neg (by rw [hd];omega),if_neg (by omega)]
 ·have:=p4 i (by omega)
  unfold NearI at this ⊢
  omega
section
theorem qGWhW0 {p:Prop} (h:p:=by
 go_wp2_with fail
 go_at_call 9
 refine (HFi.out _ HQ3.out).mono ?_
 rintro e w4 ⟨rfl,hq4⟩
 have HQ4:=lh (HQ3.out.q hq4)
 clear hq4
 go_wp2_with fail
 exact HPost.out _ _ ⟨rfl,HQ4.out⟩):p:=h
theorem gwhole_any {lv cv:Value} {l:List FrameD} {caps:List Int} {w:World} (c:Cfg) (h:FramesAt 0 w.heap.size w lv l) (hc:Ints .i64 0 w.heap.size w cv caps) (hE:ErrT w) :
  Calls Tryz.prog 8 #[c.v,lv,cv] w fun e w'=>e=.returned (.bool true)∧Only [] w w':=by
 obtain ⟨a0,a1,a2,a3,a4,a5,a6,a7⟩:=c
 show Calls Tryz.prog 8 #[.agg #[.int .i64 a0,.int .i64 a1,.int .i64 a2,.int .i64 a3,.int .i64 a4,.int .i64 a5,.int .i64 a6,.int .i64 a7],lv,cv] w _
 refine hidQ fun Q HPost=>?_
 have HFi:=lh (fun (W:World) (o:Only [] w W)=>gfirst1_any W (hE.quiet o))
 have HLi:=lh (fun (W:World) (o:Only [] w W)=>glight_any (a0:=a0) (a1:=a1) (a2:=a2) (a3:=a3) (a4:=a4) (a5:=a5) (a6:=a6) (a7:=a7) (h.quiet o))
 have HEn:=lh (fun (W:World) (o:Only [] w W) (h1:l.length≤1000000000) (h2:caps.length≤1000000000)=>gencode_any (a0:=a0) (a1:=a1) (a2:=a2) (a3:=a3) (a4:=a4) (a5:=a5) (a6:=a6) (a7:=a7) (h.quiet o) h1 (hc.quiet o) h2 o.size)
 have Hh:=lh h
 have Hc:=lh hc
 obtain ⟨la,ln,rfl,hln,hlm,-⟩:=h.open
 obtain ⟨ka,kn,rfl,hkn,hkm,hcb,hcc⟩:=hc.open
 have HCb:=lh hcb
 have HCc:=lh hcc
 have HCc2:=lh (fun (i:Nat) (hi:i<caps.length)=>show caps.getD i 0≤9223372036854775807 from by have h1:=hc.range hi;unfold InK at h1;exact h1.2)
 clear hcb hcc
 have hll:(l.length:Int)≤9223372036854775807:=by unfold maxLen at hlm;omega
 have hcl:(caps.length:Int)≤9223372036854775807:=by unfold maxLen at hkm;omega
 have HLc:=lh (And.intro hln hkn)
 have hq1:=Only.new w (.cells #[.int .i64 a0,.int .i64 a1,.int .i64 a2,.int .i64 a3,.int .i64 a4,.int .i64 a5,.int .i64 a6,.int .i64 a7] 60)
 have HQ1:=lh hq1
 have HR1:=lh (heap_alloc_new w (.cells #[.int .i64 a0,.int .i64 a1,.int .i64 a2,.int .i64 a3,.int .i64 a4,.int .i64 a5,.int .i64 a6,.int .i64 a7] 60))
 clear h hc hE hln hlm hkn hkm hq1
 go_enter Tryz.func8,Tryz.ntmps8
 go_wp2_with fail
 generalize hW1:World.alloc w _=W1 at *
 clear hW1
 obtain ⟨BX,hBX⟩:∃ z,z=w.heap.size:=⟨_,rfl⟩
 rw [← hBX] at HR1 ⊢
 clear hBX
 go_at_call 9
 refine (HFi.out _ HQ1.out).mono ?_
 rintro e w2 ⟨rfl,hq2⟩
 have HQ2:=lh (HQ1.out.q hq2)
 have HR2:=lh (hq2.row HR1.out)
 clear hq2
 obtain ⟨k0,k1,k2,k3,k4,k5,k6,k7⟩:=cfg_cells HR2.out
 go_wp2_with fail
 clear k0 k1 k2 k3 k4 k5 k6 k7
 go_at_call 27
 refine (HLi.out _ HQ2.out).mono ?_
 rintro e w3 ⟨⟨b,rfl,hb⟩,hq3⟩
 have HQ3:=lh (HQ2.out.q hq3)
 have HR3:=lh (hq3.row HR2.out)
 clear hq3
 cases b with
 | false =>
  clear hb
  exact qGWhW0
 | true =>
  have hpx:=hb rfl
  unfold pixB at hpx
  simp only [Bool.and_eq_true,decide_eq_true_eq] at hpx
  have hl40:=hpx.1
  clear hb hpx
  by_cases hc100:(100:Int)<(caps.length:Int)
  ·clear hl40
   exact qGWhW0
  ·have HCn:Hid (caps.length≤100∧l.length≤40):=lh ⟨by omega,hl40⟩
   have HEn1:=lh (HEn.out _ HQ3.out (by omega) (by have:=HCn.out.1;omega))
   unfold GopP at HEn1
   clear hl40
   obtain ⟨k0,k1,k2,k3,k4,k5,k6,k7⟩:=cfg_cells HR3.out
   go_wp2_with fail
   clear k0 k1 k2 k3 k4 k5 k6 k7
   go_at_call 28
   refine HEn1.out.mono ?_
   rintro e w5 ⟨hq5,hm⟩
   have HQ5:=lh (HQ3.out.q hq5)
   have HR5:=lh (hq5.row HR3.out)
   clear hq5 HEn1
   cases hck:gcheckE (⟨a0,a1,a2,a3,a4,a5,a6,a7⟩:Cfg) l caps with
   | some kk =>
    rw [hck] at hm
    obtain rfl:=hm
    clear hck
    go_wp2_with fail
    go_at_call 9
    refine (HFi.out _ HQ5.out).mono ?_
    rintro e w6 ⟨rfl,hq6⟩
    have HQ6:=lh (HQ5.out.q hq6)
    clear hq6
    go_wp2_with fail
    exact HPost.out _ _ ⟨rfl,HQ6.out⟩
   | none =>
    rw [hck] at hm
    obtain ⟨ya,yn,yb,ym,rfl,hA,hB⟩:=hm
    have HA:=lh hA
    have HB:=lh hB
    have HFt:Hid (∀ k,k<l.length→AtW (⟨a0,a1,a2,a3,a4,a5,a6,a7⟩:Cfg) (caps.getD k 0) (k == 0) (l.getD k default) ((gopB (⟨a0,a1,a2,a3,a4,a5,a6,a7⟩:Cfg) l caps).getD k default) ((gopA (⟨a0,a1,a2,a3,a4,a5,a6,a7⟩:Cfg) l caps).getD k default)):=lh (fun k hk=>by
     obtain ⟨q,hq⟩:=gop_fit hck hk
     exact atW hq)
    have HCp:Hid (caps.length=l.length):=lh (gcheck_none hck).2.2.2.2.1
    have hdr:=gop_drift hck
    have HDf:Hid (∀ (W:World) (o:Only [] w5 W),Calls Tryz.prog 31 #[.slice ya l.length yn,.int .i64 (l.getD 0 default).W,.int .i64 (l.getD 0 default).H] W fun e w'=>Only [] W w'∧∃ a n,e=.returned (.tuple #[.slice a l.length n,.nilIface])∧FramesAt W.heap.size w'.heap.size w' (.slice a l.length n) (gopB (⟨a0,a1,a2,a3,a4,a5,a6,a7⟩:Cfg) l caps)):=lh (fun W o=>by
     have h:=frames_any (l.getD 0 default).W (l.getD 0 default).H (hA.quiet o)
     unfold FramesP at h
     rw [hdr] at h
     refine h.mono ?_
     rintro e w' ⟨o',a,n,he,hf⟩
     rw [gopB_len] at he hf
     exact ⟨o',a,n,he,hf⟩)
    have hpos:=(gcheck_none hck).2.1
    have hposi:(0:Int)<(l.length:Int):=by omega
    have q0:((l.length:Int) == 0)=false:=by rw [beq_eq_false_iff_ne];omega
    have HLA:Hid ((gopA (⟨a0,a1,a2,a3,a4,a5,a6,a7⟩:Cfg) l caps).length=l.length):=lh (gopA_len _ _ _)
    have HLB:Hid ((gopB (⟨a0,a1,a2,a3,a4,a5,a6,a7⟩:Cfg) l caps).length=l.length):=lh (gopB_len _ _ _)
    obtain ⟨_,_,hle,-,-,hlat⟩:=Hh.out.open
    injection hle with e1 e2 e3
    subst e1;subst e3
    have HLt:=lh hlat
    obtain ⟨lb,loff,ldv,rfl,-,-,l0,l1,-,-⟩:=hlat 0 hpos
    rw [Nat.zero_mul,Nat.add_zero] at l0 l1
    generalize (l.getD 0 default).W=W0 at *
    generalize (l.getD 0 default).H=H0 at *
    generalize gopA (⟨a0,a1,a2,a3,a4,a5,a6,a7⟩:Cfg) l caps=GA at *
    generalize gopB (⟨a0,a1,a2,a3,a4,a5,a6,a7⟩:Cfg) l caps=GB at *
    clear hck hA hB hdr hlat e2 HEn HLi
    go_upto_region 8 with (fail)
    refine wp_region_held_drew (S:=(fun wz=>wz.cell? ⟨lb,loff,none⟩=some (.int .i64 W0)∧wz.cell? ⟨lb,loff+1,none⟩=some (.int .i64 H0))) (by kernel_rfl) ?_ (fun hHeld=>?_)
    ·first | exact ⟨HQ5.out.cell l0 (by simp),HQ5.out.cell l1 (by simp)⟩ | exact ⟨HQ5.out.drew.cell l0 (by simp),HQ5.out.drew.cell l1 (by simp)⟩
    refine tk 0 63 ?_
    refine tk 1 64 ?_
    refine tk 2 65 ?_
    refine tk 3 66 ?_
    refine tk 4 67 ?_
    refine tk 5 68 ?_
    refine tk 6 69 ?_
    refine tk 7 70 ?_
    refine tk 8 71 ?_
    refine rdy (rdc 9 72 (fun K hK=>?_) .nil)
    go_simp
    go_at_call 31
    refine (HDf.out _ (by first | exact Only.refl _ _ | exact (Only.refl _ _).drew)).mono ?_
    rintro e w6 ⟨hq,za,zn,rfl,hD⟩
    have HQ56:Hid (Only [] w5 w6):=lh (by first | exact hq | exact (Only.refl _ _).drew.q hq)
    have HD:=lh hD
    clear hq hD
    refine hK.out _ _ ?_ (fun hHeld=>?_)
    ·exact ⟨(HQ5.out.q HQ56.out).cell l0 (by simp),(HQ5.out.q HQ56.out).cell l1 (by simp)⟩
    clear hK K
    try simp only [Act.put,List.setIfInBounds_toArray,List.set_cons_zero,List.set_cons_succ]
    refine tk 10 62 ?_
    refine tk 11 73 ?_
    refine tk 12 74 ?_
    refine tk 13 10 ?_
    refine tk 14 11 ?_
    refine wpAnyH_done (by kernel_rfl) ?_ _
    have HKf:=lh (fun (W:World) (o:Only [] w6 W)=>kframes_same (HD.out.quiet o) (HB.out.quiet (HQ56.out.q o)))
    have HQ6:=lh (HQ5.out.q HQ56.out)
    clear l0 l1 HDf HD hpos
    go_wp2_with fail
    go_at_call 29
    refine (HKf.out _ (by first | exact Only.refl _ _ | exact (Only.refl _ _).drew)).mono ?_
    rintro e w7 ⟨rfl,hq7⟩
    have HQ67:Hid (Only [] w6 w7):=lh (by first | exact hq7 | exact (Only.refl _ _).drew.q hq7)
    have HQ57:=lh (HQ56.out.q HQ67.out)
    have HQ7:=lh (HQ6.out.q HQ67.out)
    clear hq7 HKf HQ6 HQ67
    go_wp2_with fail
    go_loopw [12,13,14,15,16,17,18,19] (fun i _ _ _ _ _ _ _ wr=>∃ k:Nat,k≤l.length∧i=.int .i64 k∧Hid (Only [] w7 wr)) (fun i _ _ _ _ _ _ _ _=>l.length-(intOf i).toNat)
    case atStart=>exact ⟨0,by omega,rfl,lh (Only.refl _ _)⟩
    case round =>
     obtain ⟨k,hk,rfl,HQr⟩:=hrel
     have HQ:=lh (HQ7.out.q HQr.out)
     have HQ5r:=lh (HQ57.out.q HQr.out)
     by_cases hlt:k<l.length
     ·have hki:(k:Int)<(l.length:Int):=by omega
      have hk0:(0:Int)≤(k:Int):=by omega
      have hkc:k<caps.length:=by have:=HCp.out;omega
      have hkci:(k:Int)<(caps.length:Int):=by omega
      have hat:=HFt.out k hlt
      obtain ⟨cb,coff,rfl,-,-⟩:=HCb.out k hkc
      have m0:=HQ.out.cell (HCc.out cb coff rfl k hkc) (by simp)
      obtain ⟨_,_,hae,-,-,haat⟩:=HA.out.open
      injection hae with e1 e2 e3
      subst e1;subst e3
      obtain ⟨ab,aoff,adv,rfl,-,-,ha0,ha1,-,had⟩:=haat k (by rw [HLA.out];exact hlt)
      have c0:=HQ5r.out.cell ha0 (by simp)
      have c1:=HQ5r.out.cell ha1 (by simp)
      obtain ⟨_,_,hbe,-,-,hbat⟩:=HB.out.open
      injection hbe with e4 e5 e6
      subst e4;subst e6
      obtain ⟨gb,goff,gdv,rfl,-,-,hg0,hg1,hg2,hgd⟩:=hbat k (by rw [HLB.out];exact hlt)
      obtain ⟨fb,foff,fdv,hfe,-,-,hf0,hf1,hf2,hfd⟩:=HLt.out k hlt
      injection hfe with hfe
      injection hfe with e7 e8
      subst e7;subst e8
      have hmx:=HCc2.out k hkc
      generalize caps.getD k 0=most at *
      generalize GA.getD k default=x at *
      generalize GB.getD k default=g at *
      generalize l.getD k default=f at *
      obtain ⟨xa,xc,rfl,-⟩:=had.open
      obtain ⟨ga,gc,rfl,-⟩:=hgd.open
      obtain ⟨fa,fc,rfl,-⟩:=hfd.open
      have HAt:=lh hat
      have Had:=lh had
      have HCo:=lh (cost_any (k:=x.kind) (had.quiet HQ5r.out) (by have:=hat.cost;omega))
      obtain ⟨kb,hkb⟩:∃ z,z=(k == 0):=⟨_,rfl⟩
      rw [← hkb] at HAt hat
      have qk:((k:Int) == 0)=kb:=by rw [hkb,Bool.eq_iff_iff,beq_iff_eq,beq_iff_eq];omega
      have n1:¬ ((x.data.length:Int)+8<8):=by omega
      have n2:¬ (most<(x.data.length:Int)+8):=by have:=hat.cost;omega
      have hg0:=HQ5r.out.cell hg0 (by simp)
      have hg1:=HQ5r.out.cell hg1 (by simp)
      have hg2:=HQ5r.out.cell hg2 (by simp)
      have hf0:=HQ.out.cell hf0 (by simp)
      have hf1:=HQ.out.cell hf1 (by simp)
      have hf2:=HQ.out.cell hf2 (by simp)
      have Hgd:=lh (hgd.quiet HQ5r.out)
      have Hfd:=lh (hfd.quiet HQ.out)
      have Hx:=lh (had.quiet HQ5r.out)
      have HSS:Hid (∀ wx:World,Only [] wr wx→wx.cell? ⟨gb,goff+k*3,none⟩=some (.int .i64 g.W)∧wx.cell? ⟨gb,goff+k*3+1,none⟩=some (.int .i64 g.H)∧wx.cell? ⟨gb,goff+k*3+2,none⟩=some (.slice ga g.pix.length gc)∧wx.cell? ⟨lb,loff+k*3,none⟩=some (.int .i64 f.W)∧wx.cell? ⟨lb,loff+k*3+1,none⟩=some (.int .i64 f.H)∧wx.cell? ⟨lb,loff+k*3+2,none⟩=some (.slice fa f.pix.length fc)):=lh (fun wx o=>⟨o.cell hg0 (by simp),o.cell hg1 (by simp),o.cell hg2 (by simp),o.cell hf0 (by simp),o.cell hf1 (by simp),o.cell hf2 (by simp)⟩)
      have HRk:=lh (HQ57.out.q HQr.out)
      have hrb:=(HRk.out).row HR5.out
      have HRb:=lh hrb
      clear hmx hat had haat hbat ha0 ha1 hgd hfd hg0 hg1 hg2 hf0 hf1 hf2 hkb e2 e5 hrb
      go_wp2_with fail
      go_at_call 30
      refine HCo.out.mono ?_
      rintro e w9 ⟨rfl,hq9⟩
      have HQ9:=lh hq9
      have m0:=hq9.cell m0 (by simp)
      have c0:=hq9.cell c0 (by simp)
      have c1:=hq9.cell c1 (by simp)
      clear hq9 HCo
      go_upto_region 15 with (fail)
      go_cut [129] (fun s wx=>s=.bool false∧w9=wx)
      case first =>
       have hkd:=HAt.out.kind
       have hke:=HAt.out.key
       generalize x.kind=kd at *
       rcases hkd with e | e | e | e
       all_goals
        subst e
        cases kb
        all_goals try exact absurd hke (by decide)
        all_goals
         clear hke
         go_wp2_with fail
         go_meet
         exact ⟨by first | rfl | simp [n1,n2],rfl⟩
      case rest =>
       obtain ⟨rfl,hWx⟩:=hcut
       subst hWx
       by_cases hk2:x.kind≤2
       ·obtain ⟨q,hq15,hqa,hqb,hqd,hrd,hs0,hs1,hfo,hgo,hgW,hgH,hnr⟩:=HAt.out.coded hk2
        have h2i:¬ (2:Int)<x.kind:=by omega
        have HRd:=lh (read_any (k:=x.kind) (Hx.out.quiet HQ9.out))
        unfold HeadOr at HRd
        rw [show readB ⟨x.kind,x.data⟩=none from hrd] at HRd
        have HPk:=lh (fun (W:World) (o:Only [] wr W)=>peak_any (a:=g) (b:=f) (stepD (q:Int) / 2) ⟨hs0,hs1⟩ hgo hfo hgW hgH (Hgd.out.quiet o) (Hfd.out.quiet o) hnr)
        have HBo:=lh (fun W:World=>qbound_any q hq15 W)
        obtain ⟨qn,hqn⟩:∃ z:Int,z=(q:Int):=⟨_,rfl⟩
        rw [← hqn] at hqa hqb hqd HBo HPk
        have hqa':¬ (qn<a0):=by have h:a0≤qn:=hqa;omega
        have hqb':¬ (a1<qn):=by have h:qn≤a1:=hqb;omega
        have Hqd:=lh hqd
        generalize stepD qn / 2=hs at *
        clear hqa hqb hqd hrd hs0 hs1 hfo hgo hgW hgH hnr hk2 hqn n1 n2 qk hq15
        go_wp2_with fail
        go_at_call 32
        refine HRd.out.mono ?_
        rintro e wA ⟨hqA,tv,rfl,htv⟩
        obtain ⟨ta,tc,htv2,-⟩:=htv.open
        subst htv2
        simp only [Hqd.out]
        generalize (x.data.drop 1).length=tn at *
        have HNw:=lh (Only.new wA (.cells #[.int .i64 x.kind,.int .i64 qn,.slice ta tn tc] 75))
        have HRT:=lh (heap_alloc_new wA (.cells #[.int .i64 x.kind,.int .i64 qn,.slice ta tn tc] 75))
        have HQA:=lh (HQ9.out.q hqA)
        clear htv hqA HRd m0 c0 c1
        go_upto_region 19 with (fail)
        generalize hWw:World.alloc wA _=ww at *
        clear hWw
        obtain ⟨BT,hBT⟩:∃ z,z=wA.heap.size:=⟨_,rfl⟩
        rw [← hBT] at HRT ⊢
        clear hBT
        have HQw:=lh (HQA.out.q HNw.out)
        refine wp_region_held_drew (S:=(fun wz=>wz.cell? ⟨gb,goff+k*3,none⟩=some (.int .i64 g.W)∧wz.cell? ⟨gb,goff+k*3+1,none⟩=some (.int .i64 g.H)∧wz.cell? ⟨gb,goff+k*3+2,none⟩=some (.slice ga g.pix.length gc)∧wz.cell? ⟨lb,loff+k*3,none⟩=some (.int .i64 f.W)∧wz.cell? ⟨lb,loff+k*3+1,none⟩=some (.int .i64 f.H)∧wz.cell? ⟨lb,loff+k*3+2,none⟩=some (.slice fa f.pix.length fc))) (by kernel_rfl) ?_ (fun hHeld=>?_)
        ·first | exact HSS.out _ HQw.out | exact HSS.out _ HQw.out.drew
        refine tk 0 145 ?_
        refine tk 1 146 ?_
        refine tk 2 147 ?_
        refine tk 3 148 ?_
        refine tk 4 149 ?_
        refine tk 5 150 ?_
        refine tk 6 151 ?_
        refine tk 7 152 ?_
        refine rdy (rdc 8 153 (fun K hK=>?_) .nil)
        go_simp
        go_at_call 33
        refine (HPk.out _ (by first | exact HQw.out | exact HQw.out.drew)).mono ?_
        rintro e wD ⟨⟨pp,rfl,hp0,hp1⟩,hq⟩
        have HQD:Hid (Only [] wr wD):=lh (by first | exact HQw.out.q hq | exact HQw.out.drew.q hq)
        have HRT2:=lh (show wD.heap[BT]?=some (.cells #[.int .i64 x.kind,.int .i64 qn,.slice ta tn tc] 75 (0,0)) from by first | exact hq.row HRT.out | exact hq.row ((Only.refl [] _).drew.row HRT.out))
        have HPp:=lh (And.intro hp0 hp1)
        clear hq hp0 hp1
        refine hK.out _ _ ?_ (fun hHeld=>?_)
        ·exact HSS.out _ HQD.out
        clear hK K
        try simp only [Act.put,List.setIfInBounds_toArray,List.set_cons_zero,List.set_cons_succ]
        refine tk 9 144 ?_
        refine tk 10 154 ?_
        refine tk 11 155 ?_
        refine tk 12 16 ?_
        refine tk 13 17 ?_
        refine wpAnyH_done (by kernel_rfl) ?_ _
        obtain ⟨t0,t1,t2⟩:=frame_cells HRT2.out
        go_wp2_with fail
        clear t0 t1 t2
        go_at_call 34
        refine (HBo.out _).mono ?_
        rintro e wE ⟨rfl,hqE⟩
        have hqE':Only [] wD wE:=by first | exact hqE | exact (Only.refl _ _).drew.q hqE
        have HQE:=lh (HQD.out.q hqE')
        obtain ⟨t0,t1,t2⟩:=frame_cells (hqE'.row HRT2.out)
        obtain ⟨k0,k1,k2,k3,k4,k5,k6,k7⟩:=cfg_cells (HQE.out.row HRb.out)
        have hpp:¬ (hs<pp):=by have:=HPp.out.2;omega
        clear hqE hqE'
        go_wp2_with fail
        exact ⟨⟨k+1,by omega,by go_num,lh (HQr.out.q HQE.out)⟩,by simp [intOf];omega⟩
       ·have h2i:(2:Int)<x.kind:=by omega
        clear hk2
        go_wp2_with fail
        exact ⟨⟨k+1,by omega,by go_num,lh (HQr.out.q HQ9.out)⟩,by simp [intOf];omega⟩
     ·obtain rfl:k=l.length:=by omega
      have hx:¬ (l.length:Int)<(l.length:Int):=by omega
      go_wp2_with fail
      go_at_call 9
      refine (HFi.out _ HQ.out).mono ?_
      rintro e w9 ⟨rfl,hq9⟩
      have HQ9:=lh (HQ.out.q hq9)
      clear hq9
      go_wp2_with fail
      exact HPost.out _ _ ⟨rfl,HQ9.out⟩
end
end Go.Proofs.YtkigikallkpbcaaGreatDoor
/- GopWhole of the groups: for any arguments the law kinlaw23.GopWhole answers true and leaves its arguments as they were (decoded, a group is what was built; each frame costs from eight to its cap; those that are neither skips nor flat are within their quantiser's bound of their source). Conditions: errors.errorType is laid as the program's text lays it (the card ties it). -/
namespace Go.Proofs.YtkigikallkpbcaaGreatDoor
open Go.ChangeShapes Go.WideShapes Go.ChangeAt Go.RowKit
set_option linter.unusedVariables false
set_option linter.unusedSimpArgs false
theorem gopWhole_lifted (os:Os) (started:os.Started) (H:Type) (enc:TypeId×Value→H) :
  ReturnsInHanded {} Tryz.checked os 8 .any (fun w args=>(Rows.gopWholeSpec.pre enc Tryz.prog Tryz.f8 [] false w args∧laidMetH Tryz.prog laid1 w)∧sizedMet enc Tryz.prog Tryz.f8 (OpenSpec.ofChange Rows.gopWholeSpec) false w args)
   (Rows.gopWholeSpec.post enc Tryz.prog Tryz.f8 false true false false):=by
 refine returnsInHanded_of_change_and (C:=Tryz.checked) (X:=fun w _=>laidMetH Tryz.prog laid1 w) (fun _ _ _ hh h=>h.of_heap hh) own_ started (by kernel_rfl) Tryz.func8
  (ChangeSpec.witness_at (enc:=enc) (C:=Tryz.checked) (os:=os) (X:=fun w _=>laidMetH Tryz.prog laid1 w) false (laidWorld os) #[.agg #[.int .i64 0,.int .i64 0,.int .i64 0,.int .i64 0,.int .i64 0,.int .i64 0,.int .i64 0,.int .i64 0],.slice none 0 0,.slice none 0 0] 8 rfl (by kernel_rfl) (by kernel_rfl) (by kernel_rfl) (by kernel_rfl) (by kernel_rfl) (laidWorld_met os _)) ?_
 intro W base args ds gs before hval0 hW _ _ hL _
 have hval:∀ (j:Nat) t v,Tryz.f8.params[j]?=some t→args[j]?=some v→Value.okWide Tryz.prog W .any base t v:=hval0
 have hW':=hW
 obtain ⟨p,q,hA0,hV,rfl,hfz,hnd⟩:=hW
 have hA:DataW.TrodAll enc Tryz.prog W 0 (fun _=>true) true Tryz.f8.params.toList args.toList ds p:=hA0
 rw [Tryz.params8] at hA hval
 obtain ⟨v0,vs0,d0,ds0,p0,q0,hargs,rfl,rfl,h0,r0⟩:=trodAll_cons hA
 obtain ⟨v1,vs1,d1,ds1,p1,q1,rfl,rfl,rfl,h1,r1⟩:=trodAll_cons r0
 obtain ⟨v2,vs2,d2,ds2,p2,q2,rfl,rfl,rfl,h2,r2⟩:=trodAll_cons r1
 obtain ⟨rfl,rfl,rfl⟩:=trodAll_nil r2
 obtain rfl:args=#[v0,v1,v2]:=by cases args;simp_all
 obtain ⟨rfl,rfl⟩:=trodVars_none hV
 have k0:=h0
 have lt0:∀ x∈p0,x.block<W.heap.size:=by obtain ⟨m,hm⟩:=k0;exact DataW.trod_lt m _ _ _ hm
 obtain ⟨c0,rfl⟩:=config_in (hval 0 60 v0 rfl rfl) h0
 have k1:=h1
 have lt1:∀ x∈p1,x.block<W.heap.size:=by obtain ⟨m,hm⟩:=k1;exact DataW.trod_lt m _ _ _ hm
 obtain ⟨a1,len1,cap1,rfl⟩:=okWide_slice Tryz.underlying61 (hval 1 61 v1 rfl rfl)
 obtain ⟨l1,hd1⟩:∃ l,FramesAt 0 W.heap.size W (.slice a1 len1 cap1) l:=by
  obtain ⟨fuel,hf⟩:=h1
  obtain ⟨v,l,hv,hl⟩:=frames_in hf
  have hcs:(Value.slice a1 len1 cap1).cells.toList=[.slice a1 len1 cap1]:=rfl
  rw [hcs] at hv
  obtain rfl:=(List.cons.inj hv).1
  exact ⟨l,hl⟩
 have k2:=h2
 have lt2:∀ x∈p2,x.block<W.heap.size:=by obtain ⟨m,hm⟩:=k2;exact DataW.trod_lt m _ _ _ hm
 obtain ⟨a2,len2,cap2,rfl⟩:=okWide_slice Tryz.underlying49 (hval 2 49 v2 rfl rfl)
 obtain ⟨l2,hd2⟩:∃ l,Ints .i64 0 W.heap.size W (.slice a2 len2 cap2) l:=by
  obtain ⟨fuel,hf⟩:=h2
  exact i64s_in hf
 clear hA0 hval0
 simp only [List.append_nil] at hW'
 refine (gwhole_any c0 hd1 hd2 (errT_of_laid hL)).mono fun e W' ⟨he,hq⟩=>?_
 subst he
 have bel:=hq.quiet
 exact ⟨_,rfl,_,_,_,[],_,[],hW',trodAll_mk1 (shut_bool Tryz.underlying4 _),(trodAll_cons_mk (Below.trod laidOut_ (by kernel_rfl) (of_decide_eq_true (by kernel_rfl)) k0 bel lt0) (trodAll_cons_mk (Below.trod laidOut_ (by kernel_rfl) (of_decide_eq_true (by kernel_rfl)) k1 bel lt1) (trodAll_cons_mk (Below.trod laidOut_ (by kernel_rfl) (of_decide_eq_true (by kernel_rfl)) k2 bel lt2) trodAll_mk0))),rfl,bel.frame _,fun h=>by cases h⟩
theorem gopWhole_row:Rows.GopWholeSaid :=
 OpenClaim.holds_of_wide 8 Tryz.f8 rfl rfl rfl rfl rfl rfl rfl ⟨rfl,rfl,rfl,rfl,rfl⟩ rfl rfl rfl rfl rfl (by kernel_rfl) Tryz.func8 (by kernel_rfl)
  (of_decide_eq_true (by kernel_rfl)) (by unfold Func.isWrapper;first | (rw [if_pos (by decide +kernel)];kernel_rfl) | (rw [if_neg (by decide +kernel)];exact ⟨rfl,rfl⟩))
  (fun os started H enc _=>gopWhole_lifted os started H enc)
theorem gopWhole_holds:Rows.GopWholeCardSaid :=
 Claim7.holds_tied_plain_at .later [] [.handle] true _ true
  gopWhole_row (fun _ h=>by cases h) (by kernel_rfl) (fun _ h=>by cases h) gopWhole_row_tie rfl ⟨rfl,rfl⟩ (by kernel_rfl) rfl
  (fun f fn hf hfn=>by
   obtain rfl:f=8:=Option.some.inj ((show Tryz.prog.funcNamed "kinescope/kinlaw23.GopWhole"=some 8 by kernel_rfl).symm.trans hf) |>.symm
   obtain rfl:fn=Tryz.f8:=(Option.some.inj (Tryz.func8.symm.trans hfn)).symm
   exact ⟨by kernel_rfl,fun j t ht=>by
    rw [Tryz.params8] at ht
    have hm:t∈[60,61,49]:=by simpa using Array.mem_of_getElem? ht
    have hall:([60,61,49].all fun u=>!Tryz.prog.wantsStandIn u)=true:=by kernel_rfl
    exact (show Tryz.prog.wantsStandIn t=false by simpa using List.all_eq_true.1 hall t hm)⟩)
  (by kernel_rfl)
end Go.Proofs.YtkigikallkpbcaaGreatDoor
