/- Joined texts: ERacW, EMod. Conditions: each part names its own. -/
import Derived.Test.YtkigikallkpbcaaGreatDoorT1
import Derived.Test.YtkigikallkpbcaaGreatDoorW1
import Derived.Test.YtkigikallkpbcaaGreatDoorR1
import Derived.StillTailTactics
import Derived.BigRegion
import Derived.Deep.RegionWith
import Derived.Deep.DeepCutAuto
import Derived.Test.YtkigikallkpbcaaGreatDoorW2
import Derived.Test.YtkigikallkpbcaaGreatDoorWA
import Derived.Test.YtkigikallkpbcaaGreatDoorS1
import Derived.Conc.MuLone
namespace Go.Proofs.YtkigikallkpbcaaGreatDoor
open Go.RowKit
set_option linter.unusedVariables false
set_option linter.unusedSimpArgs false
set_option maxRecDepth 100000
set_option maxHeartbeats 16000000
section
theorem ecarry_any {base E:Nat} {ov:Value} {l:List Int} {a b:Int} {w:World} (hr:EncRow E w ov a b) (ho:Own .u8 5 base w ov l) (hne:∀ g,ov.ownBlock=some g→g≠E) (hl:l.length≤1000000000) :
  Calls Tryz.prog 226 #[.pointer (some ⟨E,0,none⟩)] w fun e w'=>e=.returned (.tuple #[])∧EncRow E w' ov a b∧Own .u8 5 base w' ov (incAt l.length l)∧Only ov.ownBlock.toList w w':=by
 refine hidQ fun Q HPost=>?_
 obtain ⟨c0,c1,c2⟩:=cells3 hr
 have HR:=lh hr
 have hlen:(l.length:Int)≤1000000000:=by omega
 rcases ho.nilOr with ⟨rfl,rfl⟩ | ⟨g,cap,rfl⟩
 ·have HO:=lh ho
  clear hr ho hne
  go_enter Tryz.func226,Tryz.ntmps226
  go_wp2_with fail
  go_loopw [2] (fun i wr=>i=.int .i64 (-1)∧w=wr) (fun _ _=>0)
  case atStart=>exact ⟨rfl,rfl⟩
  case round =>
   obtain ⟨rfl,rfl⟩:=hrel
   go_wp2_with fail
   exact bodyPost_end (results_none Tryz.results226 _ _ _) rfl (HPost.out _ _ ⟨rfl,HR.out,HO.out,Only.refl _ _⟩)
 ·have hob:(Value.slice (some ⟨g,0,none⟩) l.length cap).ownBlock=some g:=rfl
  have HNe:Hid (g≠E):=lh (hne g hob)
  have HO:=lh ho
  have hnE:E≠g:=fun e=>HNe.out e.symm
  clear hr ho hne hl
  rw [hob] at HPost
  go_enter Tryz.func226,Tryz.ntmps226
  go_wp2_with fail
  clear c0 c1 c2
  obtain ⟨n,hn⟩:∃ n,n=l.length:=⟨_,rfl⟩
  rw [← hn] at hlen HO HR HPost ⊢
  have Hn:=lh hn
  clear hn
  go_loopw [2] (fun i wr=>∃ (k:Nat) (ys:List Int),k≤n∧i=.int .i64 ((k:Int)-1)∧Hid (ys.length=n)∧Hid (incAt k ys=incAt n l)∧Hid (Own .u8 5 base wr (.slice (some ⟨g,0,none⟩) n cap) ys)∧Hid (Only [g] w wr)) (fun i _=>(intOf i+1).toNat)
  case atStart=>exact ⟨n,l,Nat.le_refl _,by go_num,lh Hn.out.symm,lh rfl,HO,lh (Only.refl _ _)⟩
  case round =>
   obtain ⟨k,ys,hk,rfl,Hyl,Hinc,HOk,HQk⟩:=hrel
   have HRk:Hid (EncRow E wr (.slice (some ⟨g,0,none⟩) n cap) a b):=lh (HQk.out.rowAt HR.out (by rw [mSg];exact hnE))
   cases k with
   | zero =>
    have hneg:¬ (0:Int)≤((0:Nat):Int)-1:=by omega
    have hfin:Hid (ys=incAt n l):=lh Hinc.out
    go_wp2_with fail
    refine bodyPost_end (results_none Tryz.results226 _ _ _) rfl (HPost.out _ _ ⟨rfl,HRk.out,?_,HQk.out⟩)
    rw [← hfin.out];exact HOk.out
   | succ k =>
    have hki:(k:Int)<(n:Int):=by omega
    have hk0:(0:Int)≤(k:Int):=by omega
    have e1:(((k+1:Nat):Int)-1)=(k:Int):=by omega
    rw [e1]
    have hkn:k<ys.length:=by rw [Hyl.out];omega
    obtain ⟨c0,-,-⟩:=cells3 HRk.out
    have cx:=HOk.out.cellS Hyl.out.symm hkn
    have fx:=HOk.out.frzS Hyl.out.symm k
    have hin:=HOk.out.2 (ys.getD k 0) (by rw [List.getD_eq_getElem?_getD,List.getElem?_eq_getElem hkn];exact List.getElem_mem _)
    simp only [InK] at hin
    have hstep:incAt (k+1) ys=if (ys.getD k 0+1) % 256=0 then incAt k (ys.set k 0) else ys.set k ((ys.getD k 0+1) % 256):=rfl
    have HS:=lh (fun (x:Int) (hx:InK .u8 x)=>HOk.out.storeS Hyl.out.symm hx k)
    have hwr:IntKind.u8.wrap (ys.getD k 0+1)=(ys.getD k 0+1) % 256:=by simp [IntKind.wrap,IntKind.bits,IntKind.signed]
    generalize ys.getD k 0=y at *
    obtain ⟨z,hz⟩:∃ z,z=(y+1) % 256:=⟨_,rfl⟩
    rw [← hz] at hstep hwr
    have hzin:InK .u8 z:=by simp only [InK];omega
    obtain ⟨hs1,hs2⟩:=HS.out z hzin
    have HS1:=lh hs1
    have HS2:=lh hs2
    have c0b:=hs2.cell c0 (by rw [mSg];exact hnE)
    have cxb:=hs1.cellS (by rw [List.length_set];exact Hyl.out.symm) (i:=k) (by rw [List.length_set];exact hkn)
    have e2:(ys.set k z).getD k 0=z:=by rw [List.getD_eq_getElem?_getD,List.getElem?_set_self hkn];rfl
    rw [e2] at cxb
    have HSt:=lh hstep
    have HZ:=lh hz
    clear hs1 hs2 hstep hz HS e2 hzin hin hkn
    by_cases hz0:z=0
    ·subst hz0
     have Hnext:Hid (incAt k (ys.set k 0)=incAt n l):=lh (by rw [← Hinc.out,HSt.out,if_pos rfl])
     clear HSt HZ
     go_wp2_with fail
     exact ⟨⟨k,ys.set k 0,by omega,by go_num,lh (by rw [List.length_set];exact Hyl.out),Hnext,HS1,lh (HQk.out.trans HS2.out (fun _ h _=>h) (fun _ h _=>h))⟩,by simp [intOf]⟩
    ·have Hfin:Hid (ys.set k z=incAt n l):=lh (by rw [← Hinc.out,HSt.out,if_neg hz0])
     clear HSt HZ
     go_wp2_with fail
     refine bodyPost_end (results_none Tryz.results226 _ _ _) rfl (HPost.out _ _ ⟨rfl,?_,?_,HQk.out.trans HS2.out (fun _ h _=>h) (fun _ h _=>h)⟩)
     ·exact HS2.out.rowAt HRk.out (by rw [mSg];exact hnE)
     ·rw [← Hfin.out];exact HS1.out
theorem qERacW0 {p:Prop} (h:p:=by
 clear hK K
 try simp only [Act.put,List.setIfInBounds_toArray,List.set_cons_zero,List.set_cons_succ]
 refine rdy (rdc 12 58 (fun K hK=>?_) .nil)
 refine wp_append_ints rfl (.tmp 50) (.tmp 57) _ rfl E8 (Hown.out.quiet HqA.out) rfl ((Hsrc.out wr).quiet (Only.refl [] _).drew) rfl Hby.out (Nat.le_trans Hbs.out HqA.out.size) (fun v1 w1 hown1 hacc1=>?_)
 obtain ⟨g1,cap1,hv1,-,-⟩:=hown1.form (by simp)
 rw [← HN1.out] at hv1
 subst hv1
 have hr1:EncRow E w1 ov' LL RR:=hacc1.only.rowAt (HqA.out.row HKr.out) HNe2.out
 have HR1:=lh hr1
 obtain ⟨cx1,dx1,ex1⟩:=cells3 hr1
 have fx1:=frozen_of_row w1 E 0 _ _ hr1
 have fy1:=frozen_of_row w1 E 1 _ _ hr1
 have fz1:=frozen_of_row w1 E 2 _ _ hr1
 have hs1:=hr1.set0 (.slice (some ⟨g1,0,none⟩) N1 cap1)
 obtain ⟨-,sx1,-⟩:=cells3 hs1.1
 have HS1:=lh hs1
 have HO1:=lh hown1
 have HA1:=lh hacc1
 clear hown1 hacc1 hr1 hs1
 refine hK.out _ _ ?_ (fun hHeld=>?_)
 ·exact dx1
 clear hK K
 try simp only [Act.put,List.setIfInBounds_toArray,List.set_cons_zero,List.set_cons_succ]
 refine tk 13 59 ?_
 refine tk 14 60 ?_
 refine rdy (rdn 15 (fun K hK=>?_) .nil)
 go_simp
 refine hK.out _ _ ?_ (fun hHeld=>?_)
 ·exact sx1
 clear hK K
 try simp only [Act.put,List.setIfInBounds_toArray,List.set_cons_zero,List.set_cons_succ]
 refine wpAnyH_done (by kernel_rfl) ?_ _
 go_wp2_with fail
 have hs2:=HS1.out.1.set1 (LL*256 % 4294967296)
 have hs3:=hs2.1.set2 (RR*256)
 have hsO:=(HS1.out.2.trans hs2.2 (U:=[E]) (fun _ h _=>h) (fun _ h _=>h)).trans hs3.2 (U:=[E]) (fun _ h _=>h) (fun _ h _=>h)
 have hne3:∀ g,(Value.slice (some ⟨g1,0,none⟩) N1 cap1).ownBlock=some g→g≠E:=fun g hg e=>by
  rcases HA1.out.at_ with h3 | h3
  ·exact HNe.out g (by rw [← h3];exact hg) e
  ·have h4:=h3 g hg
   have h5:=(Hk.out.lt E (List.mem_cons_self ..)).2
   have h6:=HqA.out.size
   omega
 have hst:Went (encB E ov') wr (encB E (.slice (some ⟨g1,0,none⟩) N1 cap1)) _:=⟨(HqA.out.trans HA1.out.only (U:=encB E ov') (by simp) (fun g h _=>List.mem_cons_of_mem _ h)).trans hsO (U:=encB E ov') (fun _ h _=>h) (fun g h _=>List.mem_cons.2 (.inl (mSg.1 h))),fun g hg=>by
  rcases List.mem_cons.1 hg with rfl | hg
  ·exact .inl (List.mem_cons_self ..)
  ·have hg2:(Value.slice (some ⟨g1,0,none⟩) N1 cap1).ownBlock=some g:=by simpa using hg
   rcases HA1.out.at_ with h3 | h3
   ·exact .inl (List.mem_cons_of_mem _ (by rw [← h3];exact hg))
   ·exact .inr (Nat.le_trans HqA.out.size (h3 g hg2))⟩
 have e3:=(cells3 hs3.1).2.2
 refine ⟨⟨k',dc.shift,_,by omega,lh ⟨?_,?_,Hk.out.hE,hne3⟩,HMs,HFs,lh ?_,lh (HQ.out.trans hst)⟩,?_⟩
 ·rw [HLs.out,HRs.out];exact hs3.1
 ·rw [HSh.out];exact HO1.out.only hsO (fun g hg e=>by rw [mSg] at hg;exact hne3 g e hg)
 ·have:=Hpos.out;show dc.n+1+k'≤_;omega
 ·rw [e3,c2];simp only [intOf,Option.getD_some];omega):p:=h
theorem enarrow_any {base E:Nat} {ov:Value} {m:Wrt} {x:Int} {w:World} (b:Bool) (h:EncIn base E w ov m) (ok:WrtOk m) (h1:8192≤x) (h2:x≤m.r-8192) (hn:m.n≤1000000000) :
  Calls Tryz.prog 225 #[.pointer (some ⟨E,0,none⟩),.int .u64 x,.bool b] w fun e w'=>e=.returned (.tuple #[])∧∃ ov',EncIn base E w' ov' (m.narrow x b)∧Went (encB E ov) w (encB E ov') w':=by
 refine hidQ fun Q HPost=>?_
 obtain ⟨d2,hd2⟩:∃ d2:Wrt,d2=if b then ⟨m.p,m.lo+x,m.n,m.r-x⟩ else ⟨m.p,m.lo,m.n,x⟩:=⟨_,rfl⟩
 obtain ⟨m1,m2,-,-⟩:=ok.mid h1 h2
 have HM:Hid (WrtMid 2 d2):=lh (by rw [hd2];cases b;exact m2;exact m1)
 have HN:Hid (m.narrow x b=Wrt.fix 2 d2):=lh (by rw [hd2];cases b <;> rfl)
 have hd2n:d2.n=m.n:=by rw [hd2];cases b <;> rfl
 have Hn2:Hid (d2.n≤1000000000):=lh (by rw [hd2n];exact hn)
 have HD:=lh hd2
 have hb0:0≤m.lo % 4294967296∧m.lo % 4294967296<4294967296:=by omega
 have hr1:=ok.r1
 have hr0:=ok.r0
 obtain ⟨c0,c1,c2⟩:=cells3 h.row
 have HK:=lh h
 have HW0:=lh (setW_carry m (x:=x) (by omega) (by omega))
 have HLo:Hid ((m.lo+x) % 4294967296=if 4294967295<m.lo % 4294967296+x then (m.lo % 4294967296+x) % 4294967296 else m.lo % 4294967296+x):=lh (by split <;> omega)
 have Hmn:Hid ((setW m).length≤1000000000):=lh (by rw [setW_len];omega)
 clear h ok m1 m2 hd2 hd2n hn
 go_enter Tryz.func225,Tryz.ntmps225
 go_upto_if 6 with (fail)
 go_cut [] (fun wx=>Hid (EncIn base E wx ov d2)∧Hid (Only (encB E ov) w wx))
 case first =>
  cases b with
  | false =>
   have HD2:Hid (d2=⟨m.p,m.lo,m.n,x⟩):=lh HD.out
   have f2:=frozen_of_row w E 2 _ _ HK.out.row
   have HS:=lh (EncRow.set2 HK.out.row x)
   clear HD c0 c1
   go_wp2_with fail
   go_meet
   refine ⟨lh ?_,lh (HS.out.2.mono (fun g h _=>List.mem_cons.2 (.inl (mSg.1 h))))⟩
   rw [HD2.out]
   exact ⟨HS.out.1,HK.out.own.only HS.out.2 (fun g hg e=>by rw [mSg] at hg;exact HK.out.ne g e hg),HK.out.hE,HK.out.ne⟩
  | true =>
   have HD2:Hid (d2=⟨m.p,m.lo+x,m.n,m.r-x⟩):=lh HD.out
   have HD3:Hid (setW d2=setW ⟨m.p,m.lo+x,m.n,m.r-x⟩):=lh (by rw [HD2.out])
   rw [HW0.out] at HD3
   have HL2:Hid (d2.lo % 4294967296=(m.lo+x) % 4294967296):=lh (by rw [HD2.out])
   rw [HLo.out] at HL2
   have HR2:Hid (d2.r=m.r-x):=lh (by rw [HD2.out])
   have HKr:=lh HK.out.row
   obtain ⟨LL,hLL⟩:∃ z,z=m.lo % 4294967296:=⟨_,rfl⟩
   rw [← hLL] at HD3 HL2 HKr hb0 c1
   obtain ⟨RR,hRR⟩:∃ z,z=m.r:=⟨_,rfl⟩
   rw [← hRR] at HR2 HKr c2 h2 hr1 hr0
   obtain ⟨b0,b1⟩:=hb0
   have HS1:=lh (EncRow.set1 HKr.out (LL+x))
   have HS2:=lh (HS1.out.1.set2 (RR-x))
   have f1:=frozen_of_row w E 1 _ _ HKr.out
   have f2:=frozen_of_row _ E 2 _ _ HS1.out.1
   obtain ⟨-,d1,e2⟩:=cells3 HS1.out.1
   obtain ⟨-,e1,-⟩:=cells3 HS2.out.1
   have g1:=frozen_of_row _ E 1 _ _ HS2.out.1
   have ha:=and_whole (a:=LL+x) (by omega) (by omega)
   clear HD HD2 hLL hRR HW0 HLo
   by_cases hc:4294967295<LL+x
   ·rw [if_pos hc] at HD3 HL2
    have HS3:=lh (HS2.out.1.set1 ((LL+x) % 4294967296))
    go_wp2_with fail
    generalize hW3:World.setCell (World.setCell (World.setCell w _ _) _ _) _ _=W3 at *
    have HO3:Hid (Only [E] w W3):=lh ((HS1.out.2.trans HS2.out.2 (fun _ h _=>h) (fun _ h _=>h)).trans HS3.out.2 (fun _ h _=>h) (fun _ h _=>h))
    have HRow:=lh HS3.out.1
    clear HS1 HS2 HS3 hW3 d1 e1 e2 g1 f1 f2 c0 c1 c2
    go_at_call 226
    refine (ecarry_any HRow.out (HK.out.own.only HO3.out (fun g hg e=>by rw [mSg] at hg;exact HK.out.ne g e hg)) HK.out.ne Hmn.out).mono ?_
    rintro e w4 ⟨rfl,hr4,ho4,hq4⟩
    go_wp2_with fail
    go_meet
    refine ⟨lh ⟨?_,?_,HK.out.hE,HK.out.ne⟩,lh (HO3.out.trans hq4 (fun g h _=>List.mem_cons.2 (.inl (mSg.1 h))) (fun g h _=>List.mem_cons_of_mem _ h))⟩
    ·rw [HL2.out,HR2.out];exact hr4
    ·rw [HD3.out];exact ho4
   ·rw [if_neg hc] at HD3 HL2
    go_wp2_with fail
    go_meet
    have hq2:=HS1.out.2.trans HS2.out.2 (U:=[E]) (fun _ h _=>h) (fun _ h _=>h)
    refine ⟨lh ⟨?_,?_,HK.out.hE,HK.out.ne⟩,lh (hq2.mono (fun g h _=>List.mem_cons.2 (.inl (mSg.1 h))))⟩
    ·rw [HL2.out,HR2.out];exact HS2.out.1
    ·rw [HD3.out];exact HK.out.own.only hq2 (fun g hg e=>by rw [mSg] at hg;exact HK.out.ne g e hg)
 case rest =>
  obtain ⟨HK2,HQ2⟩:=hcut
  clear c0 c1 c2 HK HW0 HLo HD
  go_wp2_with fail
  go_loopw [41] (fun _ wr=>∃ (k:Nat) (dc:Wrt) (ov':Value),k≤2∧Hid (EncIn base E wr ov' dc)∧Hid (WrtMid k dc)∧Hid (Wrt.fix k dc=Wrt.fix 2 d2)∧Hid (dc.n+k≤d2.n+2)∧Hid (Went (encB E ov) w (encB E ov') wr)) (fun _ wr=>(4294967296-intOf ((wr.cell? ⟨E,2,none⟩).getD (.int .u64 0))).toNat)
  case atStart=>exact ⟨2,d2,ov,by omega,HK2,HM,lh rfl,lh (Nat.le_refl _),lh ⟨HQ2.out,fun g hg=>.inl hg⟩⟩
  case round =>
   obtain ⟨k,dc,ov',hk,Hk,Hm,Hfix,Hpos,HQ⟩:=hrel
   have hr1:=Hm.out.r1
   have hrp:=Hm.out.rp
   have HKr:=lh Hk.out.row
   obtain ⟨RR,hRR⟩:∃ z,z=dc.r:=⟨_,rfl⟩
   rw [← hRR] at HKr hr1 hrp
   by_cases hlt:RR<16777216
   ·obtain ⟨k',rfl⟩:∃ k',k=k'+1:=by
     cases k with
     | zero=>have:=Hm.out.r0;rw [Int.pow_zero,Int.mul_one] at this;omega
     | succ k'=>exact ⟨k',rfl⟩
    have hltd:dc.r<16777216:=by rw [← hRR];exact hlt
    have HMs:=lh (Hm.out.shift hltd)
    have HFs:Hid (Wrt.fix k' dc.shift=Wrt.fix 2 d2):=lh (by rw [← Hfix.out];exact (if_pos hltd).symm)
    have hpos:=Hpos.out
    have hn2:=Hn2.out
    have hdn:dc.n≤1000000002:=by omega
    have HSh:=lh (setW_shift Hm.out.n4)
    have HLs:Hid (dc.shift.lo % 4294967296=dc.lo % 4294967296*256 % 4294967296):=lh (by show dc.lo*256 % 4294967296=_;omega)
    have HRs:Hid (dc.shift.r=RR*256):=lh (by rw [hRR];rfl)
    have HB:Hid (dc.lo / 16777216 % 256=dc.lo % 4294967296 / 16777216 % 256):=lh (by omega)
    have hl0:0≤dc.lo % 4294967296∧dc.lo % 4294967296<4294967296:=by omega
    have hlen:(setW dc).length≤1000000000:=by rw [setW_len];omega
    rw [HB.out] at HSh
    obtain ⟨LL,hLL⟩:∃ z,z=dc.lo % 4294967296:=⟨_,rfl⟩
    rw [← hLL] at HSh HLs HKr hl0
    obtain ⟨l0,l1⟩:=hl0
    have ha:=and_whole (a:=LL*256) (by omega) (by omega)
    have Hown:=lh Hk.out.own
    obtain ⟨S0,hS0⟩:∃ z,z=setW dc:=⟨_,rfl⟩
    rw [← hS0] at Hown HSh hlen
    obtain ⟨c0,c1,c2⟩:=cells3 HKr.out
    have f0:=frozen_of_row wr E 0 _ _ HKr.out
    have hin:∀ z∈[LL / 16777216 % 256],InK .u8 z:=by simp only [mSg,forall_eq,InK];omega
    have Hsrc:=lh (fun (W:World)=>ints_newG (k:=.u8) (w:=W) (t:=5) (l:=[LL / 16777216 % 256]) rfl (by simp [maxLen]) hin 1 rfl rfl)
    have Hby:=lh (show (S0.length+[LL / 16777216 % 256].length)*1≤140737488355328 by simp;omega)
    have Hbs:Hid (base≤wr.heap.size):=lh (by have:=Hk.out.hE;have:=(Hk.out.lt E (List.mem_cons_self ..)).2;omega)
    have HNe:=lh Hk.out.ne
    have Hob:=lh Hown.out.nilOr
    have HqA:=lh (Only.new wr (.cells #[.int .u8 (LL / 16777216 % 256)] 5)).drew
    have d0:=HqA.out.cell c0 (by simp)
    have d1:=HqA.out.cell c1 (by simp)
    have HNe2:Hid (E∉ov'.ownBlock.toList):=lh (fun hm=>HNe.out E (by simpa using hm) rfl)
    obtain ⟨N1,hN1⟩:∃ z,z=(S0 ++ [LL / 16777216 % 256]).length:=⟨_,rfl⟩
    have HN1:=lh hN1
    have hwb:IntKind.u8.wrap (LL / 16777216)=LL / 16777216 % 256:=by simp [IntKind.wrap,IntKind.bits,IntKind.signed]
    clear hin hRR hLL hS0 hltd hpos hdn hN1
    go_wp2_with fail
    -- <R
    refine wp_region_held_drew (S:=(fun w'=>w'.cell? ⟨E,1,none⟩=some (.int .u64 LL))) (by kernel_rfl) ?_ (fun hHeld=>?_)
    ·exact c1
    refine tk 0 46 ?_
    refine tk 1 47 ?_
    refine tk 2 48 ?_
    refine tk 3 49 ?_
    refine tk 5 51 ?_
    refine tk 6 52 ?_
    refine tk 7 53 ?_
    refine tk 8 54 ?_
    refine tk 9 55 ?_
    refine tk 10 56 ?_
    refine rdy (rdc 4 50 (fun K hK=>?_) (rdc 11 57 (fun K hK=>?_) .nil))
    ·go_simp
     refine hK.out _ _ ?_ (fun hHeld=>?_)
     ·first | exact c1 | exact d1
     clear hK K
     try simp only [Act.put,List.setIfInBounds_toArray,List.set_cons_zero,List.set_cons_succ]
     refine rdy (rdc 11 57 (fun K hK=>?_) .nil)
     go_simp
     refine hK.out _ _ ?_ (fun hHeld=>?_)
     ·exact d1
     exact qERacW0
    ·go_simp
     refine hK.out _ _ ?_ (fun hHeld=>?_)
     ·exact d1
     clear hK K
     try simp only [Act.put,List.setIfInBounds_toArray,List.set_cons_zero,List.set_cons_succ]
     refine rdy (rdc 4 50 (fun K hK=>?_) .nil)
     go_simp
     refine hK.out _ _ ?_ (fun hHeld=>?_)
     ·first | exact c1 | exact d1
     exact qERacW0
    -- R>
   ·have hge:¬ dc.r<16777216:=by rw [← hRR];exact hlt
    have hdone:Wrt.fix 2 d2=dc:=by
     rw [← Hfix.out]
     cases k with
     | zero=>rfl
     | succ k=>exact if_neg hge
    have HDone:=lh hdone
    have hlt':16777216≤RR:=by omega
    obtain ⟨c0,c1,c2⟩:=cells3 HKr.out
    clear hdone hge hRR
    go_wp2_with fail
    refine bodyPost_end (results_none Tryz.results225 _ _ _) rfl (HPost.out _ _ ?_)
    rw [HN.out,HDone.out]
    exact ⟨rfl,ov',Hk.out,HQ.out⟩
end
theorem wfix_p (q:List Int):∀ (k:Nat) (m:Wrt),Wrt.fix k ⟨q,m.lo,m.n,m.r⟩=⟨q,(Wrt.fix k m).lo,(Wrt.fix k m).n,(Wrt.fix k m).r⟩
 | 0,m=>rfl
 | k+1,m=>by
  unfold Wrt.fix
  simp only
  split
  ·exact wfix_p q k m.shift
  ·rfl
theorem wnarrow_p (q:List Int) (m:Wrt) (w:Int) (b:Bool):Wrt.narrow ⟨q,m.lo,m.n,m.r⟩ w b=⟨q,(m.narrow w b).lo,(m.narrow w b).n,(m.narrow w b).r⟩:=by
 unfold Wrt.narrow
 cases b with
 | true=>simp only [if_true];exact wfix_p q 2 ⟨m.p,m.lo+w,m.n,m.r-w⟩
 | false=>simp only [Bool.false_eq_true,if_false];exact wfix_p q 2 ⟨m.p,m.lo,m.n,w⟩
theorem EncIn.congr {base E:Nat} {w:World} {ov:Value} {m:Wrt} (h:EncIn base E w ov m) (q:List Int):EncIn base E w ov ⟨q,m.lo,m.n,m.r⟩:=⟨h.row,h.own,h.hE,h.ne⟩
section
theorem ecode_any {base E:Nat} {ov:Value} {m:Wrt} {p:Int} {w:World} (b:Bool) (h:EncIn base E w ov m) (ok:WrtOk m) (hp:31≤p∧p≤2017) (hn:m.n≤1000000000) :
  Calls Tryz.prog 223 #[.pointer (some ⟨E,0,none⟩),.int .i64 p,.bool b] w fun e w'=>e=.returned .nilIface∧∃ ov',EncIn base E w' ov' (m.narrow (m.r / 2048*p) b)∧Went (encB E ov) w (encB E ov') w':=by
 refine hidQ fun Q HPost=>?_
 obtain ⟨q1,q2⟩:=chance_w ok.r0 ok.r1 (p:=p) (by omega) (by omega)
 have HN:=lh (enarrow_any b h ok q1 q2 hn)
 have HC:=lh (fun w=>chance_any p w (by omega) (by omega))
 obtain ⟨-,-,c2⟩:=cells3 h.row
 have hr0:=ok.r0
 have hr1:=ok.r1
 obtain ⟨p0,p1⟩:=hp
 have hpw:IntKind.u64.wrap p=p:=by rw [IntKind.wrap_u64];omega
 have hdv:0≤m.r / 2048:=by omega
 have hdw:IntKind.u64.wrap (m.r / 2048)=m.r / 2048:=by rw [IntKind.wrap_u64];omega
 have hdt:m.r.tdiv 2048=m.r / 2048:=Int.tdiv_eq_ediv_of_nonneg (by omega)
 obtain ⟨d,hd⟩:∃ z,z=m.r / 2048:=⟨_,rfl⟩
 rw [← hd] at HN hdt hdw q1 q2 hdv HPost
 obtain ⟨x,hx⟩:∃ z,z=d*p:=⟨_,rfl⟩
 have hmw:IntKind.u64.wrap (d*p)=x:=by rw [hx,IntKind.wrap_u64];omega
 rw [← hx] at HN HPost
 generalize m.r=r at *
 clear h ok q1 q2 hd hx
 go_enter Tryz.func223,Tryz.ntmps223
 go_wp2_with fail
 go_at_call 215
 refine (HC.out _).mono ?_
 rintro e w1 ⟨rfl,rfl⟩
 go_wp2_with fail
 go_at_call 225
 refine HN.out.mono ?_
 rintro e w2 ⟨rfl,hx⟩
 have HX:=lh hx
 clear hx
 go_wp2_with fail
 exact HPost.out _ _ ⟨rfl,HX.out⟩
theorem eflat_any {base E:Nat} {ov:Value} {m:Wrt} {w:World} (b:Bool) (h:EncIn base E w ov m) (ok:WrtOk m) (hn:m.n≤1000000000) :
  Calls Tryz.prog 224 #[.pointer (some ⟨E,0,none⟩),.bool b] w fun e w'=>e=.returned (.tuple #[])∧∃ ov',EncIn base E w' ov' (m.narrow (m.r / 2) b)∧Went (encB E ov) w (encB E ov') w':=by
 have hr0:=ok.r0
 have hr1:=ok.r1
 have HN:=lh (enarrow_any (x:=m.r / 2) b h ok (by omega) (by omega) hn)
 obtain ⟨-,-,c2⟩:=cells3 h.row
 have hdt:m.r.tdiv 2=m.r / 2:=Int.tdiv_eq_ediv_of_nonneg (by omega)
 have hdw:IntKind.u64.wrap (m.r / 2)=m.r / 2:=by rw [IntKind.wrap_u64];omega
 generalize m.r / 2=x at *
 clear h ok
 go_enter Tryz.func224,Tryz.ntmps224
 go_wp2_with fail
 go_at_call 225
 refine HN.out.mono ?_
 rintro e w2 ⟨rfl,hx⟩
 have HX:=lh hx
 clear hx
 go_wp2_with fail
 refine bodyPost_end (results_none Tryz.results224 _ _ _) rfl ⟨rfl,HX.out⟩
theorem qEMod0 {p:Prop} (h:p:=by
 go_enter Tryz.func213,Tryz.ntmps213
 go_wp2_with fail
 go_region
 go_wp2_with fail
 refine bodyPost_end (results_none Tryz.results213 _ _ _) rfl (HPost.out _ _ ⟨rfl,?_,?_⟩)
 ·exact (HL.out _).1
 ·exact (HL.out _).2.drew):p:=h
theorem learnR_any {R D:Nat} {p:List Int} {T:TypeId} {w:World} (hr:w.heap[R]?=some (.cells (modCells p D).toArray T (0,0))) (hp:p.length=64) {c:Nat} (hc:c<64) (hx:31≤p.getD c 0∧p.getD c 0≤2017) (b:Bool) :
  Calls Tryz.prog 213 #[.pointer (some ⟨R,0,none⟩),.int .i64 c,.bool b] w fun e w'=>e=.returned (.tuple #[])∧w'.heap[R]?=some (.cells (modCells (p.set c (learnV (p.getD c 0) b)) D).toArray T (0,0))∧Only [R] w w':=by
 refine hidQ fun Q HPost=>?_
 have c0:w.cell? ⟨R,c,none⟩=some (.int .i64 (p.getD c 0)):=by rw [cell_of_row _ _ _ _ _ _ hr];exact modCells_at hp D hc
 have f0:=frozen_of_row w R c _ _ hr
 have HL:=lh (fun x:Int=>(by
  have h1:=heap_setCell_same w R c _ _ (.int .i64 x) hr
  rw [modCells_set hp D hc] at h1
  exact ⟨h1,(Only.refl [R] w).setCell (by simp) _⟩:(w.setCell ⟨R,c,none⟩ (.int .i64 x)).heap[R]?=some (.cells (modCells (p.set c x) D).toArray T (0,0))∧Only [R] w (w.setCell ⟨R,c,none⟩ (.int .i64 x))))
 have hci:(0:Int)≤(c:Int):=by omega
 have hci2:(c:Int)<64:=by omega
 clear hr
 generalize p.getD c 0=x at *
 cases b with
 | true =>
  exact qEMod0
 | false =>
  exact qEMod0
end
/-- a coder that writes, in block R, its encoder in block E -/
structure WrAt (base R E:Nat) (w:World) (ov:Value) (m:Wrt):Prop where
 row:w.heap[R]?=some (.cells (modCells m.p E).toArray 228 (0,0))
 enc:EncIn base E w ov m
 ok:WrtOk m
 hR:base≤R
 ne:R∉encB E ov
/-- the blocks of a coder that writes -/
abbrev wrB (R E:Nat) (ov:Value):List Nat:=R :: encB E ov
section
variable {base R E:Nat} {w w':World} {ov:Value} {m:Wrt} {S:List Nat}
theorem WrAt.lt (h:WrAt base R E w ov m):∀ g∈wrB R E ov,base≤g∧g<w.heap.size:=by
 intro g hg
 rcases List.mem_cons.1 hg with rfl | hg
 ·exact ⟨h.hR,(Array.getElem?_eq_some_iff.1 h.row).1⟩
 ·exact h.enc.lt g hg
theorem WrAt.only (h:WrAt base R E w ov m) (o:Only S w w') (hS:∀ g∈S,g∉wrB R E ov):WrAt base R E w' ov m :=
 ⟨o.rowAt h.row (fun hm=>hS R hm (List.mem_cons_self ..)),h.enc.only o (fun g hg hm=>hS g hg (List.mem_cons_of_mem _ hm)),h.ok,h.hR,h.ne⟩
theorem WrAt.quiet (h:WrAt base R E w ov m) (o:Only [] w w'):WrAt base R E w' ov m:=h.only o (by simp)
theorem WrAt.cell (h:WrAt base R E w ov m) {c:Nat} (hc:c<64):w.cell? ⟨R,c,none⟩=some (.int .i64 (m.p.getD c 0)):=by
 rw [cell_of_row _ _ _ _ _ _ h.row];exact modCells_at h.ok.len E hc
theorem WrAt.ptr (h:WrAt base R E w ov m):w.cell? ⟨R,64,none⟩=some (.pointer (some ⟨E,0,none⟩)):=by
 rw [cell_of_row _ _ _ _ _ _ h.row];exact modCells_ptr h.ok.len E
/-- the encoder gone on -/
theorem WrAt.gone (h:WrAt base R E w ov m) {ov':Value} (g:Went (encB E ov) w (encB E ov') w'):w'.heap[R]?=some (.cells (modCells m.p E).toArray 228 (0,0))∧R∉encB E ov'∧Went (wrB R E ov) w (wrB R E ov') w':=by
 refine ⟨g.1.rowAt h.row h.ne,fun hm=>?_,g.1.mono (fun x hx _=>List.mem_cons_of_mem _ hx),fun x hx=>?_⟩
 ·rcases g.2 R hm with h1 | h1
  ·exact h.ne h1
  ·have:=(h.lt R (List.mem_cons_self ..)).2;omega
 ·rcases List.mem_cons.1 hx with rfl | hx
  ·exact .inl (List.mem_cons_self ..)
  ·exact (g.2 x hx).imp_left (List.mem_cons_of_mem _)
end
section
theorem wbit_any {base R E:Nat} {w:World} {ov:Value} {m:Wrt} (h:WrAt base R E w ov m) {c:Nat} (hc:c<64) (b:Bool) (hn:m.n≤1000000000) :
  Calls Tryz.prog 220 #[.pointer (some ⟨R,0,none⟩),.int .i64 c,.bool b] w fun e w'=>e=.returned (.bool b)∧∃ ov',WrAt base R E w' ov' (bitW c b m).2∧Went (wrB R E ov) w (wrB R E ov') w':=by
 refine hidQ fun Q HPost=>?_
 have hx:=chW_at h.ok hc
 have c0:=h.cell hc
 have c1:=h.ptr
 have HOk:=lh (bitW_ok h.ok hc b).1
 have HB:Hid ((bitW c b m).2=⟨m.p.set c (learnV (m.p.getD c 0) b),(m.narrow (m.r / 2048*m.p.getD c 0) b).lo,(m.narrow (m.r / 2048*m.p.getD c 0) b).n,(m.narrow (m.r / 2048*m.p.getD c 0) b).r⟩):=lh (wnarrow_p _ m _ b)
 have HK:=lh h
 have Hx:=lh hx
 have hci:(0:Int)≤(c:Int):=by omega
 have hci2:(c:Int)<64:=by omega
 have HC:=lh (fun (w':World) (o:Only [] w w')=>ecode_any b (h.quiet o).enc h.ok hx hn)
 have HLen:=lh h.ok.len
 generalize (bitW c b m).2=mf at *
 generalize m.narrow (m.r / 2048*m.p.getD c 0) b=mn at *
 clear h hx hn
 go_enter Tryz.func220,Tryz.ntmps220
 go_wp2_with fail
 go_at_call 211
 refine (context_any c hc _).mono ?_
 rintro e w1 ⟨rfl,rfl⟩
 go_wp2_with fail
 go_region_with (first
  | (go_at_call 223;refine (HC.out _ (Only.refl _ _).drew).mono ?_;rintro e w2 ⟨rfl,ov2,he2,hw2⟩;have HE2:=lh he2;have HW2:=lh hw2;clear he2 hw2)
  | fail)
 all_goals
  have HG:=lh ((HK.out.quiet (Only.refl [] _).drew).gone HW2.out)
  go_wp2_with fail
  go_at_call 213
  refine (learnR_any HG.out.1 HLen.out hc Hx.out b).mono ?_
  rintro e w3 ⟨rfl,hr3,hq3⟩
  have HR3:=lh hr3
  have HQ3:=lh hq3
  clear hr3 hq3
  go_wp2_with fail
  refine HPost.out _ _ ⟨rfl,ov2,⟨?_,?_,HOk.out,HK.out.hR,HG.out.2.1⟩,?_⟩
  ·rw [HB.out];exact HR3.out
  ·rw [HB.out];exact (HE2.out.only HQ3.out (fun g hg hm=>by rw [mSg] at hg;subst hg;exact HG.out.2.1 hm)).congr _
  ·exact ⟨((Only.refl [] w).drew.trans HG.out.2.2.1 (U:=wrB R E ov) (by simp) (fun g h _=>h)).trans HQ3.out (fun g h _=>h) (fun g h _=>by rw [mSg] at h;subst h;exact List.mem_cons_self ..),HG.out.2.2.2⟩
theorem wflat_any {base R E:Nat} {w:World} {ov:Value} {m:Wrt} (h:WrAt base R E w ov m) (b:Bool) (hn:m.n≤1000000000) :
  Calls Tryz.prog 222 #[.pointer (some ⟨R,0,none⟩),.bool b] w fun e w'=>e=.returned (.bool b)∧∃ ov',WrAt base R E w' ov' (flatW b m).2∧Went (wrB R E ov) w (wrB R E ov') w':=by
 have c1:=h.ptr
 have HOk:=lh (flatW_ok h.ok b).1
 have HP:Hid ((flatW b m).2.p=m.p):=lh (h.ok.narrow (w:=m.r / 2) (by have:=h.ok.r0;omega) (by have:=h.ok.r0;omega) b).2.2.2
 have HK:=lh h
 have HC:=lh (eflat_any b h.enc h.ok hn)
 clear h
 go_enter Tryz.func222,Tryz.ntmps222
 go_wp2_with fail
 go_at_call 224
 refine HC.out.mono ?_
 rintro e w2 ⟨rfl,ov2,he2,hw2⟩
 have HE2:=lh he2
 have HG:=lh (HK.out.gone hw2)
 clear he2 hw2
 go_wp2_with fail
 go_ret
 refine ⟨rfl,ov2,⟨?_,HE2.out,HOk.out,HK.out.hR,HG.out.2.1⟩,HG.out.2.2⟩
 rw [HP.out];exact HG.out.1
theorem enew_any (w:World):Calls Tryz.prog 126 #[] w fun e w'=>e=.returned (.pointer (some ⟨w.heap.size,0,none⟩))∧EncIn w.heap.size w.heap.size w' (.slice none 0 0) wrtNew∧Only [] w w':=by
 have HQ:=lh (Only.new w)
 have HR:=lh (heap_alloc_new w (.cells #[.slice none 0 0,.int .u64 0,.int .u64 4294967295] 255))
 go_enter Tryz.func126,Tryz.ntmps126
 go_wp2_with fail
 go_ret
 exact ⟨rfl,⟨HR.out,Own.nil _ _ _ _,Nat.le_refl _,fun g hg=>by simp [Value.ownBlock] at hg⟩,HQ.out _⟩
theorem wnew_any (w:World):Calls Tryz.prog 105 #[] w fun e w'=>∃ R E,e=.returned (.pointer (some ⟨R,0,none⟩))∧WrAt w.heap.size R E w' (.slice none 0 0) wrtNew∧Only [] w w':=by
 refine hidQ fun Q HPost=>?_
 go_enter Tryz.func105,Tryz.ntmps105
 go_wp2_with fail
 go_at_call 110
 refine (begin_any w).mono ?_
 rintro e w1 ⟨rfl,hq1⟩
 have HQ1:=lh hq1
 clear hq1
 obtain ⟨C,hC⟩:∃ C:Array Value,C=(List.replicate 64 (Value.int .i64 1024)).toArray:=⟨_,rfl⟩
 rw [← hC]
 have HC:=lh hC
 clear hC
 go_wp2_with fail
 go_at_call 126
 refine (enew_any w1).mono ?_
 rintro e w2 ⟨rfl,he,hq2⟩
 have HE:=lh he
 have HQ2:=lh hq2
 clear he hq2
 have hz1:=HQ1.out.size
 generalize w1.heap.size=E at *
 obtain ⟨C2,hC2⟩:∃ C:Array Value,C=(modCells (List.replicate 64 1024) E).toArray:=⟨_,rfl⟩
 have hb:(Instr.build 228 #[(0,.agg C),(1,.pointer (some ⟨E,0,none⟩))]).run Tryz.prog w2=.ok (.agg C2) w2:=by rw [HC.out,hC2];kernel_rfl
 have Hb:=lh hb
 have HC2:=lh hC2
 clear hb hC2
 rename_i K0 hK0
 simp only []
 refine hK0 _ _ ?_
 clear hK0
 refine wpList_build rfl 228 [(0,.tmp 1),(1,.tmp 2)] rfl Hb.out ?_
 go_wp2_with fail
 have hqn:=Only.new w2 (.cells C2 228)
 have hlt:=(HE.out.lt E (List.mem_cons_self ..)).2
 refine HPost.out _ _ ⟨w2.heap.size,E,rfl,⟨?_,?_,wrtNew_ok,by omega,by simp [Value.ownBlock];omega⟩,(HQ1.out.q HQ2.out).q hqn⟩
 ·rw [HC2.out];exact heap_alloc_new _ _
 ·have:=HE.out.quiet hqn
  exact ⟨this.row,this.own.lower hz1,hz1,this.ne⟩
theorem mBitW (R:Nat) (w:World):(Go.method 419 184 (.pointer (some ⟨R,0,none⟩)) "Bit").run Tryz.prog w=.ok (220,.pointer (some ⟨R,0,none⟩)) w:=by kernel_rfl
theorem mFlatW (R:Nat) (w:World):(Go.method 419 184 (.pointer (some ⟨R,0,none⟩)) "Flat").run Tryz.prog w=.ok (222,.pointer (some ⟨R,0,none⟩)) w:=by kernel_rfl
theorem nFlatW (R:Nat) (w:World):(nilAhead 419 184 (.pointer (some ⟨R,0,none⟩)) "Flat").run Tryz.prog w=.ok (some false) w:=by kernel_rfl
theorem nBitW (R:Nat) (w:World):(nilAhead 419 184 (.pointer (some ⟨R,0,none⟩)) "Bit").run Tryz.prog w=.ok (some false) w:=by kernel_rfl
/-- the coder that writes, in block R, its encoder in block E -/
@[reducible] def pcWrite (base R E:Nat):PC where
 σ:=Wrt
 C:=wrC
 T:=184
 R:=R
 fb:=220
 ff:=222
 base:=base
 At:=fun F w m=>∃ ov,F=wrB R E ov∧WrAt base R E w ov m
 Ok:=fun n m=>WrtOk m∧m.n≤n
 mB:=mBitW R
 mF:=mFlatW R
 eB:=fun args w=>MuLone.run_callFunc_enter Tryz.func220 (by kernel_rfl) rfl args w
 eF:=fun args w=>MuLone.run_callFunc_enter Tryz.func222 (by kernel_rfl) rfl args w
 nB:=nBitW R
 nF:=nFlatW R
 ok_le:=fun h k=>⟨h.1,Nat.le_trans h.2 k⟩
 ok_bit:=fun c b h hc=>⟨(bitW_ok h.1 hc b).1,by have:=(bitW_ok h.1 hc b).2.2;have:=h.2;show (bitW c b _).2.n≤_;omega⟩
 ok_flat:=fun b h=>⟨(flatW_ok h.1 b).1,by have:=(flatW_ok h.1 b).2.2;have:=h.2;show (flatW b _).2.n≤_;omega⟩
 only:=fun h o hS=>by
  obtain ⟨ov,rfl,hw⟩:=h
  exact ⟨ov,rfl,hw.only o (fun g hg=>(hS g hg).2)⟩
 lt:=fun h g hg=>by
  obtain ⟨ov,rfl,hw⟩:=h
  exact (hw.lt g hg).2
 base_le:=fun h=>by
  obtain ⟨ov,rfl,hw⟩:=h
  have:=hw.lt R (List.mem_cons_self ..);omega
 bit:=fun c b h ok hn hc=>by
  obtain ⟨ov,rfl,hw⟩:=h
  exact (wbit_any hw hc b (by have:=ok.2;omega)).mono (fun e w' r=>⟨r.1,by obtain ⟨ov',x,y⟩:=r.2;exact ⟨_,⟨ov',rfl,x⟩,y⟩⟩)
 flat:=fun b h ok hn=>by
  obtain ⟨ov,rfl,hw⟩:=h
  exact (wflat_any hw b (by have:=ok.2;omega)).mono (fun e w' r=>⟨r.1,by obtain ⟨ov',x,y⟩:=r.2;exact ⟨_,⟨ov',rfl,x⟩,y⟩⟩)
end
end Go.Proofs.YtkigikallkpbcaaGreatDoor
