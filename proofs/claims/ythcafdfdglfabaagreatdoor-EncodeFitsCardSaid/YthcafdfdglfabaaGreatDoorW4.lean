/- Joined texts: ERacW, EMod. Conditions: each part names its own. -/
import Derived.Test.YthcafdfdglfabaaGreatDoorW2
namespace Go.Proofs.YthcafdfdglfabaaGreatDoor
open Go.RowKit
set_option linter.unusedVariables false
set_option linter.unusedSimpArgs false
set_option maxRecDepth 100000
set_option maxHeartbeats 16000000
section
theorem zt {base E:Nat} {ov:Value} {l:List Int} {a b:Int} {w:World} (hr:fF E w ov a b) (ho:Own .u8 5 base w ov l) (OT:∀ g,ov.ownBlock=some g->g≠E) (hl:l.length<=1000000000) :
  Calls Tryz.prog 262 #[.pointer (some ⟨E,0,none⟩)] w fun e w'=>e=.returned (.tuple #[])/\fF E w' ov a b/\Own .u8 5 base w' ov (jb l.length l)/\ae ov.ownBlock.toList w w':=by
 refine aN fun Q MM=>?_
 obtain ⟨c0,c1,c2⟩:=fG hr;have HR:=lh hr;have MR:(l.length:Int)<=1000000000:=Mf;rcases ho.nilOr with ⟨rfl,rfl⟩ | ⟨g,cap,rfl⟩
 ·have HO:=lh ho
  clear hr ho OT;go_enter Tryz.func262,Tryz.ntmps262;go_wp2_with fail;go_loopw [2] (fun i wr=>i=.int .i64 (-1)/\w=wr) (fun _ _=>0)
  case atStart=>exact ⟨rfl,rfl⟩
  case round =>
   obtain ⟨rfl,rfl⟩:=hrel;go_wp2_with fail;exact bodyPost_end (results_none Tryz.results262 _ _ _) rfl (MM.out _ _ ⟨rfl,HR.out,HO.out,ae.refl _ _⟩)
 ·have hob:(Value.slice (some ⟨g,0,none⟩) l.length cap).ownBlock=some g:=rfl
  have HNe:Hid (g≠E):=lh (OT g hob);have HO:=lh ho;have hnE:E≠g:=fun e=>HNe.out e.symm
  clear hr ho OT hl;rw [hob] at MM;go_enter Tryz.func262,Tryz.ntmps262;go_wp2_with fail;clear c0 c1 c2;obtain ⟨n,hn⟩:∃ n,n=l.length:=⟨_,rfl⟩
  rw [<- hn] at MR HO HR MM |-
  have Hn:=lh hn;clear hn;go_loopw [2] (fun i wr=>∃ (k:Nat) (ys:List Int),k<=n/\i=.int .i64 ((k:Int)-1)/\Hid (ys.length=n)/\Hid (jb k ys=jb n l)/\Hid (Own .u8 5 base wr (.slice (some ⟨g,0,none⟩) n cap) ys)/\Hid (ae [g] w wr)) (fun i _=>(intOf i+1).toNat)
  case atStart=>exact ⟨n,l,Lm _,Mm,lh Hn.symm,lh rfl,HO,lh (ae.refl _ _)⟩
  case round =>
   obtain ⟨k,ys,hk,rfl,Ol,Jaa,Nc,MW⟩:=hrel;have Rp:Hid (fF E wr (.slice (some ⟨g,0,none⟩) n cap) a b):=lh (MW.rowAt HR (by rw [mSg];exact hnE));cases k with
   | zero =>
    have Xc:¬ (0:Int)<=((0:Nat):Int)-1:=Mf;have Pq:Hid (ys=jb n l):=lh Jaa;go_wp2_with fail;refine bodyPost_end (results_none Tryz.results262 _ _ _) rfl (MM.out _ _ ⟨rfl,Rp.out,?_,MW.out⟩);rw [<- Pq.out];exact Nc
   | succ k =>
    have Ny:(k:Int)<(n:Int):=Mf;have NU:(0:Int)<=(k:Int):=Mf;have e1:(((k+1:Nat):Int)-1)=(k:Int):=Mf;rw [e1];have hkn:k<ys.length:=by rw [Ol.out];omega
    obtain ⟨c0,-,-⟩:=fG Rp;have cx:=Nc.cellS Ol.symm hkn;have fx:=Nc.frzS Ol.symm k;have MX:=Nc.2 (ys.getD k 0) (by rw [Le,Lf hkn];exact LM _);simp only [InK] at MX;have Ud:jb (k+1) ys=if (ys.getD k 0+1) % 256=0 then jb k (ys.set k 0) else ys.set k ((ys.getD k 0+1) % 256):=rfl
    have HS:=lh (fun (x:Int) (hx:InK .u8 x)=>Nc.storeS Ol.symm hx k);have Ts:IntKind.u8.wrap (ys.getD k 0+1)=(ys.getD k 0+1) % 256:=by simp [IntKind.wrap,IntKind.bits,IntKind.signed]
    generalize ys.getD k 0=y at *
    obtain ⟨z,hz⟩:∃ z,z=(y+1) % 256:=⟨_,rfl⟩
    rw [<- hz] at Ud Ts;have Jeh:InK .u8 z:=by simp only [InK];omega
    obtain ⟨NC,NE⟩:=HS.out z Jeh;have NT:=lh NC;have OH:=lh NE;have c0b:=NE.cell c0 (by rw [mSg];exact hnE);have cxb:=NC.cellS (by rw [LK];exact Ol.symm) (i:=k) (by rw [LK];exact hkn);have e2:(ys.set k z).getD k 0=z:=by rw [Le,LZ hkn];rfl
    rw [e2] at cxb;have Rq:=lh Ud;have HZ:=lh hz;clear NC NE Ud hz HS e2 Jeh MX hkn;by_cases hz0:z=0
    ·subst hz0
     have Jdj:Hid (jb k (ys.set k 0)=jb n l):=lh (by rw [<- Jaa.out,Rq.out,if_pos rfl]);clear Rq HZ;go_wp2_with fail;exact ⟨⟨k,ys.set k 0,Mf,Mm,lh (by rw [LK];exact Ol),Jdj,NT,lh (MW.trans OH (fun _ h _=>h) (fun _ h _=>h))⟩,by simp [intOf]⟩
    ·have Pm:Hid (ys.set k z=jb n l):=lh (by rw [<- Jaa.out,Rq.out,if_neg hz0])
     clear Rq HZ;go_wp2_with fail;refine bodyPost_end (results_none Tryz.results262 _ _ _) rfl (MM.out _ _ ⟨rfl,?_,?_,MW.trans OH.out (fun _ h _=>h) (fun _ h _=>h)⟩)
     ·exact OH.rowAt Rp (by rw [mSg];exact hnE)
     ·rw [<- Pm.out];exact NT
theorem Cu {p:Prop} (h:p:=by
 clear hK K
 try simp only [Act.put,Lg,Lj,Lk]
 refine rdy (rdc 12 58 (fun K hK=>?_) .nil);refine ce rfl (.tmp 50) (.tmp 57) _ rfl E8 (Jby.quiet RY) rfl ((Jaf.out wr).quiet (ae.refl [] _).drew) rfl Hby (Lz Hbs RY.size) (fun v1 w1 MN NH=>?_);obtain ⟨g1,Pc,Rg,-,-⟩:=MN.form Mg;rw [<- HN1.out] at Rg;subst Rg;have Pz:fF E w1 Ow LL RR:=NH.only.rowAt (RY.row Uq) JiD;have Nq:=lh Pz;obtain ⟨cx1,dx1,ex1⟩:=fG Pz;have fx1:=frozen_of_row w1 E 0 _ _ Pz;have fy1:=frozen_of_row w1 E 1 _ _ Pz;have fz1:=frozen_of_row w1 E 2 _ _ Pz;have NC:=Pz.set0 (.slice (some ⟨g1,0,none⟩) N1 Pc);obtain ⟨-,sx1,-⟩:=fG NC.1;have NT:=lh NC;have Oy:=lh MN;have Od:=lh NH;clear MN NH Pz NC;refine hK.out _ _ ?_ (fun hHeld=>?_)
 ·exact dx1
 clear hK K
 try simp only [Act.put,Lg,Lj,Lk]
 refine tk 13 59 ?_;refine tk 14 60 ?_;refine rdy (rdn 15 (fun K hK=>?_) .nil);go_simp;refine hK.out _ _ ?_ (fun hHeld=>?_)
 ·exact sx1
 clear hK K
 try simp only [Act.put,Lg,Lj,Lk]
 refine wpAnyH_done Mh ?_ _;go_wp2_with fail;have NE:=NT.1.set1 (LL*256 % 4294967296);have Uc:=NE.1.set2 (RR*256);have hsO:=(NT.2.trans NE.2 (U:=[E]) (fun _ h _=>h) (fun _ h _=>h)).trans Uc.2 (U:=[E]) (fun _ h _=>h) (fun _ h _=>h);have JdR:∀ g,(Value.slice (some ⟨g1,0,none⟩) N1 Pc).ownBlock=some g->g≠E:=fun g hg e=>by
  rcases Od.at_ with h3 | h3
  ·exact HNe g (by rw [<- h3];exact hg) e
  ·have h4:=h3 g hg
   have h5:=(Hk.lt E (List.mem_cons_self ..)).2;have h6:=RY.size;omega
 have Tm:bw (et E Ow) wr (et E (.slice (some ⟨g1,0,none⟩) N1 Pc)) _:=⟨(RY.trans Od.only (U:=et E Ow) Mg (fun g h _=>Lx _ h)).trans hsO (U:=et E Ow) (fun _ h _=>h) (fun g h _=>List.mem_cons.2 (.inl (mSg.1 h))),fun g hg=>by
  rcases List.mem_cons.1 hg with rfl | hg
  ·exact .inl (List.mem_cons_self ..)
  ·have Nl:(Value.slice (some ⟨g1,0,none⟩) N1 Pc).ownBlock=some g:=Mt
   rcases Od.at_ with h3 | h3
   ·exact .inl (Lx _ (by rw [<- h3];exact hg))
   ·exact .inr (Lz RY.size (h3 g Nl))⟩
 have e3:=(fG Uc.1).2.2;refine ⟨⟨k',dc.shift,_,Mf,lh ⟨?_,?_,Hk.hE,JdR⟩,HMs,HFs,lh ?_,lh (HQ.trans Tm)⟩,?_⟩
 ·rw [ZG.out,Ou.out];exact Uc.1
 ·rw [HSh.out];exact Oy.only hsO (fun g hg e=>by rw [mSg] at hg;exact JdR g e hg)
 ·have:=Jad.out;show dc.n+1+k'<=_;omega
 ·rw [e3,c2];simp only [intOf,Option.getD_some];omega):p:=h
theorem pC {base E:Nat} {ov:Value} {m:Wrt} {x:Int} {w:World} (b:Bool) (h:ft base E w ov m) (ok:cd m) (h1:8192<=x) (h2:x<=m.r-8192) (hn:m.n<=1000000000) :
  Calls Tryz.prog 261 #[.pointer (some ⟨E,0,none⟩),.int .u64 x,.bool b] w fun e w'=>e=.returned (.tuple #[])/\∃ Ow,ft base E w' Ow (m.narrow x b)/\bw (et E ov) w (et E Ow) w':=by
 refine aN fun Q MM=>?_
 obtain ⟨d2,YE⟩:∃ d2:Wrt,d2=if b then ⟨m.p,m.lo+x,m.n,m.r-x⟩ else ⟨m.p,m.lo,m.n,x⟩:=⟨_,rfl⟩
 obtain ⟨m1,m2,-,-⟩:=ok.mid h1 h2;have HM:Hid (iF 2 d2):=lh (by rw [YE];cases b;exact m2;exact m1);have HN:Hid (m.narrow x b=Wrt.fix 2 d2):=lh (by rw [YE];cases b <;> rfl);have JdJ:d2.n=m.n:=by rw [YE];cases b <;> rfl
 have Hn2:Hid (d2.n<=1000000000):=lh (by rw [JdJ];exact hn);have HD:=lh YE;have hb0:0<=m.lo % 4294967296/\m.lo % 4294967296<4294967296:=Mf;have Pz:=ok.r1;have RQ:=ok.r0;obtain ⟨c0,c1,c2⟩:=fG h.row;have HK:=lh h;have HW0:=lh (AF m (x:=x) Mf Mf);have HLo:Hid ((m.lo+x) % 4294967296=if 4294967295<m.lo % 4294967296+x then (m.lo % 4294967296+x) % 4294967296 else m.lo % 4294967296+x):=lh (by split <;> omega);have Hmn:Hid ((kn m).length<=1000000000):=lh (by rw [oF];omega);clear h ok m1 m2 YE JdJ hn;go_enter Tryz.func261,Tryz.ntmps261;go_upto_if 6 with (fail)
 go_cut [] (fun wx=>Hid (ft base E wx ov d2)/\Hid (ae (et E ov) w wx))
 case first =>
  cases b with
  | false =>
   have Zd:Hid (d2=⟨m.p,m.lo,m.n,x⟩):=lh HD;have f2:=frozen_of_row w E 2 _ _ HK.row;have HS:=lh (fF.set2 HK.row x);clear HD c0 c1;go_wp2_with fail;go_meet;refine ⟨lh ?_,lh (HS.2.mono (fun g h _=>List.mem_cons.2 (.inl (mSg.1 h))))⟩;rw [Zd.out];exact ⟨HS.1,HK.own.only HS.2 (fun g hg e=>by rw [mSg] at hg;exact HK.ne g e hg),HK.hE,HK.ne⟩
  | true =>
   have Zd:Hid (d2=⟨m.p,m.lo+x,m.n,m.r-x⟩):=lh HD;have HD3:Hid (kn d2=kn ⟨m.p,m.lo+x,m.n,m.r-x⟩):=lh (by rw [Zd.out]);rw [HW0.out] at HD3;have HL2:Hid (d2.lo % 4294967296=(m.lo+x) % 4294967296):=lh (by rw [Zd.out]);rw [HLo.out] at HL2;have Px:Hid (d2.r=m.r-x):=lh (by rw [Zd.out]);have Uq:=lh HK.row;obtain ⟨LL,hLL⟩:∃ z,z=m.lo % 4294967296:=⟨_,rfl⟩
   rw [<- hLL] at HD3 HL2 Uq hb0 c1;obtain ⟨RR,Zl⟩:∃ z,z=m.r:=⟨_,rfl⟩
   rw [<- Zl] at Px Uq c2 h2 Pz RQ;obtain ⟨b0,b1⟩:=hb0;have NT:=lh (fF.set1 Uq (LL+x));have OH:=lh (NT.1.set2 (RR-x));have f1:=frozen_of_row w E 1 _ _ Uq;have f2:=frozen_of_row _ E 2 _ _ NT.1;obtain ⟨-,d1,e2⟩:=fG NT.1;obtain ⟨-,e1,-⟩:=fG OH.1;have g1:=frozen_of_row _ E 1 _ _ OH.1;have ha:=sX (a:=LL+x) Mf Mf;clear HD Zd hLL Zl HW0 HLo;by_cases hc:4294967295<LL+x
   ·rw [if_pos hc] at HD3 HL2
    have Yo:=lh (OH.1.set1 ((LL+x) % 4294967296));go_wp2_with fail;generalize PZ:World.setCell (World.setCell (World.setCell w _ _) _ _) _ _=W3 at *
    have Ql:Hid (ae [E] w W3):=lh ((NT.2.trans OH.2 (fun _ h _=>h) (fun _ h _=>h)).trans Yo.2 (fun _ h _=>h) (fun _ h _=>h));have OJ:=lh Yo.1;clear NT OH Yo PZ d1 e1 e2 g1 f1 f2 c0 c1 c2;go_at_call 262;refine (zt OJ (HK.own.only Ql (fun g hg e=>by rw [mSg] at hg;exact HK.ne g e hg)) HK.ne Hmn).mono ?_;rintro e w4 ⟨rfl,hr4,ho4,Ng⟩;go_wp2_with fail;go_meet;refine ⟨lh ⟨?_,?_,HK.hE,HK.ne⟩,lh (Ql.trans Ng (fun g h _=>List.mem_cons.2 (.inl (mSg.1 h))) (fun g h _=>Lx _ h))⟩
    ·rw [HL2.out,Px.out];exact hr4
    ·rw [HD3.out];exact ho4
   ·rw [if_neg hc] at HD3 HL2
    go_wp2_with fail;go_meet;have MV:=NT.2.trans OH.2 (U:=[E]) (fun _ h _=>h) (fun _ h _=>h);refine ⟨lh ⟨?_,?_,HK.hE,HK.ne⟩,lh (MV.mono (fun g h _=>List.mem_cons.2 (.inl (mSg.1 h))))⟩
    ·rw [HL2.out,Px.out];exact OH.1
    ·rw [HD3.out];exact HK.own.only MV (fun g hg e=>by rw [mSg] at hg;exact HK.ne g e hg)
 case rest =>
  obtain ⟨HK2,Na⟩:=hcut;clear c0 c1 c2 HK HW0 HLo HD;go_wp2_with fail;go_loopw [41] (fun _ wr=>∃ (k:Nat) (dc:Wrt) (Ow:Value),k<=2/\Hid (ft base E wr Ow dc)/\Hid (iF k dc)/\Hid (Wrt.fix k dc=Wrt.fix 2 d2)/\Hid (dc.n+k<=d2.n+2)/\Hid (bw (et E ov) w (et E Ow) wr)) (fun _ wr=>(4294967296-intOf ((wr.cell? ⟨E,2,none⟩).getD (.int .u64 0))).toNat)
  case atStart=>exact ⟨2,d2,ov,Mf,HK2,HM,lh rfl,lh (Lm _),lh ⟨Na,fun g hg=>.inl hg⟩⟩
  case round =>
   obtain ⟨k,dc,Ow,hk,Hk,Hm,Jdc,Jad,HQ⟩:=hrel;have Pz:=Hm.r1;have hrp:=Hm.rp;have Uq:=lh Hk.row;obtain ⟨RR,Zl⟩:∃ z,z=dc.r:=⟨_,rfl⟩
   rw [<- Zl] at Uq Pz hrp;by_cases MO:RR<16777216
   ·obtain ⟨k',rfl⟩:∃ k',k=k'+1:=by
     cases k with
     | zero=>have:=Hm.r0;rw [Int.pow_zero,Int.mul_one] at this;omega
     | succ k'=>exact ⟨k',rfl⟩
    have Jau:dc.r<16777216:=by rw [<- Zl];exact MO
    have HMs:=lh (Hm.shift Jau);have HFs:Hid (Wrt.fix k' dc.shift=Wrt.fix 2 d2):=lh (by rw [<- Jdc.out];exact (if_pos Jau).symm);have JdX:=Jad.out;have hn2:=Hn2.out;have hdn:dc.n<=1000000002:=Mf;have HSh:=lh (AG Hm.n4);have ZG:Hid (dc.shift.lo % 4294967296=dc.lo % 4294967296*256 % 4294967296):=lh (by show dc.lo*256 % 4294967296=_;omega);have Ou:Hid (dc.shift.r=RR*256):=lh (by rw [Zl];rfl);have HB:Hid (dc.lo / 16777216 % 256=dc.lo % 4294967296 / 16777216 % 256):=lh Mf;have WC:0<=dc.lo % 4294967296/\dc.lo % 4294967296<4294967296:=Mf;have MR:(kn dc).length<=1000000000:=by rw [oF];omega
    rw [HB.out] at HSh;obtain ⟨LL,hLL⟩:∃ z,z=dc.lo % 4294967296:=⟨_,rfl⟩
    rw [<- hLL] at HSh ZG Uq WC;obtain ⟨l0,l1⟩:=WC;have ha:=sX (a:=LL*256) Mf Mf;have Jby:=lh Hk.own;obtain ⟨S0,UQ⟩:∃ z,z=kn dc:=⟨_,rfl⟩
    rw [<- UQ] at Jby HSh MR;obtain ⟨c0,c1,c2⟩:=fG Uq;have f0:=frozen_of_row wr E 0 _ _ Uq;have MX:∀ z∈[LL / 16777216 % 256],InK .u8 z:=by simp only [mSg,forall_eq,InK];omega
    have Jaf:=lh (fun (W:World)=>bg (k:=.u8) (w:=W) (t:=5) (l:=[LL / 16777216 % 256]) rfl Mo MX 1 rfl rfl);have Hby:=lh (show (S0.length+[LL / 16777216 % 256].length)*1<=140737488355328 by simp;omega);have Hbs:Hid (base<=wr.heap.size):=lh (by have:=Hk.hE;have:=(Hk.lt E (List.mem_cons_self ..)).2;omega);have HNe:=lh Hk.ne;have Tc:=lh Jby.nilOr;have RY:=lh (ae.new wr (.cells #[.int .u8 (LL / 16777216 % 256)] 5)).drew;have d0:=RY.cell c0 Mg;have d1:=RY.cell c1 Mg;have JiD:Hid (E∉Ow.ownBlock.toList):=lh (fun hm=>HNe.out E Mu rfl);obtain ⟨N1,YC⟩:∃ z,z=(S0 ++ [LL / 16777216 % 256]).length:=⟨_,rfl⟩
    have HN1:=lh YC;have hwb:IntKind.u8.wrap (LL / 16777216)=LL / 16777216 % 256:=by simp [IntKind.wrap,IntKind.bits,IntKind.signed]
    clear MX Zl hLL UQ Jau JdX hdn YC;go_wp2_with fail;refine wp_region_held_drew (S:=(fun w'=>w'.cell? ⟨E,1,none⟩=some (.int .u64 LL))) Mh ?_ (fun hHeld=>?_)
    ·exact c1
    refine tk 0 46 ?_;refine tk 1 47 ?_;refine tk 2 48 ?_;refine tk 3 49 ?_;refine tk 5 51 ?_;refine tk 6 52 ?_;refine tk 7 53 ?_;refine tk 8 54 ?_;refine tk 9 55 ?_;refine tk 10 56 ?_;refine rdy (rdc 4 50 (fun K hK=>?_) (rdc 11 57 (fun K hK=>?_) .nil))
    ·go_simp
     refine hK.out _ _ ?_ (fun hHeld=>?_)
     ·first | exact c1 | exact d1
     clear hK K
     try simp only [Act.put,Lg,Lj,Lk]
     refine rdy (rdc 11 57 (fun K hK=>?_) .nil);go_simp;refine hK.out _ _ ?_ (fun hHeld=>?_)
     ·exact d1
     exact Cu
    ·go_simp
     refine hK.out _ _ ?_ (fun hHeld=>?_)
     ·exact d1
     clear hK K
     try simp only [Act.put,Lg,Lj,Lk]
     refine rdy (rdc 4 50 (fun K hK=>?_) .nil);go_simp;refine hK.out _ _ ?_ (fun hHeld=>?_)
     ·first | exact c1 | exact d1
     exact Cu
   ·have hge:¬ dc.r<16777216:=by rw [<- Zl];exact MO
    have JhD:Wrt.fix 2 d2=dc:=by
     rw [<- Jdc.out];cases k with
     | zero=>rfl
     | succ k=>exact if_neg hge
    have SR:=lh JhD;have JBH:16777216<=RR:=Mf;obtain ⟨c0,c1,c2⟩:=fG Uq;clear JhD hge Zl;go_wp2_with fail;refine bodyPost_end (results_none Tryz.results261 _ _ _) rfl (MM.out _ _ ?_);rw [HN.out,SR.out];exact ⟨rfl,Ow,Hk.out,HQ.out⟩
end
theorem Ba (q:List Int):∀ (k:Nat) (m:Wrt),Wrt.fix k ⟨q,m.lo,m.n,m.r⟩=⟨q,(Wrt.fix k m).lo,(Wrt.fix k m).n,(Wrt.fix k m).r⟩
 | 0,m=>rfl
 | k+1,m=>by
  unfold Wrt.fix;simp only
  split
  ·exact Ba q k m.shift
  ·rfl
theorem uG (q:List Int) (m:Wrt) (w:Int) (b:Bool):Wrt.narrow ⟨q,m.lo,m.n,m.r⟩ w b=⟨q,(m.narrow w b).lo,(m.narrow w b).n,(m.narrow w b).r⟩:=by
 unfold Wrt.narrow;cases b with
 | true=>simp only [if_true];exact Ba q 2 ⟨m.p,m.lo+w,m.n,m.r-w⟩
 | false=>simp only [Bool.false_eq_true,if_false];exact Ba q 2 ⟨m.p,m.lo,m.n,w⟩
theorem ft.congr {base E:Nat} {w:World} {ov:Value} {m:Wrt} (h:ft base E w ov m) (q:List Int):ft base E w ov ⟨q,m.lo,m.n,m.r⟩:=⟨h.row,h.own,h.hE,h.ne⟩
section
theorem Db {base E:Nat} {ov:Value} {m:Wrt} {p:Int} {w:World} (b:Bool) (h:ft base E w ov m) (ok:cd m) (hp:31<=p/\p<=2017) (hn:m.n<=1000000000) :
  Calls Tryz.prog 257 #[.pointer (some ⟨E,0,none⟩),p,.bool b] w fun e w'=>e=.returned .nilIface/\∃ Ow,ft base E w' Ow (m.narrow (m.r / 2048*p) b)/\bw (et E ov) w (et E Ow) w':=by
 refine aN fun Q MM=>?_
 obtain ⟨q1,q2⟩:=nE ok.r0 ok.r1 (p:=p) Mf Mf;have HN:=lh (pC b h ok q1 q2 hn);have HC:=lh (fun w=>zj p w Mf Mf);obtain ⟨-,-,c2⟩:=fG h.row;have RQ:=ok.r0;have Pz:=ok.r1;obtain ⟨p0,p1⟩:=hp;have hpw:IntKind.u64.wrap p=p:=by rw [IntKind.wrap_u64];omega
 have hdv:0<=m.r / 2048:=Mf;have hdw:IntKind.u64.wrap (m.r / 2048)=m.r / 2048:=by rw [IntKind.wrap_u64];omega
 have hdt:m.r.tdiv 2048=m.r / 2048:=Int.tdiv_eq_ediv_of_nonneg Mf;obtain ⟨d,hd⟩:∃ z,z=m.r / 2048:=⟨_,rfl⟩
 rw [<- hd] at HN hdt hdw q1 q2 hdv MM;obtain ⟨x,hx⟩:∃ z,z=d*p:=⟨_,rfl⟩
 have hmw:IntKind.u64.wrap (d*p)=x:=by rw [hx,IntKind.wrap_u64];omega
 rw [<- hx] at HN MM;generalize m.r=r at *
 clear h ok q1 q2 hd hx;go_enter Tryz.func257,Tryz.ntmps257;go_wp2_with fail;go_at_call 260;refine (HC.out _).mono ?_;rintro e w1 ⟨rfl,rfl⟩;go_wp2_with fail;go_at_call 261;refine HN.mono ?_;rintro e w2 ⟨rfl,hx⟩;have HX:=lh hx;clear hx;go_wp2_with fail;exact MM.out _ _ ⟨rfl,HX.out⟩
theorem Dd {base E:Nat} {ov:Value} {m:Wrt} {w:World} (b:Bool) (h:ft base E w ov m) (ok:cd m) (hn:m.n<=1000000000) :
  Calls Tryz.prog 259 #[.pointer (some ⟨E,0,none⟩),.bool b] w fun e w'=>e=.returned (.tuple #[])/\∃ Ow,ft base E w' Ow (m.narrow (m.r / 2) b)/\bw (et E ov) w (et E Ow) w':=by
 have RQ:=ok.r0;have Pz:=ok.r1;have HN:=lh (pC (x:=m.r / 2) b h ok Mf Mf hn);obtain ⟨-,-,c2⟩:=fG h.row;have hdt:m.r.tdiv 2=m.r / 2:=Int.tdiv_eq_ediv_of_nonneg Mf;have hdw:IntKind.u64.wrap (m.r / 2)=m.r / 2:=by rw [IntKind.wrap_u64];omega
 generalize m.r / 2=x at *
 clear h ok;go_enter Tryz.func259,Tryz.ntmps259;go_wp2_with fail;go_at_call 261;refine HN.mono ?_;rintro e w2 ⟨rfl,hx⟩;have HX:=lh hx;clear hx;go_wp2_with fail;refine bodyPost_end (results_none Tryz.results259 _ _ _) rfl ⟨rfl,HX.out⟩
theorem Iq {p:Prop} (h:p:=by
 go_enter Tryz.func258,Tryz.ntmps258;go_wp2_with fail
 go_region
 go_wp2_with fail;refine bodyPost_end (results_none Tryz.results258 _ _ _) rfl (MM.out _ _ ⟨rfl,?_,?_⟩)
 ·exact (HL.out _).1
 ·exact (HL.out _).2.drew):p:=h
theorem zW {R D:Nat} {p:List Int} {T:TypeId} {w:World} (hr:w.heap[R]?=some (.cells (dZ p D).toArray T (0,0))) (hp:p.length=64) {c:Nat} (hc:c<64) (hx:31<=p.getD c 0/\p.getD c 0<=2017) (b:Bool) :
  Calls Tryz.prog 258 #[.pointer (some ⟨R,0,none⟩),c,.bool b] w fun e w'=>e=.returned (.tuple #[])/\w'.heap[R]?=some (.cells (dZ (p.set c (eO (p.getD c 0) b)) D).toArray T (0,0))/\ae [R] w w':=by
 refine aN fun Q MM=>?_
 have c0:w.cell? ⟨R,c,none⟩=some (.int .i64 (p.getD c 0)):=by rw [cell_of_row _ _ _ _ _ _ hr];exact pK hp D hc
 have f0:=frozen_of_row w R c _ _ hr;have HL:=lh (fun x:Int=>(by
  have h1:=heap_setCell_same w R c _ _ (.int .i64 x) hr;rw [vn hp D hc] at h1;exact ⟨h1,(ae.refl [R] w).setCell Mg _⟩:(w.setCell ⟨R,c,none⟩ (.int .i64 x)).heap[R]?=some (.cells (dZ (p.set c x) D).toArray T (0,0))/\ae [R] w (w.setCell ⟨R,c,none⟩ (.int .i64 x))))
 have hci:(0:Int)<=(c:Int):=Mf;have JoP:(c:Int)<64:=Mf;clear hr;generalize p.getD c 0=x at *
 cases b with
 | true =>
  exact Iq
 | false =>
  exact Iq
end
structure jv (base R E:Nat) (w:World) (ov:Value) (m:Wrt):Prop where
 row:w.heap[R]?=some (.cells (dZ m.p E).toArray 135 (0,0))
 enc:ft base E w ov m
 ok:cd m
 hR:base<=R
 ne:R∉et E ov
abbrev wrB (R E:Nat) (ov:Value):List Nat:=R :: et E ov
section
variable {base R E:Nat} {w w':World} {ov:Value} {m:Wrt} {S:List Nat}
theorem jv.lt (h:jv base R E w ov m):∀ g∈wrB R E ov,base<=g/\g<w.heap.size:=by
 intro g hg;rcases List.mem_cons.1 hg with rfl | hg
 ·exact ⟨h.hR,(Array.getElem?_eq_some_iff.1 h.row).1⟩
 ·exact h.enc.lt g hg
theorem jv.only (h:jv base R E w ov m) (o:ae S w w') (hS:∀ g∈S,g∉wrB R E ov):jv base R E w' ov m :=
 ⟨o.rowAt h.row (fun hm=>hS R hm (List.mem_cons_self ..)),h.enc.only o (fun g hg hm=>hS g hg (Lx _ hm)),h.ok,h.hR,h.ne⟩
theorem jv.quiet (h:jv base R E w ov m) (o:ae [] w w'):jv base R E w' ov m:=h.only o Mg
theorem jv.cell (h:jv base R E w ov m) {c:Nat} (hc:c<64):w.cell? ⟨R,c,none⟩=some (.int .i64 (m.p.getD c 0)):=by
 rw [cell_of_row _ _ _ _ _ _ h.row];exact pK h.ok.len E hc
theorem jv.ptr (h:jv base R E w ov m):w.cell? ⟨R,64,none⟩=some (.pointer (some ⟨E,0,none⟩)):=by
 rw [cell_of_row _ _ _ _ _ _ h.row];exact vh h.ok.len E
theorem jv.gone (h:jv base R E w ov m) {Ow:Value} (g:bw (et E ov) w (et E Ow) w'):w'.heap[R]?=some (.cells (dZ m.p E).toArray 135 (0,0))/\R∉et E Ow/\bw (wrB R E ov) w (wrB R E Ow) w':=by
 refine ⟨g.1.rowAt h.row h.ne,fun hm=>?_,g.1.mono (fun x hx _=>Lx _ hx),fun x hx=>?_⟩
 ·rcases g.2 R hm with h1 | h1
  ·exact h.ne h1
  ·have:=(h.lt R (List.mem_cons_self ..)).2;omega
 ·rcases List.mem_cons.1 hx with rfl | hx
  ·exact .inl (List.mem_cons_self ..)
  ·exact (g.2 x hx).imp_left (Lx _)
end
section
theorem IJ {base R E:Nat} {w:World} {ov:Value} {m:Wrt} (h:jv base R E w ov m) {c:Nat} (hc:c<64) (b:Bool) (hn:m.n<=1000000000) :
  Calls Tryz.prog 253 #[.pointer (some ⟨R,0,none⟩),c,.bool b] w fun e w'=>e=.returned (.bool b)/\∃ Ow,jv base R E w' Ow (kM c b m).2/\bw (wrB R E ov) w (wrB R E Ow) w':=by
 refine aN fun Q MM=>?_
 have hx:=qG h.ok hc;have c0:=h.cell hc;have c1:=h.ptr;have Nc:=lh (iW h.ok hc b).1;have HB:Hid ((kM c b m).2=⟨m.p.set c (eO (m.p.getD c 0) b),(m.narrow (m.r / 2048*m.p.getD c 0) b).lo,(m.narrow (m.r / 2048*m.p.getD c 0) b).n,(m.narrow (m.r / 2048*m.p.getD c 0) b).r⟩):=lh (uG _ m _ b);have HK:=lh h;have Hx:=lh hx;have hci:(0:Int)<=(c:Int):=Mf;have JoP:(c:Int)<64:=Mf;have HC:=lh (fun (w':World) (o:ae [] w w')=>Db b (h.quiet o).enc h.ok hx hn);have OX:=lh h.ok.len;generalize (kM c b m).2=mf at *
 generalize m.narrow (m.r / 2048*m.p.getD c 0) b=mn at *
 clear h hx hn;go_enter Tryz.func253,Tryz.ntmps253;go_wp2_with fail;go_at_call 256;refine (wD c hc _).mono ?_;rintro e w1 ⟨rfl,rfl⟩;go_wp2_with fail
 go_region_with (first
  | (go_at_call 257;refine (HC.out _ (ae.refl _ _).drew).mono ?_;rintro e w2 ⟨rfl,ov2,he2,hw2⟩;have Pk:=lh he2;have HW2:=lh hw2;clear he2 hw2)
  | fail)
 all_goals
  have HG:=lh ((HK.quiet (ae.refl [] _).drew).gone HW2);go_wp2_with fail;go_at_call 258;refine (zW HG.1 OX hc Hx b).mono ?_;rintro e w3 ⟨rfl,Ps,Nb⟩;have SJ:=lh Ps;have Nf:=lh Nb;clear Ps Nb;go_wp2_with fail;refine MM.out _ _ ⟨rfl,ov2,⟨?_,?_,Nc.out,HK.hR,HG.2.1⟩,?_⟩
  ·rw [HB.out];exact SJ
  ·rw [HB.out];exact (Pk.only Nf (fun g hg hm=>by rw [mSg] at hg;subst hg;exact HG.2.1 hm)).congr _
  ·exact ⟨((ae.refl [] w).drew.trans HG.2.2.1 (U:=wrB R E ov) Mg (fun g h _=>h)).trans Nf (fun g h _=>h) (fun g h _=>by rw [mSg] at h;subst h;exact List.mem_cons_self ..),HG.2.2.2⟩
theorem Ek {base R E:Nat} {w:World} {ov:Value} {m:Wrt} (h:jv base R E w ov m) (b:Bool) (hn:m.n<=1000000000) :
  Calls Tryz.prog 255 #[.pointer (some ⟨R,0,none⟩),.bool b] w fun e w'=>e=.returned (.bool b)/\∃ Ow,jv base R E w' Ow (mJ b m).2/\bw (wrB R E ov) w (wrB R E Ow) w':=by
 have c1:=h.ptr;have Nc:=lh (iL h.ok b).1;have HP:Hid ((mJ b m).2.p=m.p):=lh (h.ok.narrow (w:=m.r / 2) (by have:=h.ok.r0;omega) (by have:=h.ok.r0;omega) b).2.2.2;have HK:=lh h;have HC:=lh (Dd b h.enc h.ok hn);clear h;go_enter Tryz.func255,Tryz.ntmps255;go_wp2_with fail;go_at_call 259;refine HC.mono ?_;rintro e w2 ⟨rfl,ov2,he2,hw2⟩;have Pk:=lh he2;have HG:=lh (HK.gone hw2);clear he2 hw2;go_wp2_with fail;go_ret;refine ⟨rfl,ov2,⟨?_,Pk.out,Nc.out,HK.hR,HG.2.1⟩,HG.2.2⟩;rw [HP.out];exact HG.1
theorem EM (w:World):Calls Tryz.prog 66 #[] w fun e w'=>e=.returned (.pointer (some ⟨w.heap.size,0,none⟩))/\ft w.heap.size w.heap.size w' (.slice none 0 0) fB/\ae [] w w':=by
 have HQ:=lh (ae.new w);have HR:=lh (heap_alloc_new w (.cells #[JEu,.int .u64 0,.int .u64 4294967295] 205));go_enter Tryz.func66,Tryz.ntmps66;go_wp2_with fail;go_ret;exact ⟨rfl,⟨HR,Own.nil _ _ _ _,Lm _,fun g hg=>by simp [Value.ownBlock] at hg⟩,HQ.out _⟩
theorem IL (w:World):Calls Tryz.prog 30 #[] w fun e w'=>∃ R E,e=.returned (.pointer (some ⟨R,0,none⟩))/\jv w.heap.size R E w' (.slice none 0 0) fB/\ae [] w w':=by
 refine aN fun Q MM=>?_
 go_enter Tryz.func30,Tryz.ntmps30;go_wp2_with fail;go_at_call 65;refine (CQ w).mono ?_;rintro e w1 ⟨rfl,MP⟩;have MT:=lh MP;clear MP;obtain ⟨C,hC⟩:∃ C:Array Value,C=(List.replicate 64 (Value.int .i64 1024)).toArray:=⟨_,rfl⟩
 rw [<- hC];have HC:=lh hC;clear hC;go_wp2_with fail;go_at_call 66;refine (EM w1).mono ?_;rintro e w2 ⟨rfl,he,MV⟩;have HE:=lh he;have Na:=lh MV;clear he MV;have hz1:=MT.size;generalize w1.heap.size=E at *
 obtain ⟨C2,hC2⟩:∃ C:Array Value,C=(dZ (List.replicate 64 1024) E).toArray:=⟨_,rfl⟩
 have hb:(Instr.build 135 #[(0,.agg C),(1,.pointer (some ⟨E,0,none⟩))]).run Tryz.prog w2=.ok (.agg C2) w2:=by rw [HC.out,hC2];kernel_rfl
 have Hb:=lh hb;have Og:=lh hC2;clear hb hC2
 rename_i K0 hK0
 simp only [];refine hK0 _ _ ?_;clear hK0;refine kq rfl 135 [(0,.tmp 1),(1,.tmp 2)] rfl Hb ?_;go_wp2_with fail;have Rz:=ae.new w2 (.cells C2 135);have MO:=(HE.lt E (List.mem_cons_self ..)).2;refine MM.out _ _ ⟨w2.heap.size,E,rfl,⟨?_,?_,iD,Mf,by simp [Value.ownBlock];omega⟩,(MT.q Na).q Rz⟩
 ·rw [Og.out];exact heap_alloc_new _ _
 ·have:=HE.quiet Rz
  exact ⟨this.row,this.own.lower hz1,hz1,this.ne⟩
theorem KF (R:Nat) (w:World):(Go.method 447 69 (.pointer (some ⟨R,0,none⟩)) "Bit").run Tryz.prog w=.ok (253,.pointer (some ⟨R,0,none⟩)) w:=Mh
theorem FV (R:Nat) (w:World):(Go.method 447 69 (.pointer (some ⟨R,0,none⟩)) "Flat").run Tryz.prog w=.ok (255,.pointer (some ⟨R,0,none⟩)) w:=Mh
theorem Gc (R:Nat) (w:World):(nilAhead 447 69 (.pointer (some ⟨R,0,none⟩)) "Flat").run Tryz.prog w=.ok (some false) w:=Mh
theorem KG (R:Nat) (w:World):(nilAhead 447 69 (.pointer (some ⟨R,0,none⟩)) "Bit").run Tryz.prog w=.ok (some false) w:=Mh
@[reducible] def pcWrite (base R E:Nat):PC where
 σ:=Wrt
 C:=wrC
 T:=69
 R:=R
 fb:=253
 ff:=255
 base:=base
 At:=fun F w m=>∃ ov,F=wrB R E ov/\jv base R E w ov m
 Ok:=fun n m=>cd m/\m.n<=n
 mB:=KF R
 mF:=FV R
 eB:=fun args w=>MuLone.run_callFunc_enter Tryz.func253 Mh rfl args w
 eF:=fun args w=>MuLone.run_callFunc_enter Tryz.func255 Mh rfl args w
 nB:=KG R
 nF:=Gc R
 ok_le:=fun h k=>⟨h.1,Lz h.2 k⟩
 ok_bit:=fun c b h hc=>⟨(iW h.1 hc b).1,by have:=(iW h.1 hc b).2.2;have:=h.2;show (kM c b _).2.n<=_;omega⟩
 ok_flat:=fun b h=>⟨(iL h.1 b).1,by have:=(iL h.1 b).2.2;have:=h.2;show (mJ b _).2.n<=_;omega⟩
 only:=fun h o hS=>by
  obtain ⟨ov,rfl,hw⟩:=h;exact ⟨ov,rfl,hw.only o (fun g hg=>(hS g hg).2)⟩
 lt:=fun h g hg=>by
  obtain ⟨ov,rfl,hw⟩:=h;exact (hw.lt g hg).2
 base_le:=fun h=>by
  obtain ⟨ov,rfl,hw⟩:=h;have:=hw.lt R (List.mem_cons_self ..);omega
 bit:=fun c b h ok hn hc=>by
  obtain ⟨ov,rfl,hw⟩:=h;exact (IJ hw hc b (by have:=ok.2;omega)).mono (fun e w' r=>⟨r.1,by obtain ⟨Ow,x,y⟩:=r.2;exact ⟨_,⟨Ow,rfl,x⟩,y⟩⟩)
 flat:=fun b h ok hn=>by
  obtain ⟨ov,rfl,hw⟩:=h;exact (Ek hw b (by have:=ok.2;omega)).mono (fun e w' r=>⟨r.1,by obtain ⟨Ow,x,y⟩:=r.2;exact ⟨_,⟨Ow,rfl,x⟩,y⟩⟩)
end
end Go.Proofs.YthcafdfdglfabaaGreatDoor
