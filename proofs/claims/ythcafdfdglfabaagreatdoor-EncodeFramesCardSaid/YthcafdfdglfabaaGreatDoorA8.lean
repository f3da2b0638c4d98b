/- Joined texts: DRkE, DRkW, DRkX, ESqE. Conditions: each part names its own. -/
import Derived.Test.YthcafdfdglfabaaGreatDoorW8
set_option maxRecDepth 100000
set_option maxHeartbeats 16000000
namespace Go.Proofs.YthcafdfdglfabaaGreatDoor
open Go.RowKit
set_option linter.unusedVariables false
set_option linter.unusedSimpArgs false
structure ju (base E:Nat) (w:World) (ov:Value) (m:Wrt):Prop where
 row:w.heap[E]?=some (.cells #[ov,m.r] 184 (0,0))
 own:Own .u8 5 base w ov (aM m.n m.lo)
 hE:base<=E
 ne:∀ g,ov.ownBlock=some g->g≠E
section
variable {base E:Nat} {w w':World} {ov:Value} {m:Wrt} {S:List Nat}
theorem ju.lt (h:ju base E w ov m):∀ g∈et E ov,base<=g/\g<w.heap.size:=by
 intro g hg;rcases List.mem_cons.1 hg with rfl | hg
 ·exact ⟨h.hE,(Array.getElem?_eq_some_iff.1 h.row).1⟩
 ·exact h.own.at g Mt
theorem ju.only (h:ju base E w ov m) (o:ae S w w') (hS:∀ g∈S,g∉et E ov):ju base E w' ov m :=
 ⟨o.rowAt h.row (fun hm=>hS E hm (List.mem_cons_self ..)),h.own.only o (fun g hg e=>hS g hg (Lx _ (by rw [e];simp))),h.hE,h.ne⟩
abbrev fR (E:Nat) (w:World) (ov:Value) (b:Int):Prop:=w.heap[E]?=some (.cells #[ov,b] 184 (0,0))
theorem fR.set0 {b:Int} (h:fR E w ov b) (v:Value):fR E (w.setCell ⟨E,0,none⟩ v) v b/\ae [E] w (w.setCell ⟨E,0,none⟩ v):=⟨heap_setCell_same w E 0 _ _ _ h,(ae.refl _ _).setCell Mg _⟩
theorem fR.set1 {b:Int} (h:fR E w ov b) (x:Int):fR E (w.setCell ⟨E,1,none⟩ (.int .i64 x)) ov x/\ae [E] w (w.setCell ⟨E,1,none⟩ (.int .i64 x)):=⟨heap_setCell_same w E 1 _ _ _ h,(ae.refl _ _).setCell Mg _⟩
theorem ju.congr (h:ju base E w ov m) (q:List Int):ju base E w ov ⟨q,m.lo,m.n,m.r⟩:=⟨h.row,h.own,h.hE,h.ne⟩
end
theorem CL:∀ (k:Nat) (l:List Int) (v:Int),¬ 0<v->iG k l v=l
 | 0,_,_,_=>rfl
 | k+1,l,v,h=>by unfold iG;rw [if_neg h]
section
theorem GL {p:Prop} (h:p:=by
 go_wp2_with fail;refine bodyPost_end (results_none Tryz.results234 _ _ _) rfl (MM.out _ _ ⟨rfl,?_,MW.out⟩);rw [<- Pq.out];exact Nc):p:=h
theorem Fv {base E g n cap:Nat} {l:List Int} {b v:Int} {w:World} (hr:fR E w (.slice (some ⟨g,0,none⟩) n cap) b) (ho:Own .u8 5 base w (.slice (some ⟨g,0,none⟩) n cap) l) (hn:n=l.length) (OT:g≠E) (hl:n<=1000000000) (hv:0<=v/\v<=4294967296) :
  Calls Tryz.prog 234 #[.pointer (some ⟨E,0,none⟩),v] w fun e w'=>e=.returned (.tuple #[])/\Own .u8 5 base w' (.slice (some ⟨g,0,none⟩) n cap) (iG n l v)/\ae [g] w w':=by
 refine aN fun Q MM=>?_
 obtain ⟨c0,c1,-⟩:=aJ hr;have HR:=lh hr;have MR:(n:Int)<=1000000000:=Mf;have HO:=lh ho;have Hn:=lh hn.symm;have hnE:E≠g:=fun e=>OT e.symm
 have HV:=lh hv;obtain ⟨v0,hv0⟩:∃ z,z=v:=⟨_,rfl⟩
 have HV0:=lh hv0;rw [<- hv0] at MM;clear hr ho hl hv hn hv0;go_enter Tryz.func234,Tryz.ntmps234;go_wp2_with fail;clear c0 c1;go_loopw [4,1] (fun i x wr=>∃ (k:Nat) (ys:List Int) (u:Int),k<=n/\i=.int .i64 ((k:Int)-1)/\x=.int .i64 u/\Hid (0<=u/\u<=4294967296)/\Hid (ys.length=n)/\Hid (iG k ys u=iG n l v0)/\Hid (Own .u8 5 base wr (.slice (some ⟨g,0,none⟩) n cap) ys)/\Hid (ae [g] w wr)) (fun i _ _=>(intOf i+1).toNat)
 case atStart=>exact ⟨n,l,v,Lm _,by first | rfl | go_num,rfl,HV,Hn,lh (by rw [HV0.out]),HO,lh (ae.refl _ _)⟩
 case round =>
  obtain ⟨k,ys,u,hk,rfl,rfl,HU,Ol,Jaa,Nc,MW⟩:=hrel;have Rp:Hid (fR E wr (.slice (some ⟨g,0,none⟩) n cap) b):=lh (MW.rowAt HR (by rw [mSg];exact hnE));cases k with
  | zero =>
   have Xc:¬ (0:Int)<=((0:Nat):Int)-1:=Mf;have Pq:Hid (ys=iG n l v0):=lh Jaa;exact GL
  | succ k =>
   have Ny:(k:Int)<(n:Int):=Mf;have NU:(0:Int)<=(k:Int):=Mf;have e1:(((k+1:Nat):Int)-1)=(k:Int):=Mf;rw [e1];by_cases hu:0<u
   ·have hkn:k<ys.length:=by rw [Ol.out];omega
    obtain ⟨c0,-,-⟩:=aJ Rp;have cx:=Nc.cellS Ol.symm hkn;have fx:=Nc.frzS Ol.symm k;have MX:=Nc.2 (ys.getD k 0) (by rw [Le,Lf hkn];exact LM _);simp only [InK] at MX;have Ud:iG (k+1) ys u=iG k (ys.set k ((u+ys.getD k 0) % 256)) ((u+ys.getD k 0) / 256):=if_pos hu;generalize ys.getD k 0=y at *
    have hu4:=HU.out;have n1:IntKind.i64.wrap y=y:=Mi;have n2:IntKind.i64.wrap (u+y)=u+y:=Mi;have Ts:IntKind.u8.wrap (u+y)=(u+y) % 256:=by simp [IntKind.wrap,IntKind.bits,IntKind.signed]
    have n3:IntKind.i64.wrap ((u+y) / 256)=(u+y) / 256:=Mi;obtain ⟨z,hz⟩:∃ z,z=(u+y) % 256:=⟨_,rfl⟩
    obtain ⟨q,hq⟩:∃ q,q=(u+y) / 256:=⟨_,rfl⟩
    rw [<- hz] at Ud Ts;rw [<- hq] at Ud n3;have Jeh:InK .u8 z:=by simp only [InK];omega
    obtain ⟨NC,NE⟩:=Nc.storeS Ol.symm Jeh k;have NT:=lh NC;have OH:=lh NE;have Jdj:Hid (iG k (ys.set k z) q=iG n l v0):=lh (by rw [<- Jaa.out,Ud]);have HUq:Hid (0<=q/\q<=4294967296):=lh Mf;have Hq:=lh hq;clear NC NE Ud hz Jeh MX hkn hu4;go_wp2_with fail;refine ⟨⟨k,ys.set k z,q,Mf,Mm,?_,HUq,lh (by rw [LK];exact Ol),Jdj,NT,lh (MW.trans OH (fun _ h _=>h) (fun _ h _=>h))⟩,by simp [intOf]⟩;rw [Hq.out]
   ·have Pq:Hid (ys=iG n l v0):=lh (by rw [<- Jaa.out,CL _ _ _ hu])
    exact GL
theorem nW {base E:Nat} {ov:Value} {m:Wrt} {x:Int} {w:World} (b:Bool) (h:ju base E w ov m) (ok:cd m) (h1:8192<=x) (h2:x<=m.r-8192) (hn:m.n<=1000000000) :
  Calls Tryz.prog 230 #[.pointer (some ⟨E,0,none⟩),x,.bool b] w fun e w'=>e=.returned (.tuple #[])/\∃ Ow,ju base E w' Ow (m.narrow x b)/\bw (et E ov) w (et E Ow) w':=by
 refine aN fun Q MM=>?_
 obtain ⟨d2,YE⟩:∃ d2:Wrt,d2=if b then ⟨m.p,m.lo+x,m.n,m.r-x⟩ else ⟨m.p,m.lo,m.n,x⟩:=⟨_,rfl⟩
 obtain ⟨m1,m2,-,-⟩:=ok.mid h1 h2;have HM:Hid (iF 2 d2):=lh (by rw [YE];cases b;exact m2;exact m1);have HN:Hid (m.narrow x b=Wrt.fix 2 d2):=lh (by rw [YE];cases b <;> rfl);have JdJ:d2.n=m.n:=by rw [YE];cases b <;> rfl
 have Hn2:Hid (d2.n<=1000000000):=lh (by rw [JdJ];exact hn);have HD:=lh YE;have Pz:=ok.r1;have RQ:=ok.r0;have Hmn:Hid (m.n=(aM m.n m.lo).length/\m.n<=1000000000):=lh ⟨(cI _ _).symm,hn⟩;have HAd:Hid (iG m.n (aM m.n m.lo) x=aM m.n (m.lo+x)):=lh (by
  have:=wa m.n m.lo x [] Mf;rwa [LA,LA] at this)
 have hn4:=ok.n4;obtain ⟨g,cap,rfl,-,-⟩:=h.own.form (by rw [cI];omega);rw [cI] at h MM;have HNe:Hid (g≠E):=lh (h.ne g rfl);obtain ⟨c0,c1,-⟩:=aJ h.row;have HK:=lh h;clear h ok m1 m2 YE JdJ hn hn4;go_enter Tryz.func230,Tryz.ntmps230;go_upto_if 6 with (fail)
 go_cut [] (fun wx=>Hid (ju base E wx (.slice (some ⟨g,0,none⟩) m.n cap) d2)/\Hid (ae (et E (.slice (some ⟨g,0,none⟩) m.n cap)) w wx))
 case first =>
  cases b with
  | false =>
   have Zd:Hid (d2=⟨m.p,m.lo,m.n,x⟩):=lh HD;have f1:=frozen_of_row w E 1 _ _ HK.row;have HS:=lh (fR.set1 HK.row x);clear HD c0;go_wp2_with fail;go_meet;refine ⟨lh ?_,lh (HS.2.mono (fun g h _=>List.mem_cons.2 (.inl (mSg.1 h))))⟩;rw [Zd.out];exact ⟨HS.1,HK.own.only HS.2 (fun g hg e=>by rw [mSg] at hg;exact HK.ne g e hg),HK.hE,HK.ne⟩
  | true =>
   have Zd:Hid (d2=⟨m.p,m.lo+x,m.n,m.r-x⟩):=lh HD;clear HD;go_wp2_with fail;clear c0 c1;go_at_call 234;refine (Fv HK.row HK.own Hmn.1 HNe Hmn.2 Mf).mono ?_;rintro e w4 ⟨rfl,ho4,Ng⟩;rw [HAd.out] at ho4;have Ub:=Ng.rowAt HK.row (by rw [mSg];exact fun e=>HNe.out e.symm);have JvP:=lh Ub;have XZ:=lh ho4;have NI:=lh Ng;obtain ⟨c0,c1,-⟩:=aJ Ub;have f1:=frozen_of_row w4 E 1 _ _ Ub;have Ts:IntKind.i64.wrap (m.r-x)=m.r-x:=Mi;have HS:=lh (fR.set1 Ub (m.r-x));clear ho4 Ng Ub;go_wp2_with fail;go_meet;refine ⟨lh ?_,lh (NI.trans HS.2 (fun g h _=>Lx _ (by simpa [Value.ownBlock] using h)) (fun g h _=>List.mem_cons.2 (.inl (mSg.1 h))))⟩;rw [Zd.out];exact ⟨HS.1,XZ.only HS.2 (fun g hg e=>by rw [mSg] at hg;exact HK.ne g e hg),HK.hE,HK.ne⟩
 case rest =>
  obtain ⟨HK2,Na⟩:=hcut;clear c0 c1 HK HD;go_wp2_with fail;go_loopw [22] (fun _ wr=>∃ (k:Nat) (dc:Wrt) (Ow:Value),k<=2/\Hid (ju base E wr Ow dc)/\Hid (iF k dc)/\Hid (Wrt.fix k dc=Wrt.fix 2 d2)/\Hid (dc.n+k<=d2.n+2)/\Hid (bw (et E (.slice (some ⟨g,0,none⟩) m.n cap)) w (et E Ow) wr)) (fun _ wr=>(4294967296-intOf ((wr.cell? ⟨E,1,none⟩).getD (.int .i64 0))).toNat)
  case atStart=>exact ⟨2,d2,_,Mf,HK2,HM,lh rfl,lh (Lm _),lh ⟨Na,fun g hg=>.inl hg⟩⟩
  case round =>
   obtain ⟨k,dc,Ow,hk,Hk,Hm,Jdc,Jad,HQ⟩:=hrel;have Pz:=Hm.r1;have hrp:=Hm.rp;have Uq:=lh Hk.row;obtain ⟨RR,Zl⟩:∃ z,z=dc.r:=⟨_,rfl⟩
   rw [<- Zl] at Uq Pz hrp;obtain ⟨c0,c1,-⟩:=aJ Uq;by_cases MO:RR<16777216
   ·obtain ⟨k',rfl⟩:∃ k',k=k'+1:=by
     cases k with
     | zero=>have:=Hm.r0;rw [Int.pow_zero,Int.mul_one] at this;omega
     | succ k'=>exact ⟨k',rfl⟩
    have Jau:dc.r<16777216:=by rw [<- Zl];exact MO
    have HMs:=lh (Hm.shift Jau);have HFs:Hid (Wrt.fix k' dc.shift=Wrt.fix 2 d2):=lh (by rw [<- Jdc.out];exact (if_pos Jau).symm);have JdX:=Jad.out;have hn2:=Hn2.out;have hdn:dc.n<=1000000002:=Mf;have HSh:Hid (aM dc.shift.n dc.shift.lo=aM dc.n dc.lo ++ [0]):=lh (qF dc.n dc.lo);have Ou:Hid (dc.shift.r=RR*256):=lh (by rw [Zl];rfl);have Jby:=lh Hk.own;have MR:(aM dc.n dc.lo).length<=1000000002:=by rw [cI];omega
    obtain ⟨S0,UQ⟩:∃ z,z=aM dc.n dc.lo:=⟨_,rfl⟩
    rw [<- UQ] at Jby HSh MR;have f0:=frozen_of_row wr E 0 _ _ Uq;have MX:∀ z∈[(0:Int)],InK .u8 z:=by simp only [mSg,forall_eq,InK];omega
    have Jaf:=lh (fun (W:World)=>bg (k:=.u8) (w:=W) (t:=5) (l:=[(0:Int)]) rfl Mo MX 1 rfl rfl);have Hby:=lh (show (S0.length+[(0:Int)].length)*1<=140737488355328 by simp;omega);have Hbs:Hid (base<=wr.heap.size):=lh (by have:=Hk.hE;have:=(Hk.lt E (List.mem_cons_self ..)).2;omega);have HNe:=lh Hk.ne;have RY:=lh (ae.new wr (.cells #[.int .u8 0] 5));have JiD:Hid (E∉Ow.ownBlock.toList):=lh (fun hm=>HNe.out E Mu rfl);obtain ⟨N1,YC⟩:∃ z,z=(S0 ++ [(0:Int)]).length:=⟨_,rfl⟩
    have HN1:=lh YC;have Uv:IntKind.i64.wrap (RR*256)=RR*256:=Mi;have Jwk:=lh JdX;clear MX Zl UQ Jau JdX hdn YC hn2 MR
    go_wp2_with (first
     | (at_builtin;refine aw rfl (.tmp 31) (.tmp 32) _ rfl E8 (Jby.quiet RY) rfl (Jaf.out wr) rfl Hby (Lz Hbs RY.size) (fun v1 w1 MN NH=>?_);obtain ⟨g1,Pc,Rg,-,-⟩:=MN.form Mg;rw [<- HN1.out] at Rg;subst Rg;have Jgv:fR E w1 Ow RR:=NH.only.rowAt (RY.row Uq) JiD;obtain ⟨cx1,dx1,-⟩:=aJ Jgv;have fx1:=frozen_of_row w1 E 0 _ _ Jgv;have NC:=Jgv.set0 (.slice (some ⟨g1,0,none⟩) N1 Pc);obtain ⟨cy1,dy1,-⟩:=aJ NC.1;have fy1:=frozen_of_row _ E 1 _ _ NC.1;have NT:=lh NC;have Oy:=lh MN;have Od:=lh NH;clear MN NH Jgv NC)
     | fail)
    have NE:=NT.1.set1 (RR*256);have hsO:=NT.2.trans NE.2 (U:=[E]) (fun _ h _=>h) (fun _ h _=>h);have JdR:∀ g,(Value.slice (some ⟨g1,0,none⟩) N1 Pc).ownBlock=some g->g≠E:=fun g hg e=>by
     rcases Od.at_ with h3 | h3
     ·exact HNe g (by rw [<- h3];exact hg) e
     ·have h4:=h3 g hg
      have h5:=(Hk.lt E (List.mem_cons_self ..)).2;have h6:=RY.size;omega
    have Tm:bw (et E Ow) wr (et E (.slice (some ⟨g1,0,none⟩) N1 Pc)) _:=⟨(RY.trans Od.only (U:=et E Ow) Mg (fun g h _=>Lx _ h)).trans hsO (U:=et E Ow) (fun _ h _=>h) (fun g h _=>List.mem_cons.2 (.inl (mSg.1 h))),fun g hg=>by
     rcases List.mem_cons.1 hg with rfl | hg
     ·exact .inl (List.mem_cons_self ..)
     ·have Nl:(Value.slice (some ⟨g1,0,none⟩) N1 Pc).ownBlock=some g:=Mt
      rcases Od.at_ with h3 | h3
      ·exact .inl (Lx _ (by rw [<- h3];exact hg))
      ·exact .inr (Lz RY.size (h3 g Nl))⟩
    have e3:=(aJ NE.1).2.1;refine ⟨⟨k',dc.shift,_,Mf,lh ⟨?_,?_,Hk.hE,JdR⟩,HMs,HFs,lh ?_,lh (HQ.trans Tm)⟩,?_⟩
    ·rw [Ou.out];exact NE.1
    ·rw [HSh.out];exact Oy.only hsO (fun g hg e=>by rw [mSg] at hg;exact JdR g e hg)
    ·have:=Jad.out;show dc.n+1+k'<=_;omega
    ·rw [e3,c1];simp only [intOf,Option.getD_some];omega
   ·have Jpa:Wrt.fix k dc=dc:=by
     cases k with
     | zero=>rfl
     | succ k'=>unfold Wrt.fix;rw [if_neg (by rw [<- Zl];exact MO)]
    have HF:Hid (m.narrow x b=dc):=lh (by rw [HN.out,<- Jdc.out,Jpa]);clear Jpa Zl;go_wp2_with fail;refine bodyPost_end (results_none Tryz.results230 _ _ _) rfl (MM.out _ _ ⟨rfl,Ow,?_,HQ.out⟩);rw [HF.out];exact Hk
theorem zP {base E:Nat} {ov:Value} {m:Wrt} {p:Int} {w:World} (b:Bool) (h:ju base E w ov m) (ok:cd m) (hp:31<=p/\p<=2017) (hn:m.n<=1000000000) :
  Calls Tryz.prog 213 #[.pointer (some ⟨E,0,none⟩),p,.bool b] w fun e w'=>e=.returned (.agg #[(),JEu])/\∃ Ow,ju base E w' Ow (m.narrow (m.r / 2048*p) b)/\bw (et E ov) w (et E Ow) w':=by
 refine aN fun Q MM=>?_
 obtain ⟨q1,q2⟩:=nE ok.r0 ok.r1 (p:=p) Mf Mf;have QH:=ae.new w (.cells #[(),JEu] 39);have h':=h.only QH Mg;have HN:=lh (nW b h' ok q1 q2 hn);have HLt:=lh (fun g hg=>(h.lt g hg).2);have HR:=lh (heap_alloc_new w (.cells #[(),JEu] 39));have WR:=lh QH;obtain ⟨c0,c1,-⟩:=aJ h'.row;have RQ:=ok.r0;have Pz:=ok.r1;obtain ⟨p0,p1⟩:=hp;have hp1:¬ p<1:=Mf;have Xh:¬ 2047<p:=Mf;have hdt:m.r.tdiv 2048=m.r / 2048:=Int.tdiv_eq_ediv_of_nonneg Mf;obtain ⟨d,hd⟩:∃ z,z=m.r / 2048:=⟨_,rfl⟩
 rw [<- hd] at HN hdt q1 q2 MM;obtain ⟨x,hx⟩:∃ z,z=d*p:=⟨_,rfl⟩
 have hmw:IntKind.i64.wrap (d*p)=x:=by rw [hx,Ll];omega
 have hdw:IntKind.i64.wrap d=d:=Mi;rw [<- hx] at HN MM;generalize m.r=r at *
 clear h h' ok q1 q2 hd hx QH;go_enter Tryz.func213,Tryz.ntmps213;go_wp2_with fail;go_at_call 230;refine HN.mono ?_;rintro e w2 ⟨rfl,Ow,hk,hw⟩;have HK:=lh hk;have HW:=lh hw;have MS:=hw.1.rowAt HR (fun hm=>by have:=HLt.out _ hm;omega);have HE:=lh MS;obtain ⟨z0,z1,y0,y1,-⟩:=aJ MS;clear hk hw MS c0 c1;go_wp2_with fail;obtain ⟨MS,Nd⟩:=aH (x:=.int .i64 0) (y:=.slice none 0 0) HE;refine bodyPost_ret (v:=.agg #[(),JEu]) (results_cell_row Tryz.results213 _ _ w.heap.size _ _ _ _ rfl MS Tryz.underlying39 rfl (aR _ rfl)) rfl (MM.out _ _ ⟨rfl,Ow,HK.only Nd (fun g hg hm=>?_),?_⟩)
 ·rw [mSg] at hg;subst hg
  rcases HW.2 _ hm with h | h
  ·have:=HLt.out _ h;omega
  ·have:=(Array.getElem?_eq_some_iff.1 HR).1;omega
 ·refine ⟨(WR.trans HW.1 Mg (fun g h _=>h)).trans Nd (fun g h _=>h) (fun g hg MO=>Mj),fun g hg=>?_⟩
  rcases HW.2 g hg with h | h
  ·exact .inl h
  ·exact .inr (Lz WR.size h)
theorem zQ {base E:Nat} {ov:Value} {m:Wrt} {w:World} (b:Bool) (h:ju base E w ov m) (ok:cd m) (hn:m.n<=1000000000) :
  Calls Tryz.prog 211 #[.pointer (some ⟨E,0,none⟩),.bool b] w fun e w'=>e=.returned (.tuple #[])/\∃ Ow,ju base E w' Ow (m.narrow (m.r / 2) b)/\bw (et E ov) w (et E Ow) w':=by
 have RQ:=ok.r0;have Pz:=ok.r1;have HN:=lh (nW (x:=m.r / 2) b h ok Mf Mf hn);obtain ⟨c0,c1,-⟩:=aJ h.row;have hdt:m.r.tdiv 2=m.r / 2:=Int.tdiv_eq_ediv_of_nonneg Mf;have hdw:IntKind.i64.wrap (m.r / 2)=m.r / 2:=Mi;generalize m.r / 2=x at *
 clear h ok;go_enter Tryz.func211,Tryz.ntmps211;go_wp2_with fail;go_at_call 230;refine HN.mono ?_;rintro e w2 ⟨rfl,hx⟩;have HX:=lh hx;clear hx;go_wp2_with fail;refine bodyPost_end (results_none Tryz.results211 _ _ _) rfl ⟨rfl,HX.out⟩
structure mR (base R E:Nat) (w:World) (ov:Value) (m:Wrt):Prop where
 row:gO R w false (.pointer (some ⟨E,0,none⟩)) (.pointer none) m.p
 enc:ju base E w ov m
 ok:cd m
 hR:base<=R
 ne:R∉et E ov
section
variable {base R E:Nat} {w w':World} {ov:Value} {m:Wrt} {S:List Nat}
theorem mR.lt (h:mR base R E w ov m):∀ g∈wrB R E ov,base<=g/\g<w.heap.size:=by
 intro g hg;rcases List.mem_cons.1 hg with rfl | hg
 ·exact ⟨h.hR,(Array.getElem?_eq_some_iff.1 h.row).1⟩
 ·exact h.enc.lt g hg
theorem mR.only (h:mR base R E w ov m) (o:ae S w w') (hS:∀ g∈S,g∉wrB R E ov):mR base R E w' ov m :=
 ⟨h.row.only o (fun hm=>hS R hm (List.mem_cons_self ..)),h.enc.only o (fun g hg hm=>hS g hg (Lx _ hm)),h.ok,h.hR,h.ne⟩
theorem mR.went (h:mR base R E w ov m) {Ow:Value} {m':Wrt} (he:ju base E w' Ow m') (hq:bw (et E ov) w (et E Ow) w') (ok:cd m') (hp:m'.p=m.p) :
  mR base R E w' Ow m'/\bw (wrB R E ov) w (wrB R E Ow) w':=by
 have MO:=(h.lt R (List.mem_cons_self ..)).2;refine ⟨⟨by rw [hp];exact h.row.only hq.1 h.ne,he,ok,h.hR,fun hm=>?_⟩,hq.1.mono (fun g hg _=>Lx _ hg),fun g hg=>?_⟩
 ·rcases hq.2 R hm with h1 | h1
  ·exact h.ne h1
  ·omega
 ·rcases List.mem_cons.1 hg with rfl | hg
  ·exact .inl (List.mem_cons_self ..)
  ·exact (hq.2 g hg).imp_left (Lx _)
end
theorem zV {base R E:Nat} {ov:Value} {m:Wrt} {w:World} (h:mR base R E w ov m) (b:Bool) (hn:m.n<=1000000000) :
  Calls Tryz.prog 162 #[.pointer (some ⟨R,0,none⟩),.bool b] w fun e w'=>e=.returned (.bool b)/\∃ Ow,mR base R E w' Ow (mJ b m).2/\bw (wrB R E ov) w (wrB R E Ow) w':=by
 obtain ⟨c0,c1,c2⟩:=h.row.cells;have MU:=h.ok;have HN:=lh (MU.narrow (w:=m.r / 2) (by have:=MU.r0;omega) (by have:=MU.r0;omega) b);have HK:=lh h;have HC:=lh (zQ b h.enc h.ok hn);clear h MU;go_enter Tryz.func162,Tryz.ntmps162;go_wp2_with fail;go_at_call 211;refine HC.mono ?_;rintro e w2 ⟨rfl,Ow,he,hq⟩;have HX:=lh (HK.went he hq HN.1 HN.2.2.2);clear he hq;go_wp2_with fail;go_ret;exact ⟨rfl,Ow,HX.out⟩
theorem DB {base R E:Nat} {ov:Value} {m:Wrt} {w:World} (h:mR base R E w ov m) {c:Nat} (hc:c<64) (b:Bool) (hn:m.n<=1000000000) :
  Calls Tryz.prog 163 #[.pointer (some ⟨R,0,none⟩),c,.bool b] w fun e w'=>e=.returned (.bool b)/\∃ Ow,mR base R E w' Ow (kM c b m).2/\bw (wrB R E ov) w (wrB R E Ow) w':=by
 refine aN fun Q MM=>?_
 have hx:=qG h.ok hc;obtain ⟨c0,c1,c2⟩:=h.row.cells;have cp:=h.row.at (c:=c) (by rw [h.ok.len];exact hc) rfl;obtain ⟨q1,q2⟩:=nE h.ok.r0 h.ok.r1 (p:=m.p.getD c 0) Mf Mf;have HN:=lh (h.ok.narrow q1 q2 b);have HB:Hid ((kM c b m).2=⟨m.p.set c (eO (m.p.getD c 0) b),(m.narrow (m.r / 2048*m.p.getD c 0) b).lo,(m.narrow (m.r / 2048*m.p.getD c 0) b).n,(m.narrow (m.r / 2048*m.p.getD c 0) b).r⟩):=lh (uG _ m _ b);have HBo:=lh (iW h.ok hc b).1;have HK:=lh h;have hci:(0:Int)<=(c:Int):=Mf;have JBs:¬ (c:Int)<0:=Mf;have JoP:(c:Int)<64:=Mf;have JBt:¬ 63<(c:Int):=Mf;have HC:=lh (zP (p:=m.p.getD c 0) b h.enc h.ok hx hn);have MR:=lh h.ok.len;clear h q1 q2;generalize hpc:m.p.getD c 0=x at *
 have hd1:x.tdiv 32=x / 32:=Int.tdiv_eq_ediv_of_nonneg Mf;have YE:(2048-x).tdiv 32=(2048-x) / 32:=Int.tdiv_eq_ediv_of_nonneg Mf;generalize m.narrow (m.r / 2048*x) b=NW at *
 clear hpc;go_enter Tryz.func163,Tryz.ntmps163;go_wp2_with fail;go_at_call 213;refine HC.mono ?_;rintro e w2 ⟨rfl,Ow,he,hq⟩;have HX:=lh (HK.went he hq HN.1 HN.2.2.2);clear he hq HC c0 c1 c2 cp;have cp:=HX.1.row.at (c:=c) (by rw [HN.2.2.2,MR.out];omega) rfl;have f0:=frozen_of_row w2 R (3+c) _ _ HX.1.row;have HL:Hid (∀ k,k=3+c->mR base R E (w2.setCell ⟨R,k,none⟩ (.int .i64 (eO x b))) Ow (kM c b m).2/\bw (wrB R E ov) w (wrB R E Ow) (w2.setCell ⟨R,k,none⟩ (.int .i64 (eO x b)))):=lh (fun k hk=>by
  obtain ⟨a,o⟩:=HX.1.row.set hk (eO x b);have OT:=HX.1.ne;have RQ:=(HX.1.lt R (List.mem_cons_self ..)).2;rw [HB.out,<- HN.2.2.2];refine ⟨⟨a,(HX.1.enc.only o (fun g hg hm=>by rw [mSg] at hg;subst hg;exact OT hm)).congr _,?_,HX.1.hR,OT⟩,HX.2.1.trans o (fun g h _=>h) (fun g h _=>by rw [mSg] at h;subst h;exact List.mem_cons_self ..),HX.2.2⟩;rw [HN.2.2.2,<- HB.out];exact HBo)
 cases b with
 | true =>
  go_wp2_with fail;exact MM.out _ _ ⟨rfl,Ow,HL.out _ Mf⟩
 | false =>
  go_wp2_with fail;exact MM.out _ _ ⟨rfl,Ow,HL.out _ Mf⟩
end
section
theorem wl:aM 4 0=[0,0,0,0]:=Mh
theorem Ds (w:World):Calls Tryz.prog 90 #[] w fun e w'=>∃ E ov,e=.returned (.pointer (some ⟨E,0,none⟩))/\ju w.heap.size E w' ov fB/\ae [] w w':=by
 refine aN fun Q MM=>?_
 have MX:∀ z∈[(0:Int),0,0,0],InK .u8 z:=by simp [InK]
 have Ye:=lh (kW (k:=.u8) (w:=w) (t:=5) (l:=[(0:Int),0,0,0]) (vs:=madeCells #[.int .u8 0] 4) Mh Mo MX 4 rfl rfl);have Rc:∀ W:World,(Instr.makeSlice 29 (.int .i64 4) (.int .i64 4)).run Tryz.prog W=.ok (.slice (some ⟨W.heap.size,0,none⟩) 4 4) (W.alloc (.cells (madeCells #[.int .u8 0] 4) 5)):=fun W=>run_make_row' (P:=Tryz.prog) 29 5 (.int .u8 0) 1 E8.ut Mh rfl .i64 .i64 4 Mf Mf W
 have hq:=ae.new w (.cells (madeCells #[.int .u8 0] 4) 5);generalize madeCells #[.int .u8 0] 4=MC at *
 clear MX;go_enter Tryz.func90,Tryz.ntmps90;go_wp2_with fail;have MV:=ae.new (w.alloc (.cells MC 5)) (.cells #[.slice (some ⟨w.heap.size,0,none⟩) 4 4,.int .i64 4294967295] 184);refine MM.out _ _ ⟨w.heap.size+1,.slice (some ⟨w.heap.size,0,none⟩) 4 4,rfl,⟨ak Mg,?_,Mf,fun g hg e=>?_⟩,hq.q MV⟩
 ·show Own .u8 5 w.heap.size _ _ (aM 4 0)
  rw [wl];exact Ye.quiet MV
 ·have:w.heap.size=g:=by simpa [Value.ownBlock] using hg
  omega
theorem DC (w:World):Calls Tryz.prog 39 #[] w fun e w'=>∃ R E ov,e=.returned (.pointer (some ⟨R,0,none⟩))/\mR w.heap.size R E w' ov fB/\ae [] w w':=by
 refine aN fun Q MM=>?_
 have HN:=lh (Ds w);go_enter Tryz.func39,Tryz.ntmps39;go_wp2_with fail;go_at_call 90;refine HN.mono ?_;rintro e w2 ⟨E,ov,rfl,hd,MV⟩;have HD:=lh hd;have Na:=lh MV;clear hd MV;obtain ⟨C2,hC2⟩:∃ C:Array Value,C=(lI false (.pointer (some ⟨E,0,none⟩)) (.pointer none) (List.replicate 64 0)).toArray:=⟨_,rfl⟩
 have hb:(Instr.build 102 #[(1,.pointer (some ⟨E,0,none⟩))]).run Tryz.prog w2=.ok (.agg C2) w2:=by rw [hC2];kernel_rfl
 have Hb:=lh hb;have Og:=lh hC2;clear hb hC2
 rename_i K0 hK0
 simp only [];refine hK0 _ _ ?_;clear hK0;refine kq rfl 102 [(1,.tmp 1)] rfl Hb ?_;go_wp2_with fail;have Rz:=ae.new w2 (.cells C2 102);have hr:gO w2.heap.size (w2.alloc (.cells C2 102)) false (.pointer (some ⟨E,0,none⟩)) (.pointer none) (List.replicate 64 0):=by rw [gO,<- Og.out];exact heap_alloc_new _ _
 have HF:=lh (zR hr Mg);have Oh:=lh Rz;have hz3:=Na.size;have HLt:=lh (fun g hg=>(HD.lt g hg).2);clear Rz hr;go_at_call 89;refine HF.mono ?_;rintro e w4 ⟨rfl,hr4,Ng⟩;have Hr4:=lh hr4;have Vp:=lh Ng;clear hr4 Ng;go_wp2_with fail;refine MM.out _ _ ⟨w2.heap.size,E,ov,rfl,⟨Hr4,(HD.only Oh Mg).only Vp.out (fun g hg hm=>by rw [mSg] at hg;subst hg;have:=HLt.out _ hm;omega),iD,hz3,fun hm=>by have:=HLt.out _ hm;omega⟩,(Na.q Oh).trans Vp.out Mg (fun g hg MO=>Mj)⟩
end
def bi (base R E:Nat):KC R where
 σ:=Wrt
 C:=wrC
 reads:=false
 base:=base
 At:=fun F w m=>∃ ov,F=wrB R E ov/\mR base R E w ov m
 Ok:=fun n m=>cd m/\m.n<=n
 ok_le:=fun h k=>⟨h.1,Lz h.2 k⟩
 ok_bit:=fun c b h hc=>⟨(iW h.1 hc b).1,by have:=(iW h.1 hc b).2.2;have:=h.2;show (kM c b _).2.n<=_;omega⟩
 ok_flat:=fun b h=>⟨(iL h.1 b).1,by have:=(iL h.1 b).2.2;have:=h.2;show (mJ b _).2.n<=_;omega⟩
 only:=fun h o hS=>by
  obtain ⟨ov,rfl,hw⟩:=h;exact ⟨ov,rfl,hw.only o (fun g hg=>(hS g hg).2)⟩
 lt:=fun h g hg=>by
  obtain ⟨ov,rfl,hw⟩:=h;exact (hw.lt g hg).2
 base_le:=fun h=>by
  obtain ⟨ov,rfl,hw⟩:=h;have:=hw.lt R (List.mem_cons_self ..);omega
 cell:=fun h=>by
  obtain ⟨ov,rfl,hw⟩:=h;exact hw.row.cells.1
 bit:=fun c b h ok hn hc=>by
  obtain ⟨ov,rfl,hw⟩:=h;exact (DB hw hc b (by have:=ok.2;omega)).mono (fun e w' r=>⟨r.1,by obtain ⟨Ow,x,y⟩:=r.2;exact ⟨_,⟨Ow,rfl,x⟩,y⟩⟩)
 flat:=fun b h ok hn=>by
  obtain ⟨ov,rfl,hw⟩:=h;exact (zV hw b (by have:=ok.2;omega)).mono (fun e w' r=>⟨r.1,by obtain ⟨Ow,x,y⟩:=r.2;exact ⟨_,⟨Ow,rfl,x⟩,y⟩⟩)
section
theorem GZ {p:Prop} (h:p:=by
 go_wp2_with fail;go_at_call 111;refine (CY PX (by have:=PX.1.len_le;obtain ⟨a,c,e,h1,h2,-⟩:=PX.open;injection e with e1 e2 e3;omega)).mono ?_;rintro e w2 ⟨v',rfl,MQ,hq⟩;have HX:=lh (And.intro MQ hq);clear MQ hq;go_wp2_with fail;refine MM.out _ _ ⟨v',rfl,?_,HX.2⟩;rw [HEW.out];exact HX.1):p:=h
theorem Fw {base E:Nat} {ov:Value} {m:Wrt} {w:World} (h:ju base E w ov m) (h4:4<=m.n) (hn:m.n<=1000000000) :
  Calls Tryz.prog 44 #[.pointer (some ⟨E,0,none⟩)] w fun e w'=>∃ v',e=.returned v'/\Own .u8 5 w.heap.size w' v' (gS m)/\ae [] w w':=by
 refine aN fun Q MM=>?_
 have HEW:Hid (gS m=cz (aM m.n m.lo)):=lh rfl;have HLN:Hid ((aM m.n m.lo).length=m.n):=lh (cI _ _);obtain ⟨g,cap,rfl,-,-⟩:=h.own.form (by rw [cI];omega);have HO:=lh h.own;rw [cI] at HO;have MS:=h.row;rw [cI] at MS;have Qq:(aM m.n m.lo).length<=cap/\cap<=maxLen:=by obtain ⟨a,c,e,h1,h2,-⟩:=h.own.ints.open;injection e with e1 e2 e3;rw [e3];exact ⟨h1,h2⟩
 rw [cI] at Qq;generalize aM m.n m.lo=L at *
 generalize m.n=N at *
 have Jfl:=lh Qq;have OJ:=lh MS;have hNi:(N:Int)<=1000000000:=Mf;obtain ⟨c0,c1,-⟩:=aJ MS;clear h MS Qq h4;go_enter Tryz.func44,Tryz.ntmps44;go_wp2_with fail;clear c0 c1;go_loopw [3] (fun v wr=>∃ k:Nat,k<=N/\v=.int .i64 k/\Hid (cz (L.take k)=cz L)/\w=wr) (fun v _=>(intOf v).toNat)
 case atStart=>exact ⟨N,Lm _,rfl,lh (by rw [List.take_of_length_le (by rw [HLN.out];exact Lm _)]),by first | rfl | skip⟩
 case round =>
  obtain ⟨k,hk,rfl,Hk,rfl⟩:=hrel;obtain ⟨c0,c1,-⟩:=aJ OJ;have Jhj:Hid (∀ (j:Nat) (z:Int),z=(j:Int)->j<=N->cz L=L.take j->(∀ W:World,(Instr.slice 29 (.slice (some ⟨g,0,none⟩) N cap) none (some (.int .i64 z)) none).run Tryz.prog W=.ok (.slice (some ⟨g,0,none⟩) j cap) W)/\ah .u8 base w.heap.size w (.slice (some ⟨g,0,none⟩) j cap) (cz L)):=lh (fun j z hz hj he=>by
   refine ⟨fun W=>yC j hz (by have:=Jfl.1;omega) W,?_⟩;rw [he];have hI:=HO.ints;rw [<- HLN.out] at hI;have hi:=hI.sub (Mc j) (by rw [HLN.out];exact hj) cap (Lm _) (by have:=Jfl.1;omega);simpa using hi)
  cases k with
  | zero =>
   have he:cz L=L.take 0:=by rw [<- Hk.out];simp [cz]
   obtain ⟨Uo,MX⟩:=Jhj.out 0 0 rfl (Mc _) he;have PX:=lh MX;clear MX he;exact GZ
  | succ k =>
   have PH:k<L.length:=by rw [HLN.out];omega
   have cx:=HO.cellS HLN.symm PH;have Ny:(k:Int)<(N:Int):=Mf;have NU:(0:Int)<=(k:Int):=Mf;have e1:IntKind.i64.wrap (((k+1:Nat):Int)-1)=(k:Int):=Mi;have e2:(0:Int)<((k+1:Nat):Int):=Mf;have e3:(((k+1:Nat):Int)-1)=(k:Int):=Mf;have Hz:=lh (fun h=>pX PH h);have Hl:=lh (fun h=>pW PH h);generalize L.getD k 0=z at *
   by_cases hz:z=0
   ·subst hz
    have Hn:Hid (cz (L.take k)=cz L):=lh (by rw [<- Hk.out,Hz.out rfl]);clear Hz Hl;go_wp2_with fail;exact ⟨⟨k,Mf,Mm,Hn,by first | rfl | trivial⟩,by simp [intOf]⟩
   ·have he:cz L=L.take (k+1):=by rw [<- Hl.out hz,Hk.out]
    obtain ⟨Uo,MX⟩:=Jhj.out (k+1) ((k:Int)+1) Mf hk he;have PX:=lh MX;clear MX he Hz Hl;exact GZ
def Fy:Option Int->Value
 | none=>.agg #[(),JEu]
 | some k=>.agg #[k,JEu]
theorem vO {p:Prop} (h:p:=by
 clear Ps;go_wp2_with fail;go_at_call 26;refine (gT 3 _).mono ?_;rintro e w5 ⟨rfl,NF⟩;have HX5:=lh (Yt.q NF);have hr:=HX5.row Pg;have HF:=lh (Rh.out w5 3 (MT.q HX5) hr);obtain ⟨z0,z1,y0,y1,-⟩:=aJ hr;clear NF hr;go_wp2_with fail;refine bodyPost_ret (v:=.agg #[.int .i64 3,JEu]) (results_cell_row Tryz.results36 _ _ (w.heap.size+1+1) _ _ _ _ rfl HF.1 Tryz.underlying39 rfl (aR _ rfl)) rfl (MM.out _ _ ⟨?_,HF.2⟩);rw [OM.out,if_pos Ss.out];rfl):p:=h
theorem Dp {lo hi lo' hi':Nat} {sv pv:Value} {src prev:ai} {w:World} (key:Bool) (qp reach:Int) (hs:ah .i64 lo hi w sv src.pix) (hp:ah .i64 lo' hi' w pv prev.pix) :
  Calls Tryz.prog 36 #[.agg #[src.W,src.H,sv],.agg #[prev.W,prev.H,pv],.bool key,qp,reach] w fun e w'=>e=.returned (Fy (bP src prev key qp reach))/\ae [] w w':=by
 refine aN fun Q MM=>?_
 have HMs:=lh (fun (W:World) (o:ae [] w W)=>gU src.W src.H (hs.quiet o));have Zg:=lh (fun (W:World) (o:ae [] w W)=>DJ prev.W prev.H src.W src.H sv (hp.quiet o));have HC:Hid (bP src prev key qp reach=if dV src=false then some 2 else if (!key && !eP prev src.W src.H)=true then some 12 else if qp<0\/15<qp\/reach<0\/7<reach then some 3 else none):=lh rfl;rw [show (⟨src.W,src.H,src.pix⟩:ai)=src from rfl] at HMs;rw [show (⟨prev.W,prev.H,prev.pix⟩:ai)=prev from rfl] at Zg;obtain ⟨sa,sc,rfl,-⟩:=hs.open;obtain ⟨pa,pc,rfl,-⟩:=hp.open;generalize bP src prev key qp reach=CK at *
 generalize dV src=MF at *
 generalize eP prev src.W src.H=MA at *
 obtain ⟨TY,NT,HP1,Pg,-⟩:=gD w (.cells #[src.W,src.H,.slice sa src.pix.length sc] 24) (.cells #[prev.W,prev.H,.slice pa prev.pix.length pc] 24) (.cells #[(),JEu] 39);have MT:=lh TY;have Rh:Hid (∀ (W:World) (k:Int) (o:ae [] w W) (hr:W.heap[w.heap.size+1+1]?=some (.cells #[(),JEu] 39 (0,0))),((W.setCell ⟨w.heap.size+1+1,0,none⟩ (.int .i64 k)).setCell ⟨w.heap.size+1+1,1,none⟩ (.slice none 0 0)).heap[w.heap.size+1+1]?=some (.cells #[k,JEu] 39 (0,0))/\ae [] w ((W.setCell ⟨w.heap.size+1+1,0,none⟩ (.int .i64 k)).setCell ⟨w.heap.size+1+1,1,none⟩ (.slice none 0 0))):=lh (fun W k o hr=>by
  obtain ⟨h1,h2⟩:=aH (x:=.int .i64 k) (y:=.slice none 0 0) hr;exact ⟨h1,o.trans h2 Mg (fun g hg MO=>Mj)⟩)
 clear hs hp TY;obtain ⟨s0,s1,s2⟩:=ag NT;go_enter Tryz.func36,Tryz.ntmps36;go_wp2_with fail;generalize NB:World.alloc (World.alloc (World.alloc w _) _) _=W1 at *
 clear NB s0 s1 s2;go_at_call 60;refine (HMs.out _ MT).mono ?_;rintro e w2 ⟨rfl,MV⟩;have HX2:=lh MV;clear MV;cases MF with
 | false =>
  go_wp2_with fail;go_at_call 26;refine (gT 2 _).mono ?_;rintro e w3 ⟨rfl,Nb⟩;have HX3:=lh (HX2.q Nb);have hr:=HX3.row Pg;have HF:=lh (Rh.out w3 2 (MT.q HX3) hr);obtain ⟨z0,z1,y0,y1,-⟩:=aJ hr;clear Nb hr;go_wp2_with fail;refine bodyPost_ret (v:=.agg #[.int .i64 2,JEu]) (results_cell_row Tryz.results36 _ _ (w.heap.size+1+1) _ _ _ _ rfl HF.1 Tryz.underlying39 rfl (aR _ rfl)) rfl (MM.out _ _ ⟨?_,HF.2⟩);rw [HC.out];rfl
 | true =>
  have Og:Hid (CK=if (!key && !MA)=true then some 12 else if qp<0\/15<qp\/reach<0\/7<reach then some 3 else none):=lh (by rw [HC.out];rfl);go_upto_region 3 with (fail)
  go_cut [22] (fun s22 wx=>s22=.bool (!key && !MA)/\Hid (ae [] W1 wx))
  case first =>
   cases key with
   | true =>
    go_wp2_with fail;go_meet;exact ⟨rfl,HX2⟩
   | false =>
    obtain ⟨s0,s1,s2⟩:=ag (HX2.row NT);obtain ⟨p0,p1,p2⟩:=ag (HX2.row HP1);go_wp2_with fail;go_at_call 87;refine (Zg.out _ (MT.q HX2)).mono ?_;rintro e w3 ⟨rfl,Nb⟩;have HX3:=lh (HX2.q Nb);clear Nb;go_wp2_with fail;go_meet;exact ⟨rfl,HX3⟩
  case rest =>
   obtain ⟨rfl,Jnz⟩:=hcut;obtain ⟨w4,hw4⟩:∃ z,z=wc:=⟨_,rfl⟩
   subst hw4;have Yt:=Jnz;clear HX2 Jnz;cases hkm:(!key && !MA) with
   | true =>
    rw [hkm] at Og;go_wp2_with fail;go_at_call 26;refine (gT 12 _).mono ?_;rintro e w5 ⟨rfl,NF⟩;have HX5:=lh (Yt.q NF);have hr:=HX5.row Pg;have HF:=lh (Rh.out w5 12 (MT.q HX5) hr);obtain ⟨z0,z1,y0,y1,-⟩:=aJ hr;clear NF hr;go_wp2_with fail;refine bodyPost_ret (v:=.agg #[.int .i64 12,JEu]) (results_cell_row Tryz.results36 _ _ (w.heap.size+1+1) _ _ _ _ rfl HF.1 Tryz.underlying39 rfl (aR _ rfl)) rfl (MM.out _ _ ⟨?_,HF.2⟩);rw [Og.out];rfl
   | false =>
    rw [hkm] at Og;have OM:Hid (CK=if qp<0\/15<qp\/reach<0\/7<reach then some 3 else none):=lh (by rw [Og.out];rfl);clear hkm;by_cases Ps:qp<0\/15<qp\/reach<0\/7<reach
    ·have Ss:=lh Ps
     by_cases h1:qp<0
     ·exact vO
     ·by_cases h2:15<qp
      ·exact vO
      ·by_cases h3:reach<0
       ·exact vO
       ·have h4:7<reach:=Mf
        exact vO
    ·have hb:¬ (qp<0\/15<qp\/reach<0\/7<reach):=Ps
     have h1:¬ qp<0:=Mf;have h2:¬ 15<qp:=Mf;have h3:¬ reach<0:=Mf;have h4:¬ 7<reach:=Mf;have hrr:=Yt.row Pg;have HF:=lh (Rh.out w4 0 (MT.q Yt) hrr);obtain ⟨z0,z1,y0,y1,-⟩:=aJ hrr;clear hrr hb Ps;go_wp2_with fail;refine bodyPost_ret (v:=.agg #[(),JEu]) (results_cell_row Tryz.results36 _ _ (w.heap.size+1+1) _ _ _ _ rfl HF.1 Tryz.underlying39 rfl (aR _ rfl)) rfl (MM.out _ _ ⟨?_,HF.2⟩);rw [OM.out,if_neg Mf];rfl
end
theorem qg {src prev:ai} {key:Bool} {q r c:Int} (h:bP src prev key q r=some c):c≠0:=by
 unfold bP at h
 split at h
 ·injection h with h;omega
 ·split at h
  ·injection h with h;omega
  ·split at h
   ·injection h with h;omega
   ·exact absurd h Mg
end Go.Proofs.YthcafdfdglfabaaGreatDoor
