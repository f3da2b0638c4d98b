/- Joined texts: DRkE, DRkW, DRkX, ESqE. Conditions: each part names its own. -/
import Derived.Test.YthcafdfdglfabaaGreatDoorW7
set_option maxRecDepth 100000
set_option maxHeartbeats 16000000
namespace Go.Proofs.YthcafdfdglfabaaGreatDoor
open Tryz
open Go.RowKit
set_option linter.unusedVariables false
set_option linter.unusedSimpArgs false
structure kz (base E:Nat) (w:World) (ov:Value) (m:i9):Prop where
 row:w.heap[E]?=some (.cells #[ov,m.r] 184)
 own:f9 .u8 5 base w ov (aN m.n m.lo)
 hE:base<=E
 ne:∀ g,ov.ownBlock=some g->g≠E
section
variable {base E:Nat} {w w':World} {ov:Value} {m:i9} {S:List Nat}
theorem kz.lt (h:kz base E w ov m):∀ g∈fk E ov,base<=g/\g<w.heap.size:=by
 intro g hg;rcases Zb.1 hg with rfl | hg
 ·exact ⟨h.hE,(l8.1 h.row).1⟩
 ·exact h.own.at g Qn
theorem kz.only (h:kz base E w ov m) (o:ae S w w') (D:∀ g∈S,g∉fk E ov):kz base E w' ov m :=
 ⟨o.rowAt h.row (fun I=>D E I (VY ..)),h.own.only o (fun g F e=>D g F (Pv _ (by rw [e];simp))),h.hE,h.ne⟩
abbrev gT (E:Nat) (w:World) (ov:Value) (b:Int):Prop:=w.heap[E]?=some (.cells #[ov,b] 184)
theorem gT.set0 {b:Int} (h:gT E w ov b) (v:Value):gT E (w.setCell ⟨E,0,none⟩ v) v b/\ae [E] w (w.setCell ⟨E,0,none⟩ v):=⟨WG w E 0 _ _ _ h,(AY).setCell Qb _⟩
theorem gT.set1 {b:Int} (h:gT E w ov b) (x:Int):gT E (w.setCell ⟨E,1,none⟩ (.int .i64 x)) ov x/\ae [E] w (w.setCell ⟨E,1,none⟩ (.int .i64 x)):=⟨WG w E 1 _ _ _ h,(AY).setCell Qb _⟩
theorem kz.congr (h:kz base E w ov m) (q:List Int):kz base E w ov ⟨q,m.lo,m.n,m.r⟩:=⟨h.row,h.own,h.hE,h.ne⟩
end
theorem FC:∀ (k:Nat) (l:List Int) (v:Int),¬ 0<v->jA k l v=l
 | 0,_,_,_=>rfl
 | k+1,l,v,h=>by unfold jA;rw [if_neg h]
section
theorem KR {p:Prop} (h:p:=by
 go_wp2_with fail;refine y4 (y8 results234 _ _ _) rfl (QF.out _ _ ⟨rfl,?_,QP.out⟩);rw [<- RU.out];exact QX):p:=h
theorem JK {base E g n cap:Nat} {l:List Int} {b v:Int} {w:World} (hr:gT E w (.slice g n cap) b) (ho:f9 .u8 5 base w (.slice g n cap) l) (hn:n=l.length) (RX:g≠E) (hl:n<=1000000000) (hv:0<=v/\v<=4294967296) :
  Calls prog 234 #[.pointer E,v] w fun e w'=>e=.returned (.tuple #[])/\f9 .u8 5 base w' (.slice g n cap) (jA n l v)/\ae [g] w w':=by
 refine aK fun Q QF=>?_
 obtain ⟨c0,c1,-⟩:=aL hr;have HR:=lh hr;have QJ:(n:Int)<=1000000000:=Qa;have HO:=lh ho;have Hn:=lh hn.symm;have hnE:E≠g:=fun e=>RX e.symm
 have HV:=lh hv;obtain ⟨O,J⟩:=bu v
 have Y:=lh J;rw [<- J] at QF;clear hr ho hl hv hn J;go_enter func234,ntmps234;go_wp2_with fail;clear c0 c1;go_loopw [4,1] (fun i x wr=>∃ (k:Nat) (D:List Int) (u:Int),k<=n/\i=.int .i64 ((k:Int)-1)/\x=.int .i64 u/\Hid (0<=u/\u<=4294967296)/\Hid (D.length=n)/\Hid (jA k D u=jA n l O)/\Hid (f9 .u8 5 base wr (.slice g n cap) D)/\Hid (ae [g] w wr)) (fun i _ _=>(intOf i+1).toNat)
 case atStart=>exact ⟨n,l,v,Pm _,by first | rfl | go_num,rfl,HV,Hn,lh (by rw [Y.out]),HO,lh (AY)⟩
 case round =>
  obtain ⟨k,D,u,hk,rfl,rfl,HU,M,F,QX,QP⟩:=hrel;have Wl:Hid (gT E wr (.slice g n cap) b):=QP.rowAt HR (dn i5 hnE);cases k with
  | zero =>
   have Jba:¬ (0:Int)<=((0:Nat):Int)-1:=Qa;have RU:Hid (D=jA n l O):=lh F;exact KR
  | succ k =>
   have Rt:(k:Int)<(n:Int):=Qa;have RA:(0:Int)<=(k:Int):=Qa;have e1:(((k+1:Nat):Int)-1)=(k:Int):=Qa;rw [e1];by_cases hu:0<u
   ·have I:k<D.length:=eC M
    obtain ⟨c0,-,-⟩:=aL Wl;have cx:=QX.cellS M.symm I;have fx:=QX.frzS M.symm k;have QS:=QX.2 (D.getD k 0) (by rw [Pd,Pe I];exact PG _);simp only [i7] at QS;have N:jA (k+1) D u=jA k (D.set k ((u+D.getD k 0) % 256)) ((u+D.getD k 0) / 256):=if_pos hu;generalize D.getD k 0=y at *
    have hu4:=HU.out;have n1:IntKind.i64.wrap y=y:=Qe;have n2:IntKind.i64.wrap (u+y)=u+y:=Qe;have Xf:IntKind.u8.wrap (u+y)=(u+y) % 256:=by simp [IntKind.wrap,IntKind.bits,IntKind.signed]
    have n3:IntKind.i64.wrap ((u+y) / 256)=(u+y) / 256:=Qe;obtain ⟨z,hz⟩:=bu ((u+y) % 256)
    obtain ⟨q,hq⟩:∃ q,q=(u+y) / 256:=⟨_,rfl⟩
    rw [<- hz] at N Xf;rw [<- hq] at N n3;have L:i7 .u8 z:=by simp only [i7];omega
    obtain ⟨Ru,Rz⟩:=QX.storeS M.symm L k;have Su:=lh Ru;have Te:=lh Rz;have Z:Hid (jA k (D.set k z) q=jA n l O):=lh (by rw [<- F.out,N]);have V:Hid (0<=q/\q<=4294967296):=lh Qa;have Hq:=lh hq;clear Ru Rz N hz L QS I hu4;go_wp2_with fail;refine ⟨⟨k,D.set k z,q,Qa,Qh,?_,V,lh (dn PF M),Z,Su,lh (QP.trans Te (fun _ h _=>h) (fun _ h _=>h))⟩,by simp [intOf]⟩;rw [Hq.out]
   ·have RU:Hid (D=jA n l O):=lh (by rw [<- F.out,FC _ _ _ hu])
    exact KR
theorem pL {base E:Nat} {ov:Value} {m:i9} {x:Int} {w:World} (b:Bool) (h:kz base E w ov m) (ok:cj m) (h1:8192<=x) (h2:x<=m.r-8192) (hn:m.n<=1000000000) :
  Calls prog 230 #[.pointer E,x,.bool b] w fun e w'=>e=.returned (.tuple #[])/\∃ L,kz base E w' L (m.narrow x b)/\bA (fk E ov) w (fk E L) w':=by
 refine aK fun Q QF=>?_
 obtain ⟨I,N⟩:∃ I:i9,I=if b then ⟨m.p,m.lo+x,m.n,m.r-x⟩ else ⟨m.p,m.lo,m.n,x⟩:=⟨_,rfl⟩
 obtain ⟨m1,m2,-,-⟩:=ok.mid h1 h2;have HM:Hid (jz 2 I):=lh (by rw [N];cases b;exact m2;exact m1);have HN:Hid (m.narrow x b=i9.fix 2 I):=lh (by rw [N];cases b <;> rfl);have JhO:I.n=m.n:=by rw [N];cases b <;> rfl
 have Hn2:Hid (I.n<=1000000000):=lh (dn JhO hn);have HD:=lh N;have Tt:=ok.r1;have Vg:=ok.r0;have Hmn:Hid (m.n=(aN m.n m.lo).length/\m.n<=1000000000):=lh ⟨(cX _ _).symm,hn⟩;have HAd:Hid (jA m.n (aN m.n m.lo) x=aN m.n (m.lo+x)):=lh (by
  have:=yL m.n m.lo x [] Qa;rwa [Px,Px] at this)
 have hn4:=ok.n4;obtain ⟨g,cap,rfl,-,-⟩:=h.own.form (by rw [cX];omega);rw [cX] at h QF;have M:Hid (g≠E):=h.ne g rfl;obtain ⟨c0,c1,-⟩:=aL h.row;have F:=lh h;clear h ok m1 m2 N JhO hn hn4;go_enter func230,ntmps230;go_upto_if 6 with (fail)
 go_cut [] (fun wx=>Hid (kz base E wx (.slice g m.n cap) I)/\Hid (ae (fk E (.slice g m.n cap)) w wx))
 case first =>
  cases b with
  | false =>
   have ZY:Hid (I=⟨m.p,m.lo,m.n,x⟩):=lh HD;have f1:=Sz w E 1 _ _ F.row;have Z:=lh (gT.set1 F.row x);clear HD c0;go_wp2_with fail;go_meet;refine ⟨lh ?_,lh (Z.2.mono (fun g h _=>Zb.2 (.inl (i5.1 h))))⟩;rw [ZY.out];exact ⟨Z.1,F.own.only Z.2 (fun g hg e=>by rw [i5] at hg;exact F.ne g e hg),F.hE,F.ne⟩
  | true =>
   have ZY:Hid (I=⟨m.p,m.lo+x,m.n,m.r-x⟩):=lh HD;clear HD;go_wp2_with fail;clear c0 c1;refine (JK F.row F.own Hmn.1 M Hmn.2 Qa).mono ?_;rintro e w4 ⟨rfl,ho4,QY⟩;rw [HAd.out] at ho4;have XS:=QY.rowAt F.row (by rw [i5];exact fun e=>M.out e.symm);have JCG:=lh XS;have Yo:=lh ho4;have Rh:=lh QY;obtain ⟨c0,c1,-⟩:=aL XS;have f1:=Sz w4 E 1 _ _ XS;have Xf:IntKind.i64.wrap (m.r-x)=m.r-x:=Qe;have Z:=lh (gT.set1 XS (m.r-x));clear ho4 QY XS;go_wp2_with fail;go_meet;refine ⟨lh ?_,lh (Rh.trans Z.2 (fun g h _=>Pv _ (eH h)) (fun g h _=>Zb.2 (.inl (i5.1 h))))⟩;rw [ZY.out];exact ⟨Z.1,Yo.only Z.2 (fun g hg e=>by rw [i5] at hg;exact F.ne g e hg),F.hE,F.ne⟩
 case rest =>
  obtain ⟨HK2,QT⟩:=hcut;clear c0 c1 F HD;go_wp2_with fail;go_loopw [22] (fun _ wr=>∃ (k:Nat) (D:i9) (L:Value),k<=2/\Hid (kz base E wr L D)/\Hid (jz k D)/\Hid (i9.fix k D=i9.fix 2 I)/\Hid (D.n+k<=I.n+2)/\Hid (bA (fk E (.slice g m.n cap)) w (fk E L) wr)) (fun _ wr=>(4294967296-intOf ((wr.cell? ⟨E,1,none⟩).getD (.int .i64 0))).toNat)
  case atStart=>exact ⟨2,I,_,Qa,HK2,HM,lh rfl,lh (Pm _),lh ⟨QT,fun g hg=>.inl hg⟩⟩
  case round =>
   obtain ⟨k,D,L,hk,Y,Hm,Jhh,JdH,HQ⟩:=hrel;have Tt:=Hm.r1;have hrp:=Hm.rp;have O:=lh Y.row;obtain ⟨RR,J⟩:=bu D.r
   rw [<- J] at O Tt hrp;obtain ⟨c0,c1,-⟩:=aL O;by_cases QH:RR<16777216
   ·obtain ⟨k',rfl⟩:∃ k',k=k'+1:=by
     cases k with
     | zero=>have:=Hm.r0;rw [Int.pow_zero,Int.mul_one] at this;omega
     | succ k'=>exact ⟨k',rfl⟩
    have Jeb:D.r<16777216:=ea J QH
    have HMs:=lh (Hm.shift Jeb);have HFs:Hid (i9.fix k' D.shift=i9.fix 2 I):=lh (by rw [<- Jhh.out];exact (if_pos Jeb).symm);have TK:=JdH.out;have Zp:=Hn2.out;have hdn:D.n<=1000000002:=Qa;have HSh:Hid (aN D.shift.n D.shift.lo=aN D.n D.lo ++ [0]):=sD D.n D.lo;have Sp:Hid (D.shift.r=RR*256):=lh (by rw [J];rfl);have Jft:=lh Y.own;have QJ:(aN D.n D.lo).length<=1000000002:=by rw [cX];omega
    obtain ⟨S0,Un⟩:=bu (aN D.n D.lo)
    rw [<- Un] at Jft HSh QJ;have f0:=Sz wr E 0 _ _ O;have QS:∀ z∈[(0:Int)],i7 .u8 z:=by simp only [i5,n7,i7];omega
    have JdJ:=lh (fun (W:World)=>aU (k:=.u8) (w:=W) (t:=5) (l:=[(0:Int)]) rfl Qj QS 1 rfl rfl);have Hby:=lh (show (S0.length+[(0:Int)].length)*1<=140737488355328 by simp;omega);have Hbs:Hid (base<=wr.heap.size):=lh (by have:=Y.hE;have:=(Y.lt E (VY ..)).2;omega);have M:=lh Y.ne;have VO:=lh (ae.new wr (.cells #[.int .u8 0] 5));have Jnl:Hid (E∉L.ownBlock.toList):=lh (fun hm=>M.out E Qr rfl);obtain ⟨N1,hN1⟩:=bu ((S0 ++ [(0:Int)]).length)
    have HN1:=lh hN1;have Yt:IntKind.i64.wrap (RR*256)=RR*256:=Qe;have JDe:=lh TK;clear QS J Un Jeb TK hdn hN1 Zp QJ
    go_wp2_with (first
     | (at_builtin;refine au rfl (.tmp 31) (.tmp 32) _ rfl E8 (Jft.quiet VO) rfl (JdJ.out wr) rfl Hby (Pw Hbs VO.size) (fun v1 w1 QG QU=>?_);obtain ⟨g1,Sb,UU,-,-⟩:=QG.form Qb;rw [<- HN1.out] at UU;subst UU;have V:gT E w1 L RR:=QU.only.rowAt (VO.row O) Jnl;obtain ⟨cx1,dx1,-⟩:=aL V;have fx1:=Sz w1 E 0 _ _ V;have Ru:=V.set0 (.slice (some ⟨g1,0,none⟩) N1 Sb);obtain ⟨cy1,dy1,-⟩:=aL Ru.1;have fy1:=Sz _ E 1 _ _ Ru.1;have Su:=lh Ru;have SD:=lh QG;have Sa:=lh QU;clear QG QU V Ru)
     | fail)
    have Rz:=Su.1.set1 (RR*256);have hsO:=Su.2.trans Rz.2 (U:=[E]) (fun _ h _=>h) (fun _ h _=>h);have JhZ:∀ g,(Value.slice g1 N1 Sb).ownBlock=some g->g≠E:=fun g hg e=>by
     rcases Sa.at_ with h3 | h3
     ·exact M g (ea h3 hg) e
     ·have h4:=h3 g hg
      have h5:=(Y.lt E (VY ..)).2;have h6:=VO.size;omega
    have Xd:bA (fk E L) wr (fk E (.slice g1 N1 Sb)) _:=⟨(VO.trans Sa.only (U:=fk E L) Qb (fun g h _=>Pv _ h)).trans hsO (U:=fk E L) (fun _ h _=>h) (fun g h _=>Zb.2 (.inl (i5.1 h))),fun g hg=>by
     rcases Zb.1 hg with rfl | hg
     ·exact .inl (VY ..)
     ·have Rj:(Value.slice g1 N1 Sb).ownBlock=some g:=Qn
      rcases Sa.at_ with h3 | h3
      ·exact .inl (Pv _ (ea h3 hg))
      ·exact .inr (Pw VO.size (h3 g Rj))⟩
    have e3:=(aL Rz.1).2.1;refine ⟨⟨k',D.shift,_,Qa,lh ⟨?_,?_,Y.hE,JhZ⟩,HMs,HFs,lh ?_,lh (HQ.trans Xd)⟩,?_⟩
    ·rw [Sp.out];exact Rz.1
    ·rw [HSh.out];exact SD.only hsO (fun g hg e=>by rw [i5] at hg;exact JhZ g e hg)
    ·have:=JdH.out;show D.n+1+k'<=_;omega
    ·rw [e3,c1];simp only [intOf,Option.getD_some];omega
   ·have Juw:i9.fix k D=D:=by
     cases k with
     | zero=>rfl
     | succ k'=>unfold i9.fix;rw [if_neg (ea J QH)]
    have HF:Hid (m.narrow x b=D):=lh (by rw [HN.out,<- Jhh.out,Juw]);clear Juw J;go_wp2_with fail;refine y4 (y8 results230 _ _ _) rfl (QF.out _ _ ⟨rfl,L,?_,HQ.out⟩);rw [HF.out];exact Y
theorem Df {base E:Nat} {ov:Value} {m:i9} {p:Int} {w:World} (b:Bool) (h:kz base E w ov m) (ok:cj m) (hp:31<=p/\p<=2017) (hn:m.n<=1000000000) :
  Calls prog 213 #[.pointer E,p,.bool b] w fun e w'=>e=.returned (.agg #[(),d8])/\∃ J,kz base E w' J (m.narrow (m.r / 2048*p) b)/\bA (fk E ov) w (fk E J) w':=by
 refine aK fun Q N=>?_
 obtain ⟨q1,q2⟩:=pq ok.r0 ok.r1 (p:=p) Qa Qa;have O:=ae.new w (.cells #[(),d8] 39);have V:=h.only O Qb;have L:=lh (pL b V ok q1 q2 hn);have D:=lh (fun g hg=>(h.lt g hg).2);have HR:=lh (Sd w (.cells #[(),d8] 39));have F:=lh O;obtain ⟨c0,c1,-⟩:=aL V.row;have Vg:=ok.r0;have Tt:=ok.r1;obtain ⟨p0,p1⟩:=hp;have hp1:¬ p<1:=Qa;have hp2:¬ 2047<p:=Qa;have Y:m.r.tdiv 2048=m.r / 2048:=TY Qa;obtain ⟨d,hd⟩:=bu (m.r / 2048)
 rw [<- hd] at L Y q1 q2 N;obtain ⟨x,hx⟩:=bu (d*p)
 have hmw:IntKind.i64.wrap (d*p)=x:=by rw [hx,Pk];omega
 have hdw:IntKind.i64.wrap d=d:=Qe;rw [<- hx] at L N;generalize m.r=r at *
 clear h V ok q1 q2 hd hx O;go_enter func213,ntmps213;go_wp2_with fail;refine L.mono ?_;rintro e w2 ⟨rfl,J,hk,hw⟩;have HK:=lh hk;have M:=lh hw;have I:=hw.1.rowAt HR (fun Z=>by have:=D.out _ Z;omega);have HE:=lh I;obtain ⟨z0,z1,y0,y1,-⟩:=aL I;clear hk hw I c0 c1;go_wp2_with fail;obtain ⟨I,QV⟩:=aJ (x:=.int .i64 0) (y:=.slice none 0 0) HE;refine TV (v:=.agg #[(),d8]) (results_cell_row results213 _ _ w.heap.size _ _ _ _ rfl I underlying39 rfl (aG _ rfl)) rfl (N.out _ _ ⟨rfl,J,HK.only QV (fun g hg Z=>?_),?_⟩)
 ·rw [i5] at hg;subst hg
  rcases M.2 _ Z with h | h
  ·have:=D.out _ h;omega
  ·have:=(l8.1 HR).1;omega
 ·refine ⟨(F.trans M.1 Qb (fun g h _=>h)).trans QV (fun g h _=>h) (fun g hg QH=>Qd),fun g hg=>?_⟩
  rcases M.2 g hg with h | h
  ·exact .inl h
  ·exact .inr (Pw F.size h)
theorem Dg {base E:Nat} {ov:Value} {m:i9} {w:World} (b:Bool) (h:kz base E w ov m) (ok:cj m) (M:m.n<=1000000000) :
  Calls prog 211 #[.pointer E,.bool b] w fun e w'=>e=.returned (.tuple #[])/\∃ D,kz base E w' D (m.narrow (m.r / 2) b)/\bA (fk E ov) w (fk E D) w':=by
 have O:=ok.r0;have N:=ok.r1;have F:=lh (pL (x:=m.r / 2) b h ok Qa Qa M);obtain ⟨c0,c1,-⟩:=aL h.row;have J:m.r.tdiv 2=m.r / 2:=TY Qa;have L:IntKind.i64.wrap (m.r / 2)=m.r / 2:=Qe;generalize m.r / 2=x at *
 clear h ok;go_enter func211,ntmps211;go_wp2_with fail;refine F.mono ?_;rintro e V ⟨rfl,hx⟩;have I:=lh hx;clear hx;go_wp2_with fail;refine y4 (y8 results211 _ _ _) rfl ⟨rfl,I.out⟩
structure oD (base R E:Nat) (w:World) (ov:Value) (m:i9):Prop where
 row:iG R w false (.pointer E) (.pointer none) m.p
 enc:kz base E w ov m
 ok:cj m
 hR:base<=R
 ne:R∉fk E ov
section
variable {base R E:Nat} {w w':World} {ov:Value} {m:i9} {S:List Nat}
theorem oD.lt (h:oD base R E w ov m):∀ g∈t7 R E ov,base<=g/\g<w.heap.size:=by
 intro g D;rcases Zb.1 D with rfl | D
 ·exact ⟨h.hR,(l8.1 h.row).1⟩
 ·exact h.enc.lt g D
theorem oD.only (h:oD base R E w ov m) (o:ae S w w') (F:∀ g∈S,g∉t7 R E ov):oD base R E w' ov m :=
 ⟨h.row.only o (fun D=>F R D (VY ..)),h.enc.only o (fun g I D=>F g I (Pv _ D)),h.ok,h.hR,h.ne⟩
theorem oD.went (h:oD base R E w ov m) {F:Value} {J:i9} (L:kz base E w' F J) (I:bA (fk E ov) w (fk E F) w') (ok:cj J) (N:J.p=m.p) :
  oD base R E w' F J/\bA (t7 R E ov) w (t7 R E F) w':=by
 have O:=(h.lt R (VY ..)).2;refine ⟨⟨by rw [N];exact h.row.only I.1 h.ne,L,ok,h.hR,fun M=>?_⟩,I.1.mono (fun g D _=>Pv _ D),fun g D=>?_⟩
 ·rcases I.2 R M with h1 | h1
  ·exact h.ne h1
  ·omega
 ·rcases Zb.1 D with rfl | D
  ·exact .inl (VY ..)
  ·exact (I.2 g D).imp_left (Pv _)
end
theorem Dl {base R E:Nat} {ov:Value} {m:i9} {w:World} (h:oD base R E w ov m) (b:Bool) (V:m.n<=1000000000) :
  Calls prog 162 #[.pointer R,.bool b] w fun e w'=>e=.returned (.bool b)/\∃ F,oD base R E w' F (ow b m).2/\bA (t7 R E ov) w (t7 R E F) w':=by
 obtain ⟨c0,c1,c2⟩:=h.row.cells;have D:=h.ok;have I:=lh (D.narrow (w:=m.r / 2) (j0 D.r0) (j0 D.r0) b);have N:=lh h;have M:=lh (Dg b h.enc h.ok V);clear h D;go_enter func162,ntmps162;go_wp2_with fail;refine M.mono ?_;rintro e Y ⟨rfl,F,J,L⟩;have O:=lh (N.went J L I.1 I.2.2.2);clear J L;go_wp2_with fail;go_ret;exact ⟨rfl,F,O.out⟩
theorem GG {base R E:Nat} {ov:Value} {m:i9} {w:World} (h:oD base R E w ov m) {c:Nat} (L:c<64) (b:Bool) (hn:m.n<=1000000000) :
  Calls prog 163 #[.pointer R,c,.bool b] w fun e w'=>e=.returned (.bool b)/\∃ F,oD base R E w' F (mA c b m).2/\bA (t7 R E ov) w (t7 R E F) w':=by
 refine aK fun Q Z=>?_
 have hx:=sF h.ok L;obtain ⟨c0,c1,c2⟩:=h.row.cells;have cp:=h.row.at (c:=c) (by rw [h.ok.len];exact L) rfl;obtain ⟨q1,q2⟩:=pq h.ok.r0 h.ok.r1 (p:=m.p.getD c 0) Qa Qa;have I:=lh (h.ok.narrow q1 q2 b);have O:Hid ((mA c b m).2=⟨m.p.set c (fK (m.p.getD c 0) b),(m.narrow (m.r / 2048*m.p.getD c 0) b).lo,(m.narrow (m.r / 2048*m.p.getD c 0) b).n,(m.narrow (m.r / 2048*m.p.getD c 0) b).r⟩):=xw _ m _ b;have J:=lh (jR h.ok L b).1;have HK:=lh h;have hci:(0:Int)<=(c:Int):=Qa;have JJl:¬ (c:Int)<0:=Qa;have Juk:(c:Int)<64:=Qa;have JJm:¬ 63<(c:Int):=Qa;have V:=lh (Df (p:=m.p.getD c 0) b h.enc h.ok hx hn);have QJ:=lh h.ok.len;clear h q1 q2;generalize M:m.p.getD c 0=x at *
 have hd1:x.tdiv 32=x / 32:=TY Qa;have hd2:(2048-x).tdiv 32=(2048-x) / 32:=TY Qa;generalize m.narrow (m.r / 2048*x) b=NW at *
 clear M;go_enter func163,ntmps163;go_wp2_with fail;refine V.mono ?_;rintro e N ⟨rfl,F,he,hq⟩;have D:=lh (HK.went he hq I.1 I.2.2.2);clear he hq V c0 c1 c2 cp;have cp:=D.1.row.at (c:=c) (by rw [I.2.2.2,QJ.out];omega) rfl;have f0:=Sz N R (3+c) _ _ D.1.row;have Y:Hid (∀ k,k=3+c->oD base R E (N.setCell ⟨R,k,none⟩ (.int .i64 (fK x b))) F (mA c b m).2/\bA (t7 R E ov) w (t7 R E F) (N.setCell ⟨R,k,none⟩ (.int .i64 (fK x b)))):=lh (fun k hk=>by
  obtain ⟨a,o⟩:=D.1.row.set hk (fK x b);have RX:=D.1.ne;have Vg:=(D.1.lt R (VY ..)).2;rw [O.out,<- I.2.2.2];refine ⟨⟨a,(D.1.enc.only o (fun g hg hm=>by rw [i5] at hg;subst hg;exact RX hm)).congr _,?_,D.1.hR,RX⟩,D.2.1.trans o (fun g h _=>h) (fun g h _=>by rw [i5] at h;subst h;exact VY ..),D.2.2⟩;rw [I.2.2.2,<- O.out];exact J)
 cases b with
 | true =>
  go_wp2_with fail;exact Z.out _ _ ⟨rfl,F,Y.out _ Qa⟩
 | false =>
  go_wp2_with fail;exact Z.out _ _ ⟨rfl,F,Y.out _ Qa⟩
end
section
theorem yS:aN 4 0=[0,0,0,0]:=Qc
theorem Gw (w:World):Calls prog 90 #[] w fun e w'=>∃ E ov,e=.returned (.pointer (some ⟨E,0,none⟩))/\kz w.heap.size E w' ov gy/\ae [] w w':=by
 refine aK fun Q J=>?_
 have I:∀ z∈[(0:Int),0,0,0],i7 .u8 z:=by simp [i7]
 have D:=lh (iQ (k:=.u8) (w:=w) (t:=5) (l:=[(0:Int),0,0,0]) (vs:=madeCells #[.int .u8 0] 4) Qc Qj I 4 rfl rfl);have N:∀ W:World,(Instr.makeSlice 29 (.int .i64 4) (.int .i64 4)).run prog W=.ok (.slice (some ⟨W.heap.size,0,none⟩) 4 4) (W.alloc (.cells (madeCells #[.int .u8 0] 4) 5)):=fun W=>run_make_row' (P:=prog) 29 5 (.int .u8 0) 1 E8.ut Qc rfl .i64 .i64 4 Qa Qa W
 have M:=ae.new w (.cells (madeCells #[.int .u8 0] 4) 5);generalize madeCells #[.int .u8 0] 4=MC at *
 clear I;go_enter func90,ntmps90;go_wp2_with fail;have F:=ae.new (w.alloc (.cells MC 5)) (.cells #[.slice w.heap.size 4 4,.int .i64 4294967295] 184);refine J.out _ _ ⟨w.heap.size+1,.slice w.heap.size 4 4,rfl,⟨ak Qb,?_,Qa,fun g L e=>?_⟩,M.q F⟩
 ·show f9 .u8 5 w.heap.size _ _ (aN 4 0)
  rw [yS];exact D.quiet F
 ·have:w.heap.size=g:=eH L
  omega
theorem GH (w:World):Calls prog 39 #[] w fun e w'=>∃ R E ov,e=.returned (.pointer (some ⟨R,0,none⟩))/\oD w.heap.size R E w' ov gy/\ae [] w w':=by
 refine aK fun Q QF=>?_
 have HN:=lh (Gw w);go_enter func39,ntmps39;go_wp2_with fail;refine HN.mono ?_;rintro e F ⟨E,ov,rfl,hd,Y⟩;have V:=lh hd;have Z:=lh Y;clear hd Y;obtain ⟨L,D⟩:∃ C:Array Value,C=(nE false (.pointer E) (.pointer none) (List.replicate 64 0)).toArray:=⟨_,rfl⟩
 have hb:(Instr.build 102 #[(1,.pointer E)]).run prog F=.ok (.agg L) F:=by rw [D];kernel_rfl
 have Hb:=lh hb;have Uz:=lh D;clear hb D
 rename_i K0 hK0
 simp only [];refine hK0 _ _ ?_;clear hK0;refine lM rfl 102 [(1,.tmp 1)] rfl Hb ?_;go_wp2_with fail;have Vf:=ae.new F (.cells L 102);have hr:iG F.heap.size (F.alloc (.cells L 102)) false (.pointer E) (.pointer none) (List.replicate 64 0):=by rw [iG,<- Uz.out];exact LD
 have HF:=lh (Dh hr Qb);have RY:=lh Vf;have O:=Z.size;have I:=lh (fun g hg=>(V.lt g hg).2);clear Vf hr;refine HF.mono ?_;rintro e w4 ⟨rfl,J,QY⟩;have M:=lh J;have Zl:=lh QY;clear J QY;go_wp2_with fail;refine QF.out _ _ ⟨F.heap.size,E,ov,rfl,⟨M,(V.only RY Qb).only Zl.out (fun g hg N=>by rw [i5] at hg;subst hg;have:=I.out _ N;omega),jw,O,fun N=>by have:=I.out _ N;omega⟩,(Z.q RY).trans Zl.out Qb (fun g hg QH=>Qd)⟩
end
def bh (base R E:Nat):KC R where
 σ:=i9
 C:=i6
 reads:=false
 base:=base
 At:=fun F w m=>∃ ov,F=t7 R E ov/\oD base R E w ov m
 Ok:=fun n m=>cj m/\m.n<=n
 ok_le:=fun h k=>⟨h.1,Pw h.2 k⟩
 ok_bit:=fun c b h hc=>⟨(jR h.1 hc b).1,by have:=(jR h.1 hc b).2.2;have:=h.2;show (mA c b _).2.n<=_;omega⟩
 ok_flat:=fun b h=>⟨(jH h.1 b).1,by have:=(jH h.1 b).2.2;have:=h.2;show (ow b _).2.n<=_;omega⟩
 only:=fun h o hS=>by
  obtain ⟨ov,rfl,hw⟩:=h;exact ⟨ov,rfl,hw.only o (fun g hg=>(hS g hg).2)⟩
 lt:=fun h g hg=>by
  obtain ⟨ov,rfl,hw⟩:=h;exact (hw.lt g hg).2
 base_le:=fun h=>by
  obtain ⟨ov,rfl,hw⟩:=h;have:=hw.lt R (VY ..);omega
 cell:=fun h=>by
  obtain ⟨ov,rfl,hw⟩:=h;exact hw.row.cells.1
 bit:=fun c b h ok hn hc=>by
  obtain ⟨ov,rfl,hw⟩:=h;exact (GG hw hc b (j0 ok.2)).mono (fun e w' r=>⟨r.1,by obtain ⟨Sw,x,y⟩:=r.2;exact ⟨_,⟨Sw,rfl,x⟩,y⟩⟩)
 flat:=fun b h ok hn=>by
  obtain ⟨ov,rfl,hw⟩:=h;exact (Dl hw b (j0 ok.2)).mono (fun e w' r=>⟨r.1,by obtain ⟨Sw,x,y⟩:=r.2;exact ⟨_,⟨Sw,rfl,x⟩,y⟩⟩)
section
theorem Lb {p:Prop} (h:p:=by
 go_wp2_with fail;refine (FR Tg (by have:=Tg.1.len_le;obtain ⟨a,c,e,h1,h2,-⟩:=Tg.open;injection e with e1 e2 e3;omega)).mono ?_;rintro e w2 ⟨v',rfl,QL,hq⟩;have HX:=lh (VL QL hq);clear QL hq;go_wp2_with fail;refine QF.out _ _ ⟨v',rfl,?_,HX.2⟩;rw [HEW.out];exact HX.1):p:=h
theorem JM {base E:Nat} {ov:Value} {m:i9} {w:World} (h:kz base E w ov m) (h4:4<=m.n) (hn:m.n<=1000000000) :
  Calls prog 44 #[.pointer E] w fun e w'=>∃ v',e=.returned v'/\f9 .u8 5 w.heap.size w' v' (jk m)/\ae [] w w':=by
 refine aK fun Q QF=>?_
 have HEW:Hid (jk m=cO (aN m.n m.lo)):=lh rfl;have D:Hid ((aN m.n m.lo).length=m.n):=cX _ _;obtain ⟨g,cap,rfl,-,-⟩:=h.own.form (by rw [cX];omega);have Y:=lh h.own;rw [cX] at Y;have O:=h.row;rw [cX] at O;have Sv:(aN m.n m.lo).length<=cap/\cap<=maxLen:=by obtain ⟨a,c,e,h1,h2,-⟩:=h.own.ints.open;injection e with e1 e2 e3;rw [e3];exact ⟨h1,h2⟩
 rw [cX] at Sv;generalize aN m.n m.lo=L at *
 generalize m.n=N at *
 have I:=lh Sv;have SA:=lh O;have hNi:(N:Int)<=1000000000:=Qa;obtain ⟨c0,c1,-⟩:=aL O;clear h O Sv h4;go_enter func44,ntmps44;go_wp2_with fail;clear c0 c1;go_loopw [3] (fun v wr=>∃ k:Nat,k<=N/\v=.int .i64 k/\Hid (cO (L.take k)=cO L)/\w=wr) (fun v _=>(intOf v).toNat)
 case atStart=>exact ⟨N,Pm _,rfl,lh (by rw [YN (by rw [D.out];exact Pm _)]),by first | rfl | skip⟩
 case round =>
  obtain ⟨k,hk,rfl,Z,rfl⟩:=hrel;obtain ⟨c0,c1,-⟩:=aL SA;have J:Hid (∀ (j:Nat) (z:Int),z=(j:Int)->j<=N->cO L=L.take j->(∀ W:World,(Instr.slice 29 (.slice g N cap) none (some (.int .i64 z)) none).run prog W=.ok (.slice g j cap) W)/\aj .u8 base w.heap.size w (.slice g j cap) (cO L)):=lh (fun j z V hj F=>by
   refine ⟨fun W=>Bw j V (j0 I.1) W,?_⟩;rw [F];have hI:=Y.ints;rw [<- D.out] at hI;have hi:=hI.sub (PX j) (bC D hj) cap (Pm _) (j0 I.1);simpa using hi)
  cases k with
  | zero =>
   have F:cO L=L.take 0:=by rw [<- Z.out];simp [cO]
   obtain ⟨Ym,M⟩:=J.out 0 0 rfl (PX _) F;have Tg:=lh M;clear M F;exact Lb
  | succ k =>
   have TB:k<L.length:=eC D
   have cx:=Y.cellS D.symm TB;have Rt:(k:Int)<(N:Int):=Qa;have RA:(0:Int)<=(k:Int):=Qa;have e1:IntKind.i64.wrap (((k+1:Nat):Int)-1)=(k:Int):=Qe;have e2:(0:Int)<((k+1:Nat):Int):=Qa;have e3:(((k+1:Nat):Int)-1)=(k:Int):=Qa;have Hz:=lh (fun h=>rL TB h);have Hl:=lh (fun h=>rK TB h);generalize L.getD k 0=z at *
   by_cases V:z=0
   ·subst V
    have Hn:Hid (cO (L.take k)=cO L):=lh (by rw [<- Z.out,Hz.out rfl]);clear Hz Hl;go_wp2_with fail;exact ⟨⟨k,Qa,Qh,Hn,by first | rfl | trivial⟩,by simp [intOf]⟩
   ·have F:cO L=L.take (k+1):=by rw [<- Hl.out V,Z.out]
    obtain ⟨Ym,M⟩:=J.out (k+1) ((k:Int)+1) Qa hk F;have Tg:=lh M;clear M F Hz Hl;exact Lb
def JN:Option Int->Value
 | none=>.agg #[(),d8]
 | some k=>.agg #[k,d8]
theorem yA {p:Prop} (h:p:=by
 clear SM;go_wp2_with fail;refine (fo 3 _).mono ?_;rintro e w5 ⟨rfl,RF⟩;have HX5:=lh (HX4.q RF);have hr:=HX5.row HE1;have HF:=lh (Vi.out w5 3 (QO.q HX5) hr);obtain ⟨z0,z1,y0,y1,-⟩:=aL hr;clear RF hr;go_wp2_with fail;refine TV (v:=.agg #[.int .i64 3,d8]) (results_cell_row results36 _ _ (w.heap.size+1+1) _ _ _ _ rfl HF.1 underlying39 rfl (aG _ rfl)) rfl (QF.out _ _ ⟨?_,HF.2⟩);rw [HC3.out,if_pos WH.out];rfl):p:=h
theorem Gv {lo hi lo' hi':Nat} {sv pv:Value} {src prev:ah} {w:World} (key:Bool) (qp reach:Int) (Z:aj .i64 lo hi w sv src.pix) (Y:aj .i64 lo' hi' w pv prev.pix) :
  Calls prog 36 #[.agg #[src.W,src.H,sv],.agg #[prev.W,prev.H,pv],.bool key,qp,reach] w fun e w'=>e=.returned (JN (cy src prev key qp reach))/\ae [] w w':=by
 refine aK fun Q QF=>?_
 have J:=lh (fun (W:World) (o:ae [] w W)=>gZ src.W src.H (Z.quiet o));have I:=lh (fun (W:World) (o:ae [] w W)=>GM prev.W prev.H src.W src.H sv (Y.quiet o));have HC:Hid (cy src prev key qp reach=if cT src=false then some 2 else if (!key && !ej prev src.W src.H)=true then some 12 else if qp<0\/15<qp\/reach<0\/7<reach then some 3 else none):=lh rfl;rw [show (⟨src.W,src.H,src.pix⟩:ah)=src from rfl] at J;rw [show (⟨prev.W,prev.H,prev.pix⟩:ah)=prev from rfl] at I;obtain ⟨sa,sc,rfl,-⟩:=Z.open;obtain ⟨pa,pc,rfl,-⟩:=Y.open;generalize cy src prev key qp reach=CK at *
 generalize cT src=MF at *
 generalize ej prev src.W src.H=MA at *
 obtain ⟨XP,Su,O,HE1,-⟩:=kp w (sT src sa sc) (sT prev pa pc) (.cells #[(),d8] 39);have QO:=lh XP;have Vi:Hid (∀ (W:World) (k:Int) (o:ae [] w W) (hr:W.heap[w.heap.size+1+1]?=some (.cells #[(),d8] 39)),((W.setCell ⟨w.heap.size+1+1,0,none⟩ (.int .i64 k)).setCell ⟨w.heap.size+1+1,1,none⟩ (.slice none 0 0)).heap[w.heap.size+1+1]?=some (.cells #[k,d8] 39)/\ae [] w ((W.setCell ⟨w.heap.size+1+1,0,none⟩ (.int .i64 k)).setCell ⟨w.heap.size+1+1,1,none⟩ (.slice none 0 0))):=lh (fun W k o hr=>by
  obtain ⟨h1,V⟩:=aJ (x:=.int .i64 k) (y:=.slice none 0 0) hr;exact ⟨h1,o.trans V Qb (fun g hg QH=>Qd)⟩)
 clear Z Y XP;obtain ⟨s0,s1,s2⟩:=ag Su;go_enter func36,ntmps36;go_wp2_with fail;generalize Rs:World.alloc (World.alloc (World.alloc w _) _) _=W1 at *
 clear Rs s0 s1 s2;refine (J.out _ QO).mono ?_;rintro e w2 ⟨rfl,QN⟩;have D:=lh QN;clear QN;cases MF with
 | false =>
  go_wp2_with fail;refine (fo 2 _).mono ?_;rintro e w3 ⟨rfl,M⟩;have E:=lh (D.q M);have hr:=E.row HE1;have HF:=lh (Vi.out w3 2 (QO.q E) hr);obtain ⟨z0,z1,y0,y1,-⟩:=aL hr;clear M hr;go_wp2_with fail;refine TV (v:=.agg #[.int .i64 2,d8]) (results_cell_row results36 _ _ (w.heap.size+1+1) _ _ _ _ rfl HF.1 underlying39 rfl (aG _ rfl)) rfl (QF.out _ _ ⟨?_,HF.2⟩);rw [HC.out];rfl
 | true =>
  have N:Hid (CK=if (!key && !MA)=true then some 12 else if qp<0\/15<qp\/reach<0\/7<reach then some 3 else none):=lh (by rw [HC.out];rfl);go_upto_region 3 with (fail)
  go_cut [22] (fun s22 wx=>s22=.bool (!key && !MA)/\Hid (ae [] W1 wx))
  case first =>
   cases key with
   | true =>
    go_wp2_with fail;go_meet;exact ⟨rfl,D⟩
   | false =>
    obtain ⟨s0,s1,s2⟩:=ag (D.row Su);obtain ⟨p0,p1,p2⟩:=ag (D.row O);go_wp2_with fail;refine (I.out _ (QO.q D)).mono ?_;rintro e w3 ⟨rfl,M⟩;have E:=lh (D.q M);clear M;go_wp2_with fail;go_meet;exact ⟨rfl,E⟩
  case rest =>
   obtain ⟨rfl,L⟩:=hcut;obtain ⟨w4,hw4⟩:=bu wc
   subst hw4;have HX4:=L;clear D L;cases hkm:(!key && !MA) with
   | true =>
    rw [hkm] at N;go_wp2_with fail;refine (fo 12 _).mono ?_;rintro e w5 ⟨rfl,RF⟩;have HX5:=lh (HX4.q RF);have hr:=HX5.row HE1;have HF:=lh (Vi.out w5 12 (QO.q HX5) hr);obtain ⟨z0,z1,y0,y1,-⟩:=aL hr;clear RF hr;go_wp2_with fail;refine TV (v:=.agg #[.int .i64 12,d8]) (results_cell_row results36 _ _ (w.heap.size+1+1) _ _ _ _ rfl HF.1 underlying39 rfl (aG _ rfl)) rfl (QF.out _ _ ⟨?_,HF.2⟩);rw [N.out];rfl
   | false =>
    rw [hkm] at N;have HC3:Hid (CK=if qp<0\/15<qp\/reach<0\/7<reach then some 3 else none):=lh (by rw [N.out];rfl);clear hkm;by_cases SM:qp<0\/15<qp\/reach<0\/7<reach
    ·have WH:=lh SM
     by_cases h1:qp<0
     ·exact yA
     ·by_cases V:15<qp
      ·exact yA
      ·by_cases h3:reach<0
       ·exact yA
       ·have h4:7<reach:=Qa
        exact yA
    ·have hb:¬ (qp<0\/15<qp\/reach<0\/7<reach):=SM
     have h1:¬ qp<0:=Qa;have V:¬ 15<qp:=Qa;have h3:¬ reach<0:=Qa;have h4:¬ 7<reach:=Qa;have F:=HX4.row HE1;have HF:=lh (Vi.out w4 0 (QO.q HX4) F);obtain ⟨z0,z1,y0,y1,-⟩:=aL F;clear F hb SM;go_wp2_with fail;refine TV (v:=.agg #[(),d8]) (results_cell_row results36 _ _ (w.heap.size+1+1) _ _ _ _ rfl HF.1 underlying39 rfl (aG _ rfl)) rfl (QF.out _ _ ⟨?_,HF.2⟩);rw [HC3.out,if_neg Qa];rfl
end
theorem Ek {src prev:ah} {key:Bool} {q r c:Int} (h:cy src prev key q r=some c):c≠0:=by
 unfold cy at h
 split at h
 ·injection h with h;omega
 ·split at h
  ·injection h with h;omega
  ·split at h
   ·injection h with h;omega
   ·exact absurd h Qb
end Go.Proofs.YthcafdfdglfabaaGreatDoor
