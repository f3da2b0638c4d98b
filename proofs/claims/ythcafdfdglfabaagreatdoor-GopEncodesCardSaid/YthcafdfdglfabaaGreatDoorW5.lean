/- Joined texts: EContG, ERacW, EMod, EBlk, ELev. Conditions: each part names its own. -/
import Derived.Test.YthcafdfdglfabaaGreatDoorW2
namespace Go.Proofs.YthcafdfdglfabaaGreatDoor
open Tryz
open Go.RowKit
set_option linter.unusedVariables false
set_option linter.unusedSimpArgs false
set_option maxRecDepth 100000
set_option maxHeartbeats 16000000
section
variable {f:Nat} {g:Int->Bool} {lo hi:Nat} {v:Value} {l:List Int} {w:World}
theorem CV (ef:∀ (args:Array Value) (w:World),(callFunc f args).run prog w=.ok (.enter f args) w) (D:∀ (x:Int) (w:World),Calls prog f #[x] w fun e w'=>e=.returned (.bool (g x))/\w=w') (h:aj .i64 lo hi w v l) (Y:l.length<=1000000000) :
  Calls prog 182 #[v,.func (.func f) #[] #[]] w fun e w'=>(∃ i:Int,e=.returned (.int .i64 i)/\(0<=i↔l.any g=true)/\-1<=i/\i<=1000000000)/\ae [] w w':=by
 obtain ⟨a,cap,rfl,Sv,RN,O,N⟩:=h.open;have TT:=lh O;have Rm:=lh N;have L:=lh D;have Z:=lh Y;have Th:(l.length:Int)<=9223372036854775807:=Qa;clear h O N RN Sv Y D;go_enter func182,ntmps182;go_wp2_with fail;go_loopw [8] (fun i wr=>∃ k:Nat,k<=l.length/\i=.int .i64 k/\Hid ((l.drop k).any g=l.any g)/\ae [] w wr) (fun i _=>l.length-(intOf i).toNat)
 case atStart=>exact ⟨0,Qa,rfl,lh rfl,AY⟩
 case round =>
  obtain ⟨k,hk,rfl,I,F⟩:=hrel;by_cases J:k<l.length
  ·obtain ⟨b,off,rfl,_,_⟩:=TT.out k J
   have c0:=F.cell (Rm.out b off rfl k J) Qb;have hx:(0:Int)<=(k:Int):=Qa;have RZ:(k:Int)<(l.length:Int):=Qa;have V:=lh (kB (f:=g) J);generalize l.getD k 0=x at *
   cases Wh:g x with
   | true =>
    have E:=lh Wh;clear Wh;go_wp2_with fail;refine (L.out _ _).mono ?_;rintro e w2 ⟨rfl,rfl⟩;rw [E.out];go_wp2_with fail;go_ret;refine ⟨⟨k,rfl,?_,Qa,by have:=Z.out;omega⟩,F⟩;rw [<- I.out,V.out,E.out];simp
   | false =>
    have E:=lh Wh;clear Wh;go_wp2_with fail;refine (L.out _ _).mono ?_;rintro e w2 ⟨rfl,rfl⟩;rw [E.out];have RU:Hid ((l.drop (k+1)).any g=l.any g):=lh (by rw [<- I.out,V.out,E.out];rfl);go_wp2_with fail;exact ⟨⟨k+1,Qa,Qh,RU,F⟩,Qf⟩
  ·obtain rfl:k=l.length:=Qa
   have hx:¬ (l.length:Int)<(l.length:Int):=Qa;have M:Hid (l.any g=false):=lh (by rw [<- I.out,List.drop_length];rfl);go_wp2_with fail;go_ret;refine ⟨⟨-1,rfl,?_,Qa,Qa⟩,F⟩
   first | rw [M.out] | rw [<- List.any_eq_true,M.out]
   simp
theorem iB (I:∀ (args:Array Value) (w:World),(callFunc f args).run prog w=.ok (.enter f args) w) (D:∀ (x:Int) (w:World),Calls prog f #[x] w fun e w'=>e=.returned (.bool (g x))/\w=w') (h:aj .i64 lo hi w v l) (E:l.length<=1000000000) :
  Calls prog 122 #[v,.func (.func f) #[] #[]] w fun e w'=>e=.returned (.bool (l.any g))/\ae [] w w':=by
 have H:=lh (CV I D h E);clear h E D;generalize l.any g=B at *
 go_enter func122,ntmps122
 go_wp2_with (first | (go_at_call 182;refine H.mono ?_;rintro e w1 ⟨⟨i,rfl,hi1,L,J⟩,F⟩) | fail)
 go_ret;exact ⟨aC (by rw [m9,<- hi1];try simp),F⟩
end
theorem gC {p:Prop} (h:p:=by intro wz Rb;(try dsimp only at Rb);go_simp;try with_reducible rfl):p:=h
section
theorem Cr {base E:Nat} {ov:Value} {l:List Int} {a b:Int} {w:World} (hr:gH E w ov a b) (V:f9 .u8 5 base w ov l) (RX:∀ g,ov.ownBlock=some g->g≠E) (hl:l.length<=1000000000) :
  Calls prog 262 #[.pointer E] w fun e w'=>e=.returned (.tuple #[])/\gH E w' ov a b/\f9 .u8 5 base w' ov (jW l.length l)/\ae ov.ownBlock.toList w w':=by
 refine aK fun Q N=>?_
 obtain ⟨c0,c1,c2⟩:=gI hr;have HR:=lh hr;have QJ:(l.length:Int)<=1000000000:=Qa;rcases V.nilOr with ⟨rfl,rfl⟩ | ⟨g,cap,rfl⟩
 ·have HO:=lh V
  clear hr V RX;go_enter func262,ntmps262;go_wp2_with fail;go_loopw [2] (fun i wr=>i=.int .i64 (-1)/\w=wr) (fun _ _=>0)
  case atStart=>exact ⟨rfl,rfl⟩
  case round =>
   obtain ⟨rfl,rfl⟩:=hrel;go_wp2_with fail;exact y4 (y8 results262 _ _ _) rfl (N.out _ _ ⟨rfl,HR.out,HO.out,AY⟩)
 ·have Y:(Value.slice g l.length cap).ownBlock=some g:=rfl
  have HNe:Hid (g≠E):=RX g Y;have HO:=lh V;have J:E≠g:=fun e=>HNe.out e.symm
  clear hr V RX hl;rw [Y] at N;go_enter func262,ntmps262;go_wp2_with fail;clear c0 c1 c2;obtain ⟨n,hn⟩:∃ n,n=l.length:=⟨_,rfl⟩
  rw [<- hn] at QJ HO HR N |-
  have Hn:=lh hn;clear hn;go_loopw [2] (fun i wr=>∃ (k:Nat) (D:List Int),k<=n/\i=.int .i64 ((k:Int)-1)/\Hid (D.length=n)/\Hid (jW k D=jW n l)/\Hid (f9 .u8 5 base wr (.slice g n cap) D)/\Hid (ae [g] w wr)) (fun i _=>(intOf i+1).toNat)
  case atStart=>exact ⟨n,l,Pm _,Qh,lh Hn.symm,lh rfl,HO,lh (AY)⟩
  case round =>
   obtain ⟨k,D,hk,rfl,L,I,O,QP⟩:=hrel;have Wl:Hid (gH E wr (.slice g n cap) a b):=QP.rowAt HR (dn i5 J);cases k with
   | zero =>
    have Jba:¬ (0:Int)<=((0:Nat):Int)-1:=Qa;have RU:Hid (D=jW n l):=lh I;go_wp2_with fail;refine y4 (y8 results262 _ _ _) rfl (N.out _ _ ⟨rfl,Wl.out,?_,QP.out⟩);rw [<- RU.out];exact O
   | succ k =>
    have Rt:(k:Int)<(n:Int):=Qa;have RA:(0:Int)<=(k:Int):=Qa;have e1:(((k+1:Nat):Int)-1)=(k:Int):=Qa;rw [e1];have F:k<D.length:=eC L
    obtain ⟨c0,-,-⟩:=gI Wl;have cx:=O.cellS L.symm F;have fx:=O.frzS L.symm k;have QS:=O.2 (D.getD k 0) (by rw [Pd,Pe F];exact PG _);simp only [i7] at QS;have XV:jW (k+1) D=if (D.getD k 0+1) % 256=0 then jW k (D.set k 0) else D.set k ((D.getD k 0+1) % 256):=rfl
    have HS:=lh (fun (x:Int) (hx:i7 .u8 x)=>O.storeS L.symm hx k);have Xf:IntKind.u8.wrap (D.getD k 0+1)=(D.getD k 0+1) % 256:=by simp [IntKind.wrap,IntKind.bits,IntKind.signed]
    generalize D.getD k 0=y at *
    obtain ⟨z,hz⟩:=bu ((y+1) % 256)
    rw [<- hz] at XV Xf;have M:i7 .u8 z:=by simp only [i7];omega
    obtain ⟨Ru,Rz⟩:=HS.out z M;have Su:=lh Ru;have Te:=lh Rz;have c0b:=Rz.cell c0 (dn i5 J);have cxb:=Ru.cellS (by rw [PF];exact L.symm) (i:=k) (dn PF F);have e2:(D.set k z).getD k 0=z:=by rw [Pd,PT F];rfl
    rw [e2] at cxb;have Vr:=lh XV;have HZ:=lh hz;clear Ru Rz XV hz HS e2 M QS F;by_cases Z:z=0
    ·subst Z
     have Jho:Hid (jW k (D.set k 0)=jW n l):=lh (by rw [<- I.out,Vr.out,if_pos rfl]);clear Vr HZ;go_wp2_with fail;exact ⟨⟨k,D.set k 0,Qa,Qh,lh (dn PF L),Jho,Su,lh (QP.trans Te (fun _ h _=>h) (fun _ h _=>h))⟩,by simp [intOf]⟩
    ·have Sm:Hid (D.set k z=jW n l):=lh (by rw [<- I.out,Vr.out,if_neg Z])
     clear Vr HZ;go_wp2_with fail;refine y4 (y8 results262 _ _ _) rfl (N.out _ _ ⟨rfl,?_,?_,QP.trans Te.out (fun _ h _=>h) (fun _ h _=>h)⟩)
     ·exact Te.rowAt Wl (dn i5 J)
     ·rw [<- Sm.out];exact Su
theorem rf {base E:Nat} {ov:Value} {m:i9} {x:Int} {w:World} (b:Bool) (h:gi base E w ov m) (ok:cj m) (h1:8192<=x) (h2:x<=m.r-8192) (hn:m.n<=1000000000) :
  Calls prog 261 #[.pointer E,.int .u64 x,.bool b] w fun e w'=>e=.returned (.tuple #[])/\∃ V,gi base E w' V (m.narrow x b)/\bA (fk E ov) w (fk E V) w':=by
 refine aK fun Q QF=>?_
 obtain ⟨L,hd2⟩:∃ L:i9,L=if b then ⟨m.p,m.lo+x,m.n,m.r-x⟩ else ⟨m.p,m.lo,m.n,x⟩:=⟨_,rfl⟩
 obtain ⟨m1,m2,-,-⟩:=ok.mid h1 h2;have HM:Hid (jz 2 L):=lh (by rw [hd2];cases b;exact m2;exact m1);have HN:Hid (m.narrow x b=i9.fix 2 L):=lh (by rw [hd2];cases b <;> rfl);have JhO:L.n=m.n:=by rw [hd2];cases b <;> rfl
 have Hn2:Hid (L.n<=1000000000):=lh (dn JhO hn);have HD:=lh hd2;have WZ:0<=m.lo % 4294967296/\m.lo % 4294967296<4294967296:=Qa;have Y:=ok.r1;have Vg:=ok.r0;obtain ⟨c0,c1,c2⟩:=gI h.row;have J:=lh h;have HW0:=lh (DS m (x:=x) Qa Qa);have HLo:Hid ((m.lo+x) % 4294967296=if 4294967295<m.lo % 4294967296+x then (m.lo % 4294967296+x) % 4294967296 else m.lo % 4294967296+x):=lh (by split <;> omega);have Hmn:Hid ((lI m).length<=1000000000):=lh (by rw [qu];omega);clear h ok m1 m2 hd2 JhO hn;go_enter func261,ntmps261;go_upto_if 6 with (fail)
 go_cut [] (fun wx=>Hid (gi base E wx ov L)/\Hid (ae (fk E ov) w wx))
 case first =>
  cases b with
  | false =>
   have ZY:Hid (L=⟨m.p,m.lo,m.n,x⟩):=lh HD;have f2:=Sz w E 2 _ _ J.row;have HS:=lh (gH.set2 J.row x);clear HD c0 c1;go_wp2_with fail;go_meet;refine ⟨lh ?_,lh (HS.2.mono (fun g h _=>Zb.2 (.inl (i5.1 h))))⟩;rw [ZY.out];exact ⟨HS.1,J.own.only HS.2 (fun g hg e=>by rw [i5] at hg;exact J.ne g e hg),J.hE,J.ne⟩
  | true =>
   have ZY:Hid (L=⟨m.p,m.lo+x,m.n,m.r-x⟩):=lh HD;have N:Hid (lI L=lI ⟨m.p,m.lo+x,m.n,m.r-x⟩):=lh (by rw [ZY.out]);rw [HW0.out] at N;have O:Hid (L.lo % 4294967296=(m.lo+x) % 4294967296):=lh (by rw [ZY.out]);rw [HLo.out] at O;have SQ:Hid (L.r=m.r-x):=lh (by rw [ZY.out]);have F:=lh J.row;obtain ⟨M,Z⟩:=bu (m.lo % 4294967296)
   rw [<- Z] at N O F WZ c1;obtain ⟨RR,I⟩:=bu m.r
   rw [<- I] at SQ F c2 h2 Y Vg;obtain ⟨b0,b1⟩:=WZ;have Su:=lh (gH.set1 F (M+x));have Te:=lh (Su.1.set2 (RR-x));have f1:=Sz w E 1 _ _ F;have f2:=Sz _ E 2 _ _ Su.1;obtain ⟨-,d1,e2⟩:=gI Su.1;obtain ⟨-,e1,-⟩:=gI Te.1;have g1:=Sz _ E 1 _ _ Te.1;have ha:=vC (a:=M+x) Qa Qa;clear HD ZY Z I HW0 HLo;by_cases hc:4294967295<M+x
   ·rw [if_pos hc] at N O
    have HS3:=lh (Te.1.set1 ((M+x) % 4294967296));go_wp2_with fail;generalize Tb:World.setCell (World.setCell (World.setCell w _ _) _ _) _ _=W3 at *
    have Ui:Hid (ae [E] w W3):=lh ((Su.2.trans Te.2 (fun _ h _=>h) (fun _ h _=>h)).trans HS3.2 (fun _ h _=>h) (fun _ h _=>h));have SA:=lh HS3.1;clear Su Te HS3 Tb d1 e1 e2 g1 f1 f2 c0 c1 c2;refine (Cr SA (J.own.only Ui (fun g hg e=>by rw [i5] at hg;exact J.ne g e hg)) J.ne Hmn).mono ?_;rintro e w4 ⟨rfl,hr4,ho4,QY⟩;go_wp2_with fail;go_meet;refine ⟨lh ⟨?_,?_,J.hE,J.ne⟩,lh (Ui.trans QY (fun g h _=>Zb.2 (.inl (i5.1 h))) (fun g h _=>Pv _ h))⟩
    ·rw [O.out,SQ.out];exact hr4
    ·rw [N.out];exact ho4
   ·rw [if_neg hc] at N O
    go_wp2_with fail;go_meet;have QN:=Su.2.trans Te.2 (U:=[E]) (fun _ h _=>h) (fun _ h _=>h);refine ⟨lh ⟨?_,?_,J.hE,J.ne⟩,lh (QN.mono (fun g h _=>Zb.2 (.inl (i5.1 h))))⟩
    ·rw [O.out,SQ.out];exact Te.1
    ·rw [N.out];exact J.own.only QN (fun g hg e=>by rw [i5] at hg;exact J.ne g e hg)
 case rest =>
  obtain ⟨HK2,QT⟩:=hcut;clear c0 c1 c2 J HW0 HLo HD;go_wp2_with fail;go_loopw [41] (fun _ wr=>∃ (k:Nat) (D:i9) (V:Value),k<=2/\Hid (gi base E wr V D)/\Hid (jz k D)/\Hid (i9.fix k D=i9.fix 2 L)/\Hid (D.n+k<=L.n+2)/\Hid (bA (fk E ov) w (fk E V) wr)) (fun _ wr=>(4294967296-intOf ((wr.cell? ⟨E,2,none⟩).getD (.int .u64 0))).toNat)
  case atStart=>exact ⟨2,L,ov,Qa,HK2,HM,lh rfl,lh (Pm _),lh ⟨QT,fun g hg=>.inl hg⟩⟩
  case round =>
   obtain ⟨k,D,V,hk,Hk,Hm,Jhh,JdH,HQ⟩:=hrel;have Y:=Hm.r1;have hrp:=Hm.rp;have F:=lh Hk.row;obtain ⟨RR,I⟩:=bu D.r
   rw [<- I] at F Y hrp;by_cases QH:RR<16777216
   ·obtain ⟨k',rfl⟩:∃ k',k=k'+1:=by
     cases k with
     | zero=>have:=Hm.r0;rw [Int.pow_zero,Int.mul_one] at this;omega
     | succ k'=>exact ⟨k',rfl⟩
    have Jeb:D.r<16777216:=ea I QH
    have HMs:=lh (Hm.shift Jeb);have HFs:Hid (i9.fix k' D.shift=i9.fix 2 L):=lh (by rw [<- Jhh.out];exact (if_pos Jeb).symm);have TK:=JdH.out;have Zp:=Hn2.out;have hdn:D.n<=1000000002:=Qa;have HSh:=lh (DT Hm.n4);have HLs:Hid (D.shift.lo % 4294967296=D.lo % 4294967296*256 % 4294967296):=lh (by show D.lo*256 % 4294967296=_;omega);have Sp:Hid (D.shift.r=RR*256):=lh (by rw [I];rfl);have HB:Hid (D.lo / 16777216 % 256=D.lo % 4294967296 / 16777216 % 256):=lh Qa;have Xk:0<=D.lo % 4294967296/\D.lo % 4294967296<4294967296:=Qa;have QJ:(lI D).length<=1000000000:=by rw [qu];omega
    rw [HB.out] at HSh;obtain ⟨M,Z⟩:=bu (D.lo % 4294967296)
    rw [<- Z] at HSh HLs F Xk;obtain ⟨l0,l1⟩:=Xk;have ha:=vC (a:=M*256) Qa Qa;have Jft:=lh Hk.own;obtain ⟨S0,Un⟩:=bu (lI D)
    rw [<- Un] at Jft HSh QJ;obtain ⟨c0,c1,c2⟩:=gI F;have f0:=Sz wr E 0 _ _ F;have QS:∀ z∈[M / 16777216 % 256],i7 .u8 z:=by simp only [i5,n7,i7];omega
    have JdJ:=lh (fun (W:World)=>aU (k:=.u8) (w:=W) (t:=5) (l:=[M / 16777216 % 256]) rfl Qj QS 1 rfl rfl);have Hby:=lh (show (S0.length+[M / 16777216 % 256].length)*1<=140737488355328 by simp;omega);have Hbs:Hid (base<=wr.heap.size):=lh (by have:=Hk.hE;have:=(Hk.lt E (VY ..)).2;omega);have HNe:=lh Hk.ne;have WW:=lh Jft.nilOr;have VO:=lh (ae.new wr (.cells #[.int .u8 (M / 16777216 % 256)] 5)).drew;have d0:=VO.cell c0 Qb;have d1:=VO.cell c1 Qb;have Jnl:Hid (E∉V.ownBlock.toList):=lh (fun hm=>HNe.out E Qr rfl);obtain ⟨N1,hN1⟩:=bu ((S0 ++ [M / 16777216 % 256]).length)
    have HN1:=lh hN1;have hwb:IntKind.u8.wrap (M / 16777216)=M / 16777216 % 256:=by simp [IntKind.wrap,IntKind.bits,IntKind.signed]
    clear QS I Z Un Jeb TK hdn hN1;go_wp2_with fail;refine Tf (S:=(fun w'=>w'.cell? ⟨E,1,none⟩=some (.int .u64 M))) Qc ?_ (fun hHeld=>?_)
    ·exact c1
    refine e9 0 46 ⟨rfl,gC⟩ ?_;refine e9 1 47 ⟨rfl,gC⟩ ?_;refine e9 2 48 ⟨rfl,gC⟩ ?_;refine e9 3 49 ⟨rfl,gC⟩ ?_;refine e9 5 51 ⟨rfl,gC⟩ ?_;refine e9 6 52 ⟨rfl,gC⟩ ?_;refine e9 7 53 ⟨rfl,gC⟩ ?_;refine e9 8 54 ⟨rfl,gC⟩ ?_;refine e9 9 55 ⟨rfl,gC⟩ ?_;refine e9 10 56 ⟨rfl,gC⟩ ?_
    iterate 4 (all_goals (first | (refine j8 (rs:=[4,11]) Qg Qb ?_;refine j2 4 50 (fun K hK=>?_) (j2 11 57 (fun K hK=>?_) .nil)) | (refine j8 (rs:=[4]) Qg Qb ?_;refine j2 4 50 (fun K hK=>?_) .nil) | (refine j8 (rs:=[11]) Qg Qb ?_;refine j2 11 57 (fun K hK=>?_) .nil) | (refine j8 (rs:=[12]) Qg Qb ?_;refine j2 12 58 (fun K hK=>?_) .nil) | (refine j8 (rs:=[15]) Qg Qb ?_;refine C9 15 (fun K hK=>?_) .nil));all_goals (first | (refine ck rfl (.tmp 50) (.tmp 57) _ rfl E8 (Jft.out.quiet VO.out) rfl ((JdJ.out wr).quiet (ae.refl [] _).drew) rfl Hby.out (Pw Hbs.out VO.out.size) (fun v1 w1 QG QU=>?_);obtain ⟨g1,Sb,UU,-,-⟩:=QG.form Qb;rw [<- HN1.out] at UU;subst UU;have Y:gH E w1 V M RR:=QU.only.rowAt (VO.out.row F.out) Jnl.out;have Rg:=lh Y;obtain ⟨cx1,dx1,ex1⟩:=gI Y;have fx1:=Sz w1 E 0 _ _ Y;have fy1:=Sz w1 E 1 _ _ Y;have fz1:=Sz w1 E 2 _ _ Y;have Ru:=Y.set0 (.slice g1 N1 Sb);obtain ⟨-,sx1,-⟩:=gI Ru.1;have Su:=lh Ru;have SD:=lh QG;have Sa:=lh QU;clear QG QU Y Ru;refine hK.out _ _ (dx1) (fun hHeld=>?_);clear hK K;refine e9 13 59 ⟨rfl,by intro wz Rb;(try dsimp only at Rb);go_simp;try with_reducible rfl⟩ ?_;refine e9 14 60 ⟨rfl,by intro wz Rb;(try dsimp only at Rb);go_simp;try with_reducible rfl⟩ ?_) | (go_simp;first | (refine hK.out _ _ (by first | exact c1 | exact d1) (fun hHeld=>?_);clear hK K) | (refine hK.out _ _ (d1) (fun hHeld=>?_);clear hK K) | (refine hK.out _ _ (sx1) (fun hHeld=>?_);clear hK K))))
    all_goals (refine Wn Qc ?_ _)
    all_goals
     go_wp2_with fail;have Rz:=Su.1.set1 (M*256 % 4294967296);have XT:=Rz.1.set2 (RR*256);have hsO:=(Su.2.trans Rz.2 (U:=[E]) (fun _ h _=>h) (fun _ h _=>h)).trans XT.2 (U:=[E]) (fun _ h _=>h) (fun _ h _=>h);have JhZ:∀ g,(Value.slice g1 N1 Sb).ownBlock=some g->g≠E:=fun g hg e=>by
      rcases Sa.at_ with h3 | h3
      ·exact HNe g (ea h3 hg) e
      ·have h4:=h3 g hg
       have h5:=(Hk.lt E (VY ..)).2;have h6:=VO.size;omega
     have Xd:bA (fk E V) wr (fk E (.slice g1 N1 Sb)) _:=⟨(VO.trans Sa.only (U:=fk E V) Qb (fun g h _=>Pv _ h)).trans hsO (U:=fk E V) (fun _ h _=>h) (fun g h _=>Zb.2 (.inl (i5.1 h))),fun g hg=>by
      rcases Zb.1 hg with rfl | hg
      ·exact .inl (VY ..)
      ·have Rj:(Value.slice g1 N1 Sb).ownBlock=some g:=Qn
       rcases Sa.at_ with h3 | h3
       ·exact .inl (Pv _ (ea h3 hg))
       ·exact .inr (Pw VO.size (h3 g Rj))⟩
     have e3:=(gI XT.1).2.2;refine ⟨⟨k',D.shift,_,Qa,lh ⟨?_,?_,Hk.hE,JhZ⟩,HMs,HFs,lh ?_,lh (HQ.trans Xd)⟩,?_⟩
     ·rw [HLs.out,Sp.out];exact XT.1
     ·rw [HSh.out];exact SD.only hsO (fun g hg e=>by rw [i5] at hg;exact JhZ g e hg)
     ·have:=JdH.out;show D.n+1+k'<=_;omega
     ·rw [e3,c2];simp only [intOf,Option.getD_some];omega
   ·have hge:¬ D.r<16777216:=ea I QH
    have Jmc:i9.fix 2 L=D:=by
     rw [<- Jhh.out];cases k with
     | zero=>rfl
     | succ k=>exact if_neg hge
    have WO:=lh Jmc;have JJH:16777216<=RR:=Qa;obtain ⟨c0,c1,c2⟩:=gI F;clear Jmc hge I;go_wp2_with fail;refine y4 (y8 results261 _ _ _) rfl (QF.out _ _ ?_);rw [HN.out,WO.out];exact ⟨rfl,V,Hk.out,HQ.out⟩
end
theorem Eg (q:List Int):∀ (k:Nat) (m:i9),i9.fix k ⟨q,m.lo,m.n,m.r⟩=⟨q,(i9.fix k m).lo,(i9.fix k m).n,(i9.fix k m).r⟩
 | 0,m=>rfl
 | k+1,m=>by
  unfold i9.fix;simp only
  split
  ·exact Eg q k m.shift
  ·rfl
theorem xw (q:List Int) (m:i9) (w:Int) (b:Bool):i9.narrow ⟨q,m.lo,m.n,m.r⟩ w b=⟨q,(m.narrow w b).lo,(m.narrow w b).n,(m.narrow w b).r⟩:=by
 unfold i9.narrow;cases b with
 | true=>simp only [if_true];exact Eg q 2 ⟨m.p,m.lo+w,m.n,m.r-w⟩
 | false=>simp only [Bool.false_eq_true,if_false];exact Eg q 2 ⟨m.p,m.lo,m.n,w⟩
theorem gi.congr {base E:Nat} {w:World} {ov:Value} {m:i9} (h:gi base E w ov m) (q:List Int):gi base E w ov ⟨q,m.lo,m.n,m.r⟩:=⟨h.row,h.own,h.hE,h.ne⟩
section
theorem FX {base E:Nat} {ov:Value} {m:i9} {p:Int} {w:World} (b:Bool) (h:gi base E w ov m) (ok:cj m) (hp:31<=p/\p<=2017) (hn:m.n<=1000000000) :
  Calls prog 257 #[.pointer E,p,.bool b] w fun e w'=>e=.returned .nilIface/\∃ O,gi base E w' O (m.narrow (m.r / 2048*p) b)/\bA (fk E ov) w (fk E O) w':=by
 refine aK fun Q F=>?_
 obtain ⟨M,N⟩:=pq ok.r0 ok.r1 (p:=p) Qa Qa;have D:=lh (rf b h ok M N hn);have Y:=lh (fun w=>Ci p w Qa Qa);obtain ⟨-,-,c2⟩:=gI h.row;have Vg:=ok.r0;have Tt:=ok.r1;obtain ⟨p0,p1⟩:=hp;have hpw:IntKind.u64.wrap p=p:=by rw [IntKind.wrap_u64];omega
 have J:0<=m.r / 2048:=Qa;have L:IntKind.u64.wrap (m.r / 2048)=m.r / 2048:=by rw [IntKind.wrap_u64];omega
 have I:m.r.tdiv 2048=m.r / 2048:=TY Qa;obtain ⟨d,V⟩:=bu (m.r / 2048)
 rw [<- V] at D I L M N J F;obtain ⟨x,hx⟩:=bu (d*p)
 have hmw:IntKind.u64.wrap (d*p)=x:=by rw [hx,IntKind.wrap_u64];omega
 rw [<- hx] at D F;generalize m.r=r at *
 clear h ok M N V hx;go_enter func257,ntmps257;go_wp2_with fail;refine (Y.out _).mono ?_;rintro e w1 ⟨rfl,rfl⟩;go_wp2_with fail;refine D.mono ?_;rintro e w2 ⟨rfl,hx⟩;have Z:=lh hx;clear hx;go_wp2_with fail;exact F.out _ _ ⟨rfl,Z.out⟩
theorem FY {base E:Nat} {ov:Value} {m:i9} {w:World} (b:Bool) (h:gi base E w ov m) (ok:cj m) (M:m.n<=1000000000) :
  Calls prog 259 #[.pointer E,.bool b] w fun e w'=>e=.returned (.tuple #[])/\∃ D,gi base E w' D (m.narrow (m.r / 2) b)/\bA (fk E ov) w (fk E D) w':=by
 have O:=ok.r0;have N:=ok.r1;have F:=lh (rf (x:=m.r / 2) b h ok Qa Qa M);obtain ⟨-,-,c2⟩:=gI h.row;have J:m.r.tdiv 2=m.r / 2:=TY Qa;have L:IntKind.u64.wrap (m.r / 2)=m.r / 2:=by rw [IntKind.wrap_u64];omega
 generalize m.r / 2=x at *
 clear h ok;go_enter func259,ntmps259;go_wp2_with fail;refine F.mono ?_;rintro e V ⟨rfl,hx⟩;have I:=lh hx;clear hx;go_wp2_with fail;refine y4 (y8 results259 _ _ _) rfl ⟨rfl,I.out⟩
theorem Lj {p:Prop} (h:p:=by
 go_enter func258,ntmps258;go_wp2_with fail
 go_region
 go_wp2_with fail;refine y4 (y8 results258 _ _ _) rfl (QF.out _ _ ⟨rfl,?_,?_⟩)
 ·exact (HL.out _).1
 ·exact (HL.out _).2.drew):p:=h
theorem Dm {R D:Nat} {p:List Int} {T:TypeId} {w:World} (hr:w.heap[R]?=some (.cells (eG p D).toArray T)) (F:p.length=64) {c:Nat} (E:c<64) (hx:31<=p.getD c 0/\p.getD c 0<=2017) (b:Bool) :
  Calls prog 258 #[.pointer R,c,.bool b] w fun e w'=>e=.returned (.tuple #[])/\w'.heap[R]?=some (.cells (eG (p.set c (fK (p.getD c 0) b)) D).toArray T)/\ae [R] w w':=by
 refine aK fun Q QF=>?_
 have c0:w.cell? ⟨R,c,none⟩=some (.int .i64 (p.getD c 0)):=by rw [RG hr];exact rq F D E
 have L:=Sz w R c _ _ hr;have HL:=lh (fun x:Int=>(by
  have h1:=WG w R c _ _ (.int .i64 x) hr;rw [xZ F D E] at h1;exact ⟨h1,(ae.refl [R] w).setCell Qb _⟩:(w.setCell ⟨R,c,none⟩ (.int .i64 x)).heap[R]?=some (.cells (eG (p.set c x) D).toArray T)/\ae [R] w (w.setCell ⟨R,c,none⟩ (.int .i64 x))))
 have J:(0:Int)<=(c:Int):=Qa;have I:(c:Int)<64:=Qa;clear hr;generalize p.getD c 0=x at *
 cases b with
 | true =>
  exact Lj
 | false =>
  exact Lj
end
structure kA (base R E:Nat) (w:World) (ov:Value) (m:i9):Prop where
 row:w.heap[R]?=some (.cells (eG m.p E).toArray 135)
 enc:gi base E w ov m
 ok:cj m
 hR:base<=R
 ne:R∉fk E ov
abbrev t7 (R E:Nat) (ov:Value):List Nat:=R :: fk E ov
section
variable {base R E:Nat} {w w':World} {ov:Value} {m:i9} {S:List Nat}
theorem kA.lt (h:kA base R E w ov m):∀ g∈t7 R E ov,base<=g/\g<w.heap.size:=by
 intro g D;rcases Zb.1 D with rfl | D
 ·exact ⟨h.hR,(l8.1 h.row).1⟩
 ·exact h.enc.lt g D
theorem kA.only (h:kA base R E w ov m) (o:ae S w w') (F:∀ g∈S,g∉t7 R E ov):kA base R E w' ov m :=
 ⟨o.rowAt h.row (fun D=>F R D (VY ..)),h.enc.only o (fun g I D=>F g I (Pv _ D)),h.ok,h.hR,h.ne⟩
theorem kA.quiet (h:kA base R E w ov m) (o:ae [] w w'):kA base R E w' ov m:=h.only o Qb
theorem kA.cell (h:kA base R E w ov m) {c:Nat} (D:c<64):w.cell? ⟨R,c,none⟩=some (.int .i64 (m.p.getD c 0)):=by
 rw [RG h.row];exact rq h.ok.len E D
theorem kA.ptr (h:kA base R E w ov m):w.cell? ⟨R,64,none⟩=some (.pointer E):=by
 rw [RG h.row];exact xY h.ok.len E
theorem kA.gone (h:kA base R E w ov m) {D:Value} (g:bA (fk E ov) w (fk E D) w'):w'.heap[R]?=some (.cells (eG m.p E).toArray 135)/\R∉fk E D/\bA (t7 R E ov) w (t7 R E D) w':=by
 refine ⟨g.1.rowAt h.row h.ne,fun F=>?_,g.1.mono (fun x hx _=>Pv _ hx),fun x hx=>?_⟩
 ·rcases g.2 R F with h1 | h1
  ·exact h.ne h1
  ·have:=(h.lt R (VY ..)).2;omega
 ·rcases Zb.1 hx with rfl | hx
  ·exact .inl (VY ..)
  ·exact (g.2 x hx).imp_left (Pv _)
end
section
theorem LX {base R E:Nat} {w:World} {ov:Value} {m:i9} (h:kA base R E w ov m) {c:Nat} (F:c<64) (b:Bool) (hn:m.n<=1000000000) :
  Calls prog 253 #[.pointer R,c,.bool b] w fun e w'=>e=.returned (.bool b)/\∃ Sw,kA base R E w' Sw (mA c b m).2/\bA (t7 R E ov) w (t7 R E Sw) w':=by
 refine aK fun Q QF=>?_
 have hx:=sF h.ok F;have c0:=h.cell F;have c1:=h.ptr;have QX:=lh (jR h.ok F b).1;have O:Hid ((mA c b m).2=⟨m.p.set c (fK (m.p.getD c 0) b),(m.narrow (m.r / 2048*m.p.getD c 0) b).lo,(m.narrow (m.r / 2048*m.p.getD c 0) b).n,(m.narrow (m.r / 2048*m.p.getD c 0) b).r⟩):=xw _ m _ b;have V:=lh h;have Hx:=lh hx;have hci:(0:Int)<=(c:Int):=Qa;have Juk:(c:Int)<64:=Qa;have HC:=lh (fun (w':World) (o:ae [] w w')=>FX b (h.quiet o).enc h.ok hx hn);have Ta:=lh h.ok.len;generalize (mA c b m).2=mf at *
 generalize m.narrow (m.r / 2048*m.p.getD c 0) b=mn at *
 clear h hx hn;go_enter func253,ntmps253;go_wp2_with fail;refine (zo c F _).mono ?_;rintro e w1 ⟨rfl,rfl⟩;go_wp2_with fail
 go_region_with (first
  | (go_at_call 257;refine (HC.out _ (AY).drew).mono ?_;rintro e w2 ⟨rfl,N,I,J⟩;have L:=lh I;have M:=lh J;clear I J)
  | fail)
 all_goals
  have D:=lh ((V.quiet (ae.refl [] _).drew).gone M);go_wp2_with fail;refine (Dm D.1 Ta F Hx b).mono ?_;rintro e w3 ⟨rfl,SM,Y⟩;have Wk:=lh SM;have Z:=lh Y;clear SM Y;go_wp2_with fail;refine QF.out _ _ ⟨rfl,N,⟨?_,?_,QX.out,V.hR,D.2.1⟩,?_⟩
  ·rw [O.out];exact Wk
  ·rw [O.out];exact (L.only Z (fun g hg hm=>by rw [i5] at hg;subst hg;exact D.2.1 hm)).congr _
  ·exact ⟨((ae.refl [] w).drew.trans D.2.2.1 (U:=t7 R E ov) Qb (fun g h _=>h)).trans Z (fun g h _=>h) (fun g h _=>by rw [i5] at h;subst h;exact VY ..),D.2.2.2⟩
theorem IA {base R E:Nat} {w:World} {ov:Value} {m:i9} (h:kA base R E w ov m) (b:Bool) (Z:m.n<=1000000000) :
  Calls prog 255 #[.pointer R,.bool b] w fun e w'=>e=.returned (.bool b)/\∃ N,kA base R E w' N (ow b m).2/\bA (t7 R E ov) w (t7 R E N) w':=by
 have c1:=h.ptr;have Y:=lh (jH h.ok b).1;have V:Hid ((ow b m).2.p=m.p):=lh (h.ok.narrow (w:=m.r / 2) (j0 h.ok.r0) (j0 h.ok.r0) b).2.2.2;have M:=lh h;have O:=lh (FY b h.enc h.ok Z);clear h;go_enter func255,ntmps255;go_wp2_with fail;refine O.mono ?_;rintro e w2 ⟨rfl,L,D,F⟩;have I:=lh D;have J:=lh (M.gone F);clear D F;go_wp2_with fail;go_ret;refine ⟨rfl,L,⟨?_,I.out,Y.out,M.hR,J.2.1⟩,J.2.2⟩;rw [V.out];exact J.1
theorem Jn (w:World):Calls prog 66 #[] w fun e w'=>e=.returned (.pointer w.heap.size)/\gi w.heap.size w.heap.size w' (.slice none 0 0) gy/\ae [] w w':=by
 have D:=lh (ae.new w);have E:=lh (Sd w (.cells #[d8,.int .u64 0,.int .u64 4294967295] 205));go_enter func66,ntmps66;go_wp2_with fail;go_ret;exact ⟨rfl,⟨E,f9.nil _ _ _ _,Pm _,fun g F=>by simp [Value.ownBlock] at F⟩,D.out _⟩
theorem LZ (w:World):Calls prog 30 #[] w fun e w'=>∃ R E,e=.returned (.pointer (some ⟨R,0,none⟩))/\kA w.heap.size R E w' (.slice none 0 0) gy/\ae [] w w':=by
 refine aK fun Q QF=>?_
 go_enter func30,ntmps30;go_wp2_with fail;refine (FJ w).mono ?_;rintro e w1 ⟨rfl,N⟩;have V:=lh N;clear N;obtain ⟨C,J⟩:∃ C:Array Value,C=(List.replicate 64 (Value.int .i64 1024)).toArray:=⟨_,rfl⟩
 rw [<- J];have HC:=lh J;clear J;go_wp2_with fail;refine (Jn w1).mono ?_;rintro e I ⟨rfl,he,O⟩;have M:=lh he;have QT:=lh O;clear he O;have F:=V.size;generalize w1.heap.size=E at *
 obtain ⟨L,D⟩:∃ C:Array Value,C=(eG (List.replicate 64 1024) E).toArray:=⟨_,rfl⟩
 have Z:(Instr.build 135 #[(0,.agg C),(1,.pointer E)]).run prog I=.ok (.agg L) I:=by rw [HC.out,D];kernel_rfl
 have Hb:=lh Z;have Uz:=lh D;clear Z D
 rename_i K0 hK0
 simp only [];refine hK0 _ _ ?_;clear hK0;refine lM rfl 135 [(0,.tmp 1),(1,.tmp 2)] rfl Hb ?_;go_wp2_with fail;have Y:=ae.new I (.cells L 135);have QH:=(M.lt E (VY ..)).2;refine QF.out _ _ ⟨I.heap.size,E,rfl,⟨?_,?_,jw,Qa,by simp [Value.ownBlock];omega⟩,(V.q QT).q Y⟩
 ·rw [Uz.out];exact LD
 ·have:=M.quiet Y
  exact ⟨this.row,this.own.lower F,F,this.ne⟩
theorem OA (R:Nat) (w:World):(Go.method 447 69 (.pointer R) "Bit").run prog w=.ok (253,.pointer R) w:=Qc
theorem Kd (R:Nat) (w:World):(Go.method 447 69 (.pointer R) "Flat").run prog w=.ok (255,.pointer R) w:=Qc
theorem Kk (R:Nat) (w:World):(nilAhead 447 69 (.pointer R) "Flat").run prog w=.ok (some false) w:=Qc
theorem OB (R:Nat) (w:World):(nilAhead 447 69 (.pointer R) "Bit").run prog w=.ok (some false) w:=Qc
@[reducible] def pcWrite (base R E:Nat):PC where
 σ:=i9
 C:=i6
 T:=69
 R:=R
 fb:=253
 ff:=255
 base:=base
 At:=fun F w m=>∃ ov,F=t7 R E ov/\kA base R E w ov m
 Ok:=fun n m=>cj m/\m.n<=n
 mB:=OA R
 mF:=Kd R
 eB:=fun args w=>MuLone.run_callFunc_enter func253 Qc rfl args w
 eF:=fun args w=>MuLone.run_callFunc_enter func255 Qc rfl args w
 nB:=OB R
 nF:=Kk R
 ok_le:=fun h k=>⟨h.1,Pw h.2 k⟩
 ok_bit:=fun c b h hc=>⟨(jR h.1 hc b).1,by have:=(jR h.1 hc b).2.2;have:=h.2;show (mA c b _).2.n<=_;omega⟩
 ok_flat:=fun b h=>⟨(jH h.1 b).1,by have:=(jH h.1 b).2.2;have:=h.2;show (ow b _).2.n<=_;omega⟩
 only:=fun h o hS=>by
  obtain ⟨ov,rfl,hw⟩:=h;exact ⟨ov,rfl,hw.only o (fun g hg=>(hS g hg).2)⟩
 lt:=fun h g hg=>by
  obtain ⟨ov,rfl,hw⟩:=h;exact (hw.lt g hg).2
 base_le:=fun h=>by
  obtain ⟨ov,rfl,hw⟩:=h;have:=hw.lt R (VY ..);omega
 bit:=fun c b h ok hn hc=>by
  obtain ⟨ov,rfl,hw⟩:=h;exact (LX hw hc b (j0 ok.2)).mono (fun e w' r=>⟨r.1,by obtain ⟨Sw,x,y⟩:=r.2;exact ⟨_,⟨Sw,rfl,x⟩,y⟩⟩)
 flat:=fun b h ok hn=>by
  obtain ⟨ov,rfl,hw⟩:=h;exact (IA hw b (j0 ok.2)).mono (fun e w' r=>⟨r.1,by obtain ⟨Sw,x,y⟩:=r.2;exact ⟨_,⟨Sw,rfl,x⟩,y⟩⟩)
end
def FB (x:Int):Bool:=decide (x < -1048576) || decide (1048576<x)
section
theorem vH (x:Int) (w:World):Calls prog 220 #[x] w fun e w'=>e=.returned (.bool (FB x))/\w=w':=by
 go_enter func220,ntmps220;go_wp2_with fail
 all_goals
  go_ret;exact ⟨aC (by unfold FB;simp;try omega),rfl⟩
theorem xu {l:List Int} (h:ar l):l.any FB=false:=by
 rw [List.any_eq_false];intro x hx;have:=h x hx;simp only [FB,Bool.or_eq_true,r9];omega
theorem yQ {lo hi lo' hi':Nat} {u v:Value} {a b:List Int} {w:World} (F:aj .i64 lo hi w u a) (I:aj .i64 lo' hi' w v b) (V:b.length=a.length) (hm:a.length<=1000) (Y:ar a) (Z:ar b) :
  Calls prog 184 #[u,v] w fun e w'=>e=.returned .nilIface/\ae [] w w':=by
 have E:=fun args w=>MuLone.run_callFunc_enter func220 Qc rfl args w
 have J:=lh (iB E vH F Qa);have D:=lh (fun (W:World) (o:ae [] w W)=>iB E vH (I.quiet o) Qa);rw [xu Y] at J;rw [xu Z] at D;obtain ⟨p,pc,rfl,-⟩:=F.open;obtain ⟨q,qc,rfl,-⟩:=I.open;rw [V] at D |-
 clear E F I;go_enter func184,ntmps184;go_wp2_with fail;refine J.mono ?_;rintro e w1 ⟨rfl,L⟩;have N:=lh L;clear L;go_wp2_with fail;refine (D.out w1 N).mono ?_;rintro e w2 ⟨rfl,M⟩;have O:=lh M;clear M;go_wp2_with fail;go_ret;exact ⟨rfl,N.q O.out⟩
theorem Fy {a b:List Int} {k:Nat} (h:k<a.length) (D:b.length=a.length):(dX a b)[k]?=some (a.getD k 0-b.getD k 0):=by
 unfold dX;rw [List.getElem?_zipWith,Pe h,Pe Qa,Pd,Pe h,Pd,Pe Qa]
 rfl
theorem Iq {l:List Int} {k:Nat} {x:Int} (h:l[k]?=some x):l.take (k+1)=l.take k ++ [x]:=by
 obtain ⟨h1,D⟩:=List.getElem?_eq_some_iff.1 h;rw [UJ h1,D]
theorem Nc {lo hi lo' hi':Nat} {u v:Value} {a b:List Int} {w:World} (ha:aj .i64 lo hi w u a) (hb:aj .i64 lo' hi' w v b) (M:b.length=a.length) (hm:a.length<=64) (sa:ar a) (sb:ar b) :
  Calls prog 127 #[u,v] w fun e w'=>∃ v',e=.returned (.tuple #[v',.nilIface])/\f9 .i64 3 w.heap.size w' v' (dX a b)/\ae [] w w':=by
 refine aK fun Q QF=>?_
 have F:=lh (yQ ha hb M Qa sa sb);have I:=lh (fun (k:Nat) (h:k<a.length)=>Fy h M);have V:=lh sa;have Y:=lh sb;obtain ⟨p,pc,rfl,-,-,RO,QR⟩:=ha.open;obtain ⟨q,qc,rfl,-,-,Xw,Wy⟩:=hb.open;obtain ⟨n,N⟩:∃ n,n=a.length:=⟨_,rfl⟩
 rw [M,<- N] at Xw Wy F |-
 rw [<- N] at RO QR I hm;have HL:Hid ((dX a b).length=n):=lh (by rw [fR N.symm (M.trans N.symm)]);have TT:=lh RO;have Rm:=lh QR;have Jhg:=lh Xw;have Z:=lh Wy;clear ha hb M sa sb RO QR Xw Wy N;generalize dX a b=S at *
 go_enter func127,ntmps127;go_wp2_with fail;refine F.mono ?_;rintro e w1 ⟨rfl,hq⟩;have QO:=lh hq;clear hq;go_wp2_with fail;go_loopw [7,18] (fun y i wr=>∃ k:Nat,k<=n/\i=.int .i64 k/\Hid (f9 .i64 3 w.heap.size wr y (S.take k))/\Hid (bj w.heap.size y)/\Hid (ae [] w wr)) (fun _ i _=>n-(intOf i).toNat)
 case atStart=>exact ⟨0,Qa,rfl,lh (f9.nil _ _ _ _),lh (bj.nil _),QO⟩
 case round =>
  obtain ⟨k,hk,rfl,E,D,L⟩:=hrel;by_cases J:k<n
  ·have Rt:(k:Int)<(n:Int):=Qa
   have RA:(0:Int)<=(k:Int):=Qa;obtain ⟨b1,JpO,rfl,_,_⟩:=TT.out k J;obtain ⟨b2,JpP,rfl,_,_⟩:=Jhg.out k J;have ca:=L.cell (Rm.out b1 JpO rfl k J) Qb;have cb:=L.cell (Z.out b2 JpP rfl k J) Qb;have hx:=V.at k;have hy:=Y.at k;have Wp:=lh (Iq (I.out k J));generalize a.getD k 0=x at *
   generalize b.getD k 0=y at *
   have QS:∀ z∈[x-y],i7 .i64 z:=by simp only [i5,n7,i7];omega
   have RI:=lh (fun (W:World)=>aU (k:=.i64) (w:=W) (t:=3) (l:=[x-y]) rfl Qj QS 1 rfl rfl);have TU:=lh (show ((S.take k).length+[x-y].length)*8<=140737488355328 by simp;omega);have Ra:=lh (show (S.take k ++ [x-y]).length=k+1 by rw [Pn,Po,HL.out];simp;omega);have Tn:=lh (fun (o:Obj)=>(show w.heap.size<=(wr.alloc o).heap.size by have:=L.size;simp;omega));obtain ⟨WL,RZ⟩:=hx;obtain ⟨Vo,XW⟩:=hy;clear QS
   go_wp2_with (first
    | (at_builtin;refine au rfl (.tmp 23) (.tmp 30) _ rfl EI (E.quiet (BS)) rfl (RI.out _) rfl TU (Tn.out _) (fun v1 w3 O Rc=>?_);obtain ⟨x1,SV,RZ,_⟩:=O.ints.open;subst RZ;rw [Ra.out] at O Rc |-;have SD:=lh O;have Sa:=lh Rc;clear O Rc)
    | fail)
   exact ⟨⟨k+1,Qa,Qh,lh (bC Wp SD),lh (Sa.from_ D (Tn.out _)),lh ((L.q (BS)).acc Sa D)⟩,Qf⟩
  ·obtain rfl:k=n:=Qa
   have Rt:¬ (k:Int)<(k:Int):=Qa;have HO:=lh E;rw [YN (by rw [HL.out];exact Pm _)] at HO;go_wp2_with fail;exact QF.out _ _ ⟨_,rfl,HO.out,L.out⟩
theorem Bo {a b:List Int} {k:Nat} (h:k<a.length) (F:b.length=a.length):dF (a.take (k+1)) (b.take (k+1))=dF (a.take k) (b.take k)+max (a.getD k 0-b.getD k 0) (b.getD k 0-a.getD k 0):=by
 have D:k<b.length:=Qa;have E:a.getD k 0=a[k]:=by rw [Pd,Pe h];rfl
 have e2:b.getD k 0=b[k]:=by rw [Pd,Pe D];rfl
 unfold dF;rw [UJ h,UJ D,List.zipWith_append Qm,List.sum_append,E,e2];simp
theorem uq {a b:List Int} (E:ar a) (F:ar b):∀ k,0<=dF (a.take k) (b.take k)/\dF (a.take k) (b.take k)<=255*k:=by
 intro k
 induction k generalizing a b with
 | zero=>simp [dF]
 | succ k ih =>
  cases a with
  | nil=>simp [dF];omega
  | cons x a =>
   cases b with
   | nil=>simp [dF];omega
   | cons y b =>
    have hx:=E x (VY ..);have I:=F y (VY ..);have:=ih (a:=a) (b:=b) (fun z D=>E z (Pv _ D)) (fun z D=>F z (Pv _ D));simp only [dF,List.take_succ_cons,C0,List.sum_cons] at this |-
    omega
theorem Fs {lo hi lo' hi':Nat} {u v:Value} {a b:List Int} {w:World} (ha:aj .i64 lo hi w u a) (hb:aj .i64 lo' hi' w v b) (L:b.length=a.length) (hm:a.length<=64) (M:ar a) (N:ar b) :
  Calls prog 134 #[u,v] w fun e w'=>e=.returned (.tuple #[.int .i64 (dF a b),.nilIface])/\ae [] w w':=by
 refine aK fun Q QF=>?_
 have E:=lh (yQ ha hb L Qa M N);have D:=lh (fun (k:Nat) (h:k<a.length)=>Bo h L);have YJ:=lh (uq M N);have O:=lh M;have V:=lh N;obtain ⟨p,pc,rfl,-,-,RO,QR⟩:=ha.open;obtain ⟨q,qc,rfl,-,-,Xw,Wy⟩:=hb.open;obtain ⟨n,hn⟩:∃ n,n=a.length:=⟨_,rfl⟩
 rw [L,<- hn] at Xw Wy E |-
 rw [<- hn] at RO QR D hm;have Sm:Hid (dF (a.take n) (b.take n)=dF a b):=lh (by rw [YN Qa,YN Qa]);have TT:=lh RO;have Rm:=lh QR;have Z:=lh Xw;have Y:=lh Wy;have H0:Hid (dF (a.take 0) (b.take 0)=0):=lh (by simp [dF]);clear ha hb L M N RO QR Xw Wy hn;rw [<- Sm.out] at QF;clear Sm;generalize hT:(fun k=>dF (a.take k) (b.take k))=T at *
 have I:∀ k,dF (a.take k) (b.take k)=T k:=fun k=>by rw [<- hT]
 simp only [I] at QF D YJ H0;clear hT I;go_enter func134,ntmps134;go_wp2_with fail;refine E.mono ?_;rintro e w1 ⟨rfl,hq⟩;have QO:=lh hq;clear hq;go_wp2_with fail;go_loopw [7,18] (fun y i wr=>∃ k:Nat,k<=n/\i=.int .i64 k/\y=.int .i64 (T k)/\Hid (ae [] w wr)) (fun _ i _=>n-(intOf i).toNat)
 case atStart=>exact ⟨0,Qa,rfl,by rw [H0.out],QO⟩
 case round =>
  obtain ⟨k,hk,rfl,rfl,J⟩:=hrel;by_cases F:k<n
  ·have Rt:(k:Int)<(n:Int):=Qa
   have RA:(0:Int)<=(k:Int):=Qa;obtain ⟨b1,JpO,rfl,_,_⟩:=TT.out k F;obtain ⟨b2,JpP,rfl,_,_⟩:=Z.out k F;have ca:=J.cell (Rm.out b1 JpO rfl k F) Qb;have cb:=J.cell (Y.out b2 JpP rfl k F) Qb;have hx:=O.at k;have hy:=V.at k;have ht:=YJ.out k;have HT:=lh (D.out k F);generalize a.getD k 0=x at *
   generalize b.getD k 0=y at *
   generalize hc:T k=c at *
   obtain ⟨WL,RZ⟩:=hx;obtain ⟨Vo,XW⟩:=hy;obtain ⟨ht0,ht1⟩:=ht;have ht2:c<=100000:=Qa;clear hc ht1;go_wp2_with fail
   go_quiet (fail)
   go_wp2_with fail;exact ⟨⟨k+1,Qa,Qh,by rw [HT.out];congr 1;omega,lh (J.drewN _)⟩,Qf⟩
  ·obtain rfl:k=n:=Qa
   have Rt:¬ (k:Int)<(k:Int):=Qa;go_wp2_with fail;exact QF.out _ _ ⟨rfl,J.out⟩
end
section
theorem qT {n:Nat} (D:n<=15):1<=bg n/\bg n<=384:=by
 rcases uF D with rfl | rfl | rfl | rfl | rfl | rfl | rfl | rfl | rfl | rfl | rfl | rfl | rfl | rfl | rfl | rfl <;> decide
theorem qJ {a s:Int} (h0:0<=a) (h1:a<=20000000) (D:1<=s):0<=a / s/\a / s<=20000000 :=
 ⟨Int.ediv_nonneg h0 Qa,Int.le_trans (Int.ediv_le_self _ h0) h1⟩
theorem GR (c:Int) (n:Nat) (V:n<=15) (hc:-16777216<=c/\c<=16777216) (w:World) :
  Calls prog 188 #[c,n] w fun e w'=>e=.returned (.tuple #[.int .i64 (gw n c),.nilIface])/\ae [] w w':=by
 refine aK fun Q O=>?_
 have hs:=qT V;have N:=lh (qA n V);have F:Hid (gw n c=if c<0 then -((bg n / 2-c) / bg n) else (c+bg n / 2) / bg n):=lh rfl;generalize bg n=s at *
 generalize gw n c=R at *
 obtain ⟨Z,s1⟩:=hs;obtain ⟨c0,c1⟩:=hc;have e1:s.tdiv 2=s / 2:=TY Qa;have n1:¬ c < -16777216:=Qa;have n2:¬ (16777216:Int)<c:=Qa;have n3:¬ s=0:=Qa;go_enter func188,ntmps188;go_wp2_with fail;refine (N.out _).mono ?_;rintro e w1 ⟨rfl,Y⟩;have M:=lh Y;clear Y N;obtain ⟨D,E⟩:=bu (s / 2)
 rw [<- E] at e1 F;have b2:0<=D/\D<=192:=Qa;have HH:=lh E;clear E;obtain ⟨b0,b1⟩:=b2;by_cases I:c<0
 ·rw [if_pos I] at F
  have e2:(D-c).tdiv s=(D-c) / s:=TY Qa;have J:=qJ (a:=D-c) (s:=s) Qa Qa Z;have L:=lh J;have a1:IntKind.i64.wrap (D-c)=D-c:=Qe;have a0:IntKind.i64.wrap D=D:=Qe;generalize (D-c) / s=q at *
  have a2:IntKind.i64.wrap q=q:=by rw [Pk];have:=L.out;omega
  have a3:IntKind.i64.wrap (-q)=-q:=by rw [Pk];have:=L.out;omega
  clear J;go_wp2_with fail;refine O.out _ _ ⟨?_,M.out⟩;rw [F.out]
  first | rfl | simp
 ·rw [if_neg I] at F
  have e2:(c+D).tdiv s=(c+D) / s:=TY Qa;have J:=qJ (a:=c+D) (s:=s) Qa Qa Z;have L:=lh J;have a1:IntKind.i64.wrap (c+D)=c+D:=Qe;have a0:IntKind.i64.wrap D=D:=Qe;generalize (c+D) / s=q at *
  have a2:IntKind.i64.wrap q=q:=by rw [Pk];have:=L.out;omega
  clear J;go_wp2_with fail;refine O.out _ _ ⟨?_,M.out⟩;rw [F.out]
  first | rfl | simp
theorem EE {c:Int} {n:Nat} (E:n<=15) (F:-16777216<=c/\c<=16777216):i7 .i64 (gw n c):=by
 have D:=qT E;unfold gw;generalize bg n=s at *
 simp only [i7]
 split
 ·have:=qJ (a:=s / 2-c) (s:=s) Qa Qa D.1;omega
 ·have:=qJ (a:=c+s / 2) (s:=s) Qa Qa D.1;omega
theorem Do {lo hi:Nat} {v:Value} {l:List Int} {w:World} (h:aj .i64 lo hi w v l) (hl:l.length<=64) (Re:∀ x∈l,-16777216<=x/\x<=16777216) (n:Nat) (Y:n<=15) :
  Calls prog 129 #[v,n] w fun e w'=>∃ v',e=.returned (.tuple #[v',.nilIface])/\f9 .i64 3 w.heap.size w' v' (l.map (gw n))/\ae [] w w':=by
 refine aK fun Q QF=>?_
 obtain ⟨la,Rl,rfl,-,-,RO,Z⟩:=h.open;have TT:=lh RO;have Rm:=lh Z;clear h RO Z;have YL:=lh Re;have Tg:=lh (fun (c:Int) (V:-16777216<=c/\c<=16777216)=>EE Y V);go_enter func129,ntmps129;go_wp2_with fail;refine (qA n Y _).mono ?_;rintro e w1 ⟨rfl,hq⟩;have QO:=lh hq;clear hq;have HV:=lh (fun (x:Int) (hx:-16777216<=x/\x<=16777216) (W:World)=>GR x n Y hx W);generalize hL:gw n=L at *
 clear hL;generalize bg n=st at *
 go_wp2_with fail;go_loopw [8,23] (fun y i wr=>∃ k:Nat,k<=l.length/\i=.int .i64 k/\Hid (f9 .i64 3 w.heap.size wr y ((l.take k).map L))/\Hid (bj w.heap.size y)/\Hid (ae [] w wr)) (fun _ i _=>l.length-(intOf i).toNat)
 case atStart=>exact ⟨0,Qa,rfl,lh (f9.nil _ _ _ _),lh (bj.nil _),QO⟩
 case round =>
  obtain ⟨k,hk,rfl,D,E,M⟩:=hrel;by_cases F:k<l.length
  ·have Rt:(k:Int)<(l.length:Int):=Qa
   have RA:(0:Int)<=(k:Int):=Qa;obtain ⟨b,off,rfl,_,_⟩:=TT.out k F;have V:=M.cell (Rm.out b off rfl k F) Qb;have hx:=YL.out (l.getD k 0) (by rw [Pd,Pe F];exact PG _);have Wp:Hid ((l.take (k+1)).map L=(l.take k).map L ++ [L (l.getD k 0)]):=lh (by
    rw [UJ F,PN,Pd,Pe F];rfl)
   generalize l.getD k 0=x at *
   have N:=lh (HV.out x hx);have QS:∀ y∈[L x],i7 .i64 y:=by simp only [i5,n7];exact Tg.out x hx
   generalize L x=lx at *
   have RI:=lh (fun (W:World)=>aU (k:=.i64) (w:=W) (t:=3) (l:=[lx]) rfl Qj QS 1 rfl rfl);have TU:=lh (show (((l.take k).map L).length+[lx].length)*8<=140737488355328 by simp;omega);have Ra:=lh (show (((l.take k).map L) ++ [lx]).length=k+1 by simp;omega);clear QS;go_wp2_with fail;refine (N.out _).mono ?_;rintro e w2 ⟨rfl,J⟩;have QT:=lh J;have WI:=lh (D.quiet J);have Tn:=lh (fun (o:Obj)=>(show w.heap.size<=(w2.alloc o).heap.size by have:=M.size;have:=J.size;simp;omega));clear J V
   go_wp2_with (first
    | (at_builtin;refine au rfl (.tmp 36) (.tmp 38) _ rfl EI (WI.quiet (BS)) rfl (RI.out _) rfl TU (Tn.out _) (fun v1 w3 I O=>?_);obtain ⟨x1,SV,RZ,_⟩:=I.ints.open;subst RZ;rw [Ra.out] at I O |-;have SD:=lh I;have Sa:=lh O;clear I O)
    | fail)
   exact ⟨⟨k+1,Qa,Qh,lh (bC Wp SD),lh (Sa.from_ E (Tn.out _)),lh (((M.q QT).q (BS)).acc Sa E)⟩,Qf⟩
  ·obtain rfl:k=l.length:=Qa
   have Rt:¬ (l.length:Int)<(l.length:Int):=Qa;rw [List.take_length] at D;go_wp2_with fail;exact QF.out _ _ ⟨_,rfl,D.out,M.out⟩
theorem zG {lo hi:Nat} {v:Value} {l:List Int} {w:World} (h:aj .i64 lo hi w v l) (F:l.length=16\/l.length=64) (E:∀ x∈l,-255<=x/\x<=255) :
  Calls prog 128 #[v] w fun e w'=>∃ v',e=.returned (.tuple #[v',.nilIface])/\f9 .i64 3 w.heap.size w' v' (bN l)/\ae [] w w':=by
 have M:=lh (qC h F (most:=65536) Qa (fun x hx=>by have:=E x hx;omega));have O:=lh (fun (wx:World) (o:ae [] w wx)=>BJ (h.quiet o) F (fun k hk=>by
  have:=E (l.getD k 0) (by rw [Pd,Pe hk];exact PG _);omega))
 obtain ⟨b,off,cap,rfl,_,_,_⟩:=h.at (i:=0) Qa;clear h E F;generalize bN l=T at *
 go_enter func128,ntmps128;go_wp2_with fail;refine M.mono ?_;rintro e w1 ⟨rfl,I⟩;have D:=lh I;clear I;go_wp2_with fail;refine (O.out w1 D).mono ?_;rintro e w2 ⟨v2,rfl,J,Z,L⟩;have N:=lh J;have Y:=lh (D.q L);have V:=lh D.size;clear J L Z;go_wp2_with fail;go_ret2;exact ⟨v2,rfl,N.lower V.out,Y.out⟩
theorem mZ {n:Nat} (D:n=4\/n=8) {l:List Int} (E:l.length=n*n) (h:∀ x∈l,-255<=x/\x<=255):∀ x∈bN l,-16777216<=x/\x<=16777216:=by
 intro x hx;have:=qV D E Qa h x hx;rcases D with rfl | rfl <;> simp at this <;> omega
theorem oq {n:Nat} (O:n=4\/n=8) {lo hi lo' hi':Nat} {u v:Value} {b p:List Int} {w:World} (N:aj .i64 lo hi w u b) (V:aj .i64 lo' hi' w v p) (D:b.length=n*n) (E:p.length=n*n) (F:ar b) (I:ar p) (q:Nat) (hq:q<=15) :
  Calls prog 70 #[u,v,q] w fun e w'=>∃ v',e=.returned v'/\f9 .i64 3 w.heap.size w' v' (bB b p q)/\ae [] w w':=by
 refine aK fun Q QF=>?_
 have Zq:n*n=16\/n*n=64:=by rcases O with rfl | rfl <;> simp
 have Y:=lh (Nc N V Qa Qa F I);have Ym:=fR D E;have HF:=lh (fun (lo hi:Nat) (v:Value) (wx:World) (hx:aj .i64 lo hi wx v (dX b p))=>zG hx Qa (qB F I));have HL:=lh (fun (lo hi:Nat) (v:Value) (wx:World) (hx:aj .i64 lo hi wx v (bN (dX b p)))=>Do hx (by rw [fz];omega) (mZ O Ym (qB F I)) q hq);have HE:Hid (bB b p q=(bN (dX b p)).map (gw q)):=lh rfl;have H1:Hid (0<(dX b p).length):=lh Qa;have H2:Hid (0<(bN (dX b p)).length):=lh (by rw [fz];omega);obtain ⟨m,hm⟩:∃ m,m=n*n:=⟨_,rfl⟩
 rw [<- hm] at D E;obtain ⟨x,xc,rfl,-⟩:=N.open;obtain ⟨y,yc,rfl,-⟩:=V.open;rw [D,E] at Y;rw [D,E];generalize (bN (dX b p)).map (gw q)=L at *
 generalize bN (dX b p)=T at *
 generalize dX b p=S at *
 clear N V D E F I Ym O hm Zq;go_enter func70,ntmps70;go_wp2_with fail;refine Y.mono ?_;rintro e w1 ⟨v1,rfl,J,Z⟩;obtain ⟨g1,gc1,rfl,-,-⟩:=J.form H1;have SD:=lh J;have QO:=lh Z;clear J Z;go_wp2_with fail;refine (HF.out _ _ _ w1 SD.ints).mono ?_;rintro e w2 ⟨v2,rfl,M,QN⟩;obtain ⟨g2,gc2,rfl,-,-⟩:=M.form H2;have WI:=lh M;have QT:=lh (QO.q QN);clear M QN;go_wp2_with fail;refine (HL.out _ _ _ w2 WI.ints).mono ?_;rintro e w3 ⟨v3,rfl,TQ,QQ⟩;have Ui:=lh TQ;have QW:=lh QQ;clear TQ QQ;go_wp2_with fail;refine QF.out _ _ ⟨v3,rfl,?_,QT.q QW.out⟩;rw [HE.out];exact Ui.lower QT.size
end
end Go.Proofs.YthcafdfdglfabaaGreatDoor
