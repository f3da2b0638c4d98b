/- Joined texts: DREd, DRPd, DRPp, DRPt, DRkS. Conditions: each part names its own. -/
import Derived.Test.YthcafdfdglfabaaGreatDoorA2
set_option maxRecDepth 100000
set_option maxHeartbeats 16000000
namespace Go.Proofs.YthcafdfdglfabaaGreatDoor
open Tryz
open Go.RowKit
set_option linter.unusedVariables false
set_option linter.unusedSimpArgs false
section
theorem DA {p:Prop} (h:p:=by
 go_enter func156,ntmps156;go_wp2_with fail;go_ret;exact ⟨ee HR.symm,HQ.out⟩):p:=h
theorem Af {lo hi:Nat} {pv:Value} {w:World} {f:ah} (D:FrOk f) (h:aj .i64 lo hi w pv f.pix) (x y:Int) (hx:x<f.W) (hy:y<f.H) :
  Calls prog 156 #[.agg #[f.W,f.H,pv],x,y] w fun e w'=>e=.returned (.int .i64 (aB f x y))/\ae [] w w':=by
 obtain ⟨a,cap,rfl,-⟩:=h.open;have E:=ae.new w (sT f a cap);have HQ:=lh E;by_cases N:x<0
 ·have HR:Hid (aB f x y=128):=lh (by unfold aB;rw [if_pos (.inl N)])
  clear h D E;exact DA
 by_cases L:y<0
 ·have HR:Hid (aB f x y=128):=lh (by unfold aB;rw [if_pos (.inr L)])
  clear h D E;exact DA
 have h1:y*f.W<=(f.H-1)*f.W:=B2 Qa (j0 D.w0);have I:0<=y*f.W:=Int.mul_nonneg Qa (j0 D.w0);have J:=D.len;rw [Int.sub_mul,Int.one_mul,Int.mul_comm f.H f.W] at h1;have O:f.W*f.H<=32*32:=A3 D.w1 D.h1 (j0 D.h0) Qa;have HR:Hid (aB f x y=f.pix.getD (y*f.W+x).toNat 0):=lh (by unfold aB;rw [if_neg Qa]);obtain ⟨b,off,Z,Y,-,-,V⟩:=(h.quiet E).at (i:=(y*f.W+x).toNat) Qa;injection Y with e1 e2 e3
 subst e1;subst e3;generalize f.pix.getD (y*f.W+x).toNat 0=v at *
 obtain ⟨M,F⟩:∃ M,M=y*f.W:=⟨_,rfl⟩
 rw [<- F] at h1 I V;have n1:IntKind.i64.wrap (y*f.W)=M:=by rw [<- F,Pk];omega
 have n2:IntKind.i64.wrap (M+x)=M+x:=Qe;have t0:0<=M+x:=Qa;have t1:M+x<(f.pix.length:Int):=Qa;clear h D E e2 F h1 I O J;exact DA
theorem KA {p:Prop} (h:p:=by
 have RA:(0:Int)<=(k:Int):=Qa;have HC1:=lh (HB.out wr (QO.q (QW.q QP)) (x+(k:Int)) (y-1) Qa Qa);have Uz:=lh (fun wt (o:ae [] w3 wt)=>HB.out wt (QO.q (QW.q o)) (x-1) (y+(k:Int)) Qa Qa);have hi1:=YJ.out (x+(k:Int)) (y-1);have Uq:=YJ.out (x-1) (y+(k:Int));have Hm1:=lh (wV f x y k);have Hm2:=lh (vN f x y k);generalize aB f (x+(k:Int)) (y-1)=p1 at *
 generalize aB f (x-1) (y+(k:Int))=p2 at *
 have TW:∀ z∈[p1],i7 .i64 z:=by simp only [i5,n7,i7];omega
 have RM:∀ z∈[p2],i7 .i64 z:=by simp only [i5,n7,i7];omega
 have Ru:=lh (fun (W:World)=>aU (k:=.i64) (w:=W) (t:=3) (l:=[p1]) rfl Qj TW 1 rfl rfl);have Rz:=lh (fun (W:World)=>aU (k:=.i64) (w:=W) (t:=3) (l:=[p2]) rfl Qj RM 1 rfl rfl);have JoM:=lh (show ((oZ f x y k).length+[p1].length)*8<=140737488355328 by rw [VE];simp;omega);have JoN:=lh (show ((oH f x y k).length+[p2].length)*8<=140737488355328 by rw [VF];simp;omega);have Hl1:Hid ((oZ f x y k ++ [p1]).length=k+1):=lh (by rw [Pn,VE];rfl);have Hl2:Hid ((oH f x y k ++ [p2]).length=k+1):=lh (by rw [Pn,VF];rfl);have nb1:IntKind.i64.wrap (x+(k:Int))=x+(k:Int):=Qe;have nb2:IntKind.i64.wrap (y+(k:Int))=y+(k:Int):=Qe;clear VE VF hi1 Uq TW RM;go_wp2_with fail;refine HC1.mono ?_;rintro e ws ⟨rfl,Yl⟩;have JgR:=lh (HOt.quiet Yl);have Jfd:=lh (WP.quiet Yl);have HQs:=lh (QP.q Yl);have JhH:=lh (fun (o:Obj)=>(show w3.heap.size<=(ws.alloc o).heap.size by have:=(QP.q Yl).size;simp;omega));clear Yl r0 r1 r2
 go_wp2_with (first
   | (at_builtin;refine au rfl (.tmp 38) (.tmp 46) _ rfl EI (JgR.quiet (BS)) rfl (Ru.out _) rfl JoM (JhH.out _) (fun v1 w4 QG Rc=>?_);obtain ⟨x1,SV,RZ,_⟩:=QG.ints.open;subst RZ;rw [Hl1.out] at QG Rc |-;have SD:=lh QG;have Sa:=lh Rc;have Jvh:=(QW.q ((HQs.q (ae.new ws (.cells #[p1] 3))).acc Rc HFt)).row Rg;obtain ⟨r0,r1,r2⟩:=ag Jvh;clear QG Rc Jvh)
   | fail)
 have hn4:=ae.new ws (.cells #[p1] 3);have QY:=(HQs.q hn4).acc Sa HFt;have Rh:=lh QY;have Jnr:=lh ((Jfd.quiet hn4).accD Sa HSp);have Jhc:=lh (Sa.sepD HSp (fun g hg=>((Jfd.quiet hn4).at g hg).2));have Jnc:=lh (Sa.from_ HFt (JhH.out _));clear QY hn4;refine (Uz.out _ Rh).mono ?_;rintro e wt ⟨rfl,hqt⟩;have JrW:=lh (SD.quiet hqt);have JyC:=lh (Jnr.quiet hqt);have HQt:=lh (Rh.q hqt);have JhI:=lh (fun (o:Obj)=>(show w3.heap.size<=(wt.alloc o).heap.size by have:=(Rh.q hqt).size;simp;omega));clear hqt r0 r1 r2
 go_wp2_with (first
   | (at_builtin;refine au rfl (.tmp 48) (.tmp 56) _ rfl EI (JyC.quiet (BS)) rfl (Rz.out _) rfl JoN (JhI.out _) (fun v1 w5 QG Rc=>?_);obtain ⟨x1,SV,RZ,_⟩:=QG.ints.open;subst RZ;rw [Hl2.out] at QG Rc |-;have WI:=lh QG;have HA2:=lh Rc;clear QG Rc)
   | fail)
 refine ⟨⟨k+1,Qa,Qh,lh ?_,Jnc,lh ?_,lh (HA2.from_ Vp (JhI.out _)),lh ?_,lh ((HQt.q (BS)).acc HA2 Vp)⟩,Qf⟩
 ·rw [Hm1.out];exact (JrW.quiet (BS)).accD HA2 Jhc.symm
 ·rw [Hm2.out];exact WI
 ·exact (HA2.sepD Jhc.symm (fun g hg=>((JrW.quiet (BS)).at g hg).2)).symm):p:=h
theorem oL {lo hi:Nat} {pv:Value} {w:World} {f:ah} (D:FrOk f) (h:aj .i64 lo hi w pv f.pix) (x y:Int) (n:Nat) (hn:n=4\/n=8) (hx:0<=x) (Ry:x+n<=f.W) (hy:0<=y) (RJ:y+n<=f.H):Calls prog 97 #[.agg #[f.W,f.H,pv],x,y,n] w fun e w'=>(∃ v1 v2,e=.returned (.tuple #[v1,v2,.int .i64 (aB f (x-1) (y-1))])/\f9 .i64 3 w.heap.size w' v1 (dA f x y n)/\f9 .i64 3 w.heap.size w' v2 (cd f x y n)/\ae [] w w'):=by
 refine aK fun Q QF=>?_
 obtain ⟨a,cap,rfl,-⟩:=h.open;have HT:Hid (dA f x y n=oZ f x y n):=lh rfl;have HL:Hid (cd f x y n=oH f x y n):=lh rfl;have YJ:=lh (fun hx hy=>eZ D.sam hx hy);have N:=ae.new w (sT f a cap);have Rg:Hid ((w.alloc (sT f a cap)).heap[w.heap.size]?=some (.cells (sT f a cap) 24)):=Sd w _;have QO:=lh N;have hM:=gZ f.W f.H (h.quiet N);rw [show cT ⟨f.W,f.H,f.pix⟩=true from dp.2 D] at hM;have HM:=lh hM;have M:=lh (fun (W:World)=>nD f.W f.H x y n (.slice a f.pix.length cap) W ⟨D.w0,D.w1⟩ ⟨D.h0,D.h1⟩ Qa);rw [show io f.W f.H x y n=true from by unfold io;rw [decide_eq_true_iff];omega] at M;have HB:=lh (fun (W:World) (o:ae [] w W) (px py:Int) (h1:px<f.W) (h2:py<f.H)=>Af D (h.quiet o) px py h1 h2);have TF:Hid ((w.alloc (sT f a cap)).heap.size=w.heap.size+1):=lh Qb;have hW:=D.w1;have hH:=D.h1;clear h N hM D;rcases hn with rfl | rfl
 ·rw [show (((4:Nat)):Int)=4 from rfl] at *
  go_enter func97,ntmps97;go_wp2_with fail;generalize V:World.alloc w _=W1 at *
  clear V;refine HM.mono ?_;rintro e w2 ⟨rfl,E⟩;obtain ⟨r0,r1,r2⟩:=ag (E.row Rg);have I:=lh E;clear E;go_wp2_with fail;refine (M.out w2).mono ?_;rintro e w3 ⟨rfl,F⟩;have QW:=lh (I.q F);have J:=lh (show w.heap.size+1<=w3.heap.size by have:=(I.q F).size;have:=TF.out;omega);clear F r0 r1 r2 I;go_wp2_with fail;go_loopw [13,11,12] (fun i t l wr=>∃ (k:Nat),k<=4/\i=.int .i64 k/\Hid (f9 .i64 3 w3.heap.size wr t (oZ f x y k))/\Hid (bj w3.heap.size t)/\Hid (f9 .i64 3 w3.heap.size wr l (oH f x y k))/\Hid (bj w3.heap.size l)/\Hid (od t l)/\Hid (ae [] w3 wr)) (fun i _ _ _=>4-(intOf i).toNat)
  case atStart=>exact ⟨0,Qa,rfl,lh (f9.nil _ _ _ _),lh (bj.nil _),lh (f9.nil _ _ _ _),lh (bj.nil _),lh (od.nil _),lh (AY)⟩
  case round =>
   obtain ⟨k,hk,rfl,HOt,HFt,WP,Vp,HSp,QP⟩:=hrel;have VE:=qj f x y k;have VF:=pw f x y k;obtain ⟨ta,XF,rfl,-⟩:=HOt.ints.open;obtain ⟨la,O,rfl,-⟩:=WP.ints.open;rw [VE] at HOt HFt HSp |-
   rw [VF] at WP Vp HSp |-
   have Z:=lh ((QW.q QP).row Rg);obtain ⟨r0,r1,r2⟩:=ag Z;by_cases QH:k<4
   ·have Y:(k:Int)<4:=Qa
    exact KA
   ·obtain rfl:k=4:=Qa
    have Y:¬ ((4:Nat):Int)<4:=Qa;have L:=lh (HB.out wr (QO.q (QW.q QP)) (x-1) (y-1) Qa Qa);clear VE VF;generalize aB f (x-1) (y-1)=p0 at *
    go_wp2_with fail;refine L.mono ?_;rintro e ws ⟨rfl,Yl⟩;have JgR:=lh (HOt.quiet Yl);have Jfd:=lh (WP.quiet Yl);have HQs:=lh (QP.q Yl);clear Yl r0 r1 r2;go_wp2_with fail;refine TV (v:=.tuple #[.slice ta 4 XF,.slice la 4 O,p0]) (by simp [results,results97,go_sem]) rfl (QF.out _ _ ⟨_,_,rfl,?_,?_,(QO.q QW).q HQs.out⟩)
    ·rw [HT.out];exact JgR.lower (j0 J.out)
    ·rw [HL.out];exact Jfd.lower (j0 J.out)
 ·rw [show (((8:Nat)):Int)=8 from rfl] at *
  go_enter func97,ntmps97;go_wp2_with fail;generalize V:World.alloc w _=W1 at *
  clear V;refine HM.mono ?_;rintro e w2 ⟨rfl,E⟩;obtain ⟨r0,r1,r2⟩:=ag (E.row Rg);have I:=lh E;clear E;go_wp2_with fail;refine (M.out w2).mono ?_;rintro e w3 ⟨rfl,F⟩;have QW:=lh (I.q F);have J:=lh (show w.heap.size+1<=w3.heap.size by have:=(I.q F).size;have:=TF.out;omega);clear F r0 r1 r2 I;go_wp2_with fail;go_loopw [13,11,12] (fun i t l wr=>∃ (k:Nat),k<=8/\i=.int .i64 k/\Hid (f9 .i64 3 w3.heap.size wr t (oZ f x y k))/\Hid (bj w3.heap.size t)/\Hid (f9 .i64 3 w3.heap.size wr l (oH f x y k))/\Hid (bj w3.heap.size l)/\Hid (od t l)/\Hid (ae [] w3 wr)) (fun i _ _ _=>8-(intOf i).toNat)
  case atStart=>exact ⟨0,Qa,rfl,lh (f9.nil _ _ _ _),lh (bj.nil _),lh (f9.nil _ _ _ _),lh (bj.nil _),lh (od.nil _),lh (AY)⟩
  case round =>
   obtain ⟨k,hk,rfl,HOt,HFt,WP,Vp,HSp,QP⟩:=hrel;have VE:=qj f x y k;have VF:=pw f x y k;obtain ⟨ta,XF,rfl,-⟩:=HOt.ints.open;obtain ⟨la,O,rfl,-⟩:=WP.ints.open;rw [VE] at HOt HFt HSp |-
   rw [VF] at WP Vp HSp |-
   have Z:=lh ((QW.q QP).row Rg);obtain ⟨r0,r1,r2⟩:=ag Z;by_cases QH:k<8
   ·have Y:(k:Int)<8:=Qa
    exact KA
   ·obtain rfl:k=8:=Qa
    have Y:¬ ((8:Nat):Int)<8:=Qa;have L:=lh (HB.out wr (QO.q (QW.q QP)) (x-1) (y-1) Qa Qa);clear VE VF;generalize aB f (x-1) (y-1)=p0 at *
    go_wp2_with fail;refine L.mono ?_;rintro e ws ⟨rfl,Yl⟩;have JgR:=lh (HOt.quiet Yl);have Jfd:=lh (WP.quiet Yl);have HQs:=lh (QP.q Yl);clear Yl r0 r1 r2;go_wp2_with fail;refine TV (v:=.tuple #[.slice ta 8 XF,.slice la 8 O,p0]) (by simp [results,results97,go_sem]) rfl (QF.out _ _ ⟨_,_,rfl,?_,?_,(QO.q QW).q HQs.out⟩)
    ·rw [HT.out];exact JgR.lower (j0 J.out)
    ·rw [HL.out];exact Jfd.lower (j0 J.out)
end
theorem uh {mode corner:Int} {top left:List Int} {k:Nat} (D:k<top.length*top.length):(bi mode top left corner).take (k+1)=(bi mode top left corner).take k ++ [fN mode top left corner k]:=by
 rw [UJ (dn dl D)]
 congr 2
 simp [bi]
section
theorem yt {p:Prop} (h:p:=by
 go_wp2_with (first
   | (at_builtin;refine au rfl (.tmp 115) (.tmp 117) _ rfl EI (QX.quiet ((ae.refl [] wr).drew.q (BS))) rfl (RI.out _) rfl TU Tn (fun v1 w6 QG Rc=>?_);obtain ⟨x1,SV,RZ,_⟩:=QG.ints.open;subst RZ;rw [Ra.out] at QG Rc |-;have SD:=lh QG;have Sa:=lh Rc;clear QG Rc)
   | fail)
 refine ⟨⟨k+1,by have:=Sj.out;omega,Qh,lh (bC Hnx SD),lh (Sa.from_ SU Tn),lh ((Tz.drew.q (BS)).acc Sa SU)⟩,by simp [intOf];have:=Sj.out;omega⟩):p:=h
theorem KH {p:Prop} (h:p:=by
 have hVb:0<=V/\V<=255*4:=dT Hmb
 have eV:IntKind.i64.wrap V=V:=Qe;have hmm:=Hm.out;have hcc:=Hc.out;have Sj:=lh QH;clear e2 e4 Zq bM bD hV QH;generalize hpq:fN mode top left corner k=q at *
 have hqe:(mode=0->q=V)/\(mode=1->q=t)/\(mode=2->q=l)/\(mode=3->q=fj (l+t-corner)):=⟨fun h=>by subst h;rw [<- hpq,hp0,hVd];rfl,fun h=>by subst h;rw [<- hpq,hp1],fun h=>by subst h;rw [<- hpq,hp2],fun h=>by subst h;rw [<- hpq,hp3]⟩
 clear hp0 hp1 hp2 hp3 hpq hVd;have hqb:-100000<=q/\q<=100000:=by
  have hcd:=jE (l+t-corner);rcases (by omega:mode=0\/mode=1\/mode=2\/mode=3) with h | h | h | h
  ·have:=hqe.1 h;omega
  ·have:=hqe.2.1 h;omega
  ·have:=hqe.2.2.1 h;omega
  ·have:=hqe.2.2.2 h;omega
 have UF:∀ z∈[q],i7 .i64 z:=by simp only [i5,n7,i7];omega
 have RI:=lh (fun (W:World)=>aU (k:=.i64) (w:=W) (t:=3) (l:=[q]) rfl Qj UF 1 rfl rfl);have TU:=lh (show ((D.take k).length+[q].length)*8<=140737488355328 by rw [Up];simp;omega);have Ra:Hid ((D.take k ++ [q]).length=k+1):=lh (by rw [Pn,Up];rfl);have Hnx:=lh Vl;have Tn:=lh (show W1.heap.size<=(wr.drew.alloc (.cells #[q] 3)).heap.size from Pw Tz.drew.size (BS).size);have Hqe:=lh hqe;have a1:IntKind.i64.wrap (l+t)=l+t:=Qe;have a2:IntKind.i64.wrap (l+t-corner)=l+t-corner:=Qe;clear UF hqb Vl hqe Up hbt RP hVb hcc;go_wp2_with fail;refine Tf (S:=(fun w'=>w'.cell? ⟨bt,ot+M,none⟩=some (.int .i64 t)/\w'.cell? ⟨bl,ol+Dv,none⟩=some (.int .i64 l))) Qc ?_ (fun hHeld=>?_)
 ·exact ⟨ct,cl⟩
 refine tk 0 84 ?_;refine tk 1 85 ?_;refine tk 2 86 ?_;refine tk 3 87 ?_;refine tk 4 88 ?_;refine tk 5 89 ?_;refine tk 6 90 ?_;refine tk 7 91 ?_;refine tk 8 92 ?_;refine tk 9 93 ?_;refine tk 10 94 ?_;refine tk 11 95 ?_;refine tk 12 15 ?_;refine tk 13 16 ?_;refine Wn Qc ?_ _;rcases (by omega:mode=0\/mode=1\/mode=2\/mode=3) with rfl | rfl | rfl | rfl
 ·obtain rfl:=Hqe.1 rfl
  exact yt
 ·obtain rfl:=Hqe.2.1 rfl
  exact yt
 ·obtain rfl:=Hqe.2.2.1 rfl
  exact yt
 ·have QQ:=Hqe.2.2.2 rfl
  have Hq3:=lh QQ;clear QQ;go_wp2_with fail;refine (wh _ _).mono ?_;rintro e w' ⟨rfl,rfl⟩;rw [<- Hq3.out];exact yt):p:=h
theorem KI {p:Prop} (h:p:=by
 have RA:(0:Int)<=(k:Int):=Qa;obtain ⟨bt,ot,JmI,e1,-,-,ct⟩:=(HT.quiet QP).at (i:=k) (bC Hn QH);injection e1 with e1 e2 e3
 subst e1;subst e3;obtain ⟨bl,ol,Jax,e1,-,-,cl⟩:=(HL.quiet QP).at (i:=k) (bC TE QH);injection e1 with e1 e4 e3
 subst e1;subst e3;have hsn:ja top left (k+1)=ja top left k+(top.getD k 0+left.getD k 0):=rfl;have hb:=VT.out k;have hbt:=Hts.at k;have RP:=Hls.at k;have Zq:=Hn.out;generalize hg:ja top left (k+1)=m1 at *
 generalize ja top left k=m0 at *
 generalize top.getD k 0=t at *
 generalize left.getD k 0=l at *
 rw [Zq] at hb;have n1:IntKind.i64.wrap (m0+t)=m0+t:=Qe;have n2:IntKind.i64.wrap (m0+t+l)=m1:=by rw [hsn,Pk];omega
 have Hg:=lh hg;have Sj:=lh QH;clear e2 e4 hg hsn hb hbt RP Zq QH;go_wp2_with fail;refine Tf (S:=(fun w'=>w'.cell? ⟨bt,ot+k,none⟩=some (.int .i64 t)/\w'.cell? ⟨bl,ol+k,none⟩=some (.int .i64 l))) Qc ?_ (fun hHeld=>?_)
 ·exact ⟨ct,cl⟩
 refine tk 0 66 ?_;refine tk 1 67 ?_;refine tk 2 68 ?_;refine tk 3 69 ?_;refine tk 4 70 ?_;refine tk 5 71 ?_;refine tk 6 72 ?_;refine tk 7 73 ?_;refine tk 8 74 ?_;refine tk 9 75 ?_;refine tk 10 76 ?_;refine tk 11 11 ?_;refine Wn Qc ?_ _;go_wp2_with fail;exact ⟨⟨k+1,by have:=Sj.out;omega,Qh,by rw [Hg.out],lh QP.drew⟩,by simp [intOf];have:=Sj.out;omega⟩):p:=h
theorem KJ {p:Prop} (h:p:=by
 rw [YN (eC XI)] at QX;have hre:=Tz.row Rg;obtain ⟨z0,z1,y0,y1,-⟩:=aL hre;have Hre:=lh hre;clear hre Up;go_wp2_with fail;obtain ⟨QK,QV⟩:=aJ (x:=.int .i64 0) (y:=.slice none 0 0) Hre;refine TV (aA results99 _ _ w.heap.size _ _ _ _ _ rfl rfl QK underlying39 rfl (aG _ rfl)) rfl (QF.out _ _ ⟨⟨_,rfl,?_⟩,?_⟩)
 ·exact (QX.only QV (fun x hx hh=>by rw [i5] at hx;subst hx;have:=SU.out _ hh;have:=TF.out;omega)).lower QO.size
 ·exact (QO.q Tz).trans QV (U:=[]) Qb (fun x hx QH=>Qo)):p:=h
theorem ku {lo hi lo' hi':Nat} {tv lv:Value} {top left:List Int} {w:World} (ht:aj .i64 lo hi w tv top) (hl:aj .i64 lo' hi' w lv left) (I:top.length=4) (Ys:left.length=4) (N:ar top) (L:ar left) {corner:Int} (hc:0<=corner/\corner<=255) {mode:Int} (hm:0<=mode/\mode<=3):Calls prog 99 #[mode,tv,lv,corner] w fun e w'=>((∃ v',e=.returned (.tuple #[v',.agg #[(),d8]])/\f9 .i64 3 w.heap.size w' v' (bi mode top left corner))/\ae [] w w'):=by
 refine aK fun Q QF=>?_
 have J:=ae.new w (.cells #[(),d8] 39);have Rg:Hid ((w.alloc (.cells #[(),d8] 39)).heap[w.heap.size]?=some (.cells #[(),d8] 39)):=Sd w _;have TF:Hid ((w.alloc (.cells #[(),d8] 39)).heap.size=w.heap.size+1):=lh Qb;have HT:=lh (ht.quiet J);have HL:=lh (hl.quiet J);have Hts:=lh N;have Hls:=lh L;have Hn:=lh I;have TE:=lh Ys;have HWt:=lh (eJ.2 N);have Z:=lh (eJ.2 L);have Y:=lh (fun k (O:k<16)=>uh (mode:=mode) (corner:=corner) (left:=left) (show k<top.length*top.length by rw [I];exact O));have XI:Hid ((bi mode top left corner).length=16):=lh (by rw [dl,I]);have VT:=lh (fun k=>(nY N L k));have QO:=lh J;obtain ⟨ta,XF,rfl,-⟩:=ht.open;obtain ⟨la,Rl,rfl,-⟩:=hl.open;rw [I] at HT |-
 rw [Ys] at HL |-
 have TM:¬ corner<0:=Qa;have Sq:¬ (255:Int)<corner:=Qa;have hm0:¬ mode<0:=Qa;have hm1:¬ (3:Int)<mode:=Qa;have Hc:=lh hc;have Hm:=lh hm;clear ht hl N L hc hm I Ys J;generalize bi mode top left corner=D at *
 go_enter func99,ntmps99;go_wp2_with fail;generalize Rs:World.alloc w _=W1 at *
 clear Rs;refine (bQ 0 255 HT).mono ?_;rintro e w' ⟨rfl,rfl⟩;rw [HWt.out];go_wp2_with fail;refine (bQ 0 255 HL).mono ?_;rintro e w' ⟨rfl,rfl⟩;rw [Z.out];clear hm0 hm1;go_wp2_with fail;clear TM Sq;go_loopw [12,11] (fun i m wr=>∃ k:Nat,k<=4/\i=.int .i64 k/\m=.int .i64 (ja top left k)/\Hid (ae [] W1 wr)) (fun i _ _=>4-(intOf i).toNat)
 case atStart=>exact ⟨0,Qa,rfl,by show _=Value.int IntKind.i64 ((top.length:Nat):Int);rw [Hn.out];rfl,lh (AY)⟩
 case round =>
  obtain ⟨k,O,rfl,rfl,QP⟩:=hrel;by_cases QH:k<4
  ·have Rt:(k:Int)<4:=Qa
   exact KI
  ·obtain rfl:k=4:=Qa
   have Rt:¬ ((4:Nat):Int)<4:=Qa;have E:=VT.out 4;generalize F:ja top left 4=mean at *
   have Hme:=lh F;have Zq:=Hn.out;rw [Zq] at E;have Hmb:=lh E;clear E F Zq QH O;go_wp2_with fail;go_loopw [14,13,15,16,17] (fun i y _ _ _ wy=>∃ k:Nat,k<=16/\i=.int .i64 k/\Hid (f9 .i64 3 W1.heap.size wy y (D.take k))/\Hid (bj W1.heap.size y)/\Hid (ae [] W1 wy)) (fun i _ _ _ _ _=>16-(intOf i).toNat)
   case atStart=>exact ⟨0,Qa,rfl,lh (f9.nil _ _ _ _),lh (bj.nil _),QP⟩
   case round =>
    obtain ⟨k,O,rfl,QX,SU,Tz⟩:=hrel;have Up:(D.take k).length=k:=by rw [Po,XI.out];omega
    obtain ⟨ra,VK,rfl,-⟩:=QX.ints.open;rw [Up] at QX SU |-
    have hNN:IntKind.i64.wrap (4*4)=16:=Ql;by_cases QH:k<16
    ·have Xb:(k:Int)<16:=Qa
     have RA:(0:Int)<=(k:Int):=Qa;have eM:(k:Int).tmod 4=((k % 4:Nat):Int):=by rw [PR RA];rfl
     have eD:(k:Int).tdiv 4=((k / 4:Nat):Int):=by rw [TY RA];rfl
     have bM:k % 4<4:=Qa;have bD:k / 4<4:=Qa;have Vl:=Y.out k QH;have hp0:fN 0 top left corner k=ja top left top.length / (2*(top.length:Int)):=rfl;have hp1:fN 1 top left corner k=top.getD (k % top.length) 0:=rfl;have hp2:fN 2 top left corner k=left.getD (k / top.length) 0:=rfl;have hp3:fN 3 top left corner k=fj (left.getD (k / top.length) 0+top.getD (k % top.length) 0-corner):=rfl;have Zq:=Hn.out;rw [Zq] at hp0 hp1 hp2 hp3;rw [Hme.out] at hp0;generalize k % 4=M at *
     generalize k / 4=Dv at *
     obtain ⟨bt,ot,JmI,e1,-,-,ct⟩:=(HT.quiet Tz).at (i:=M) (dn Zq bM);injection e1 with e1 e2 e3
     subst e1;subst e3;obtain ⟨bl,ol,Jax,e1,-,-,cl⟩:=(HL.quiet Tz).at (i:=Dv) (bC TE bD);injection e1 with e1 e4 e3
     subst e1;subst e3;have hbt:=Hts.at M;have RP:=Hls.at Dv;generalize top.getD M 0=t at *
     generalize left.getD Dv 0=l at *
     have hM0:(0:Int)<=(M:Int):=Qa;have hM1:(M:Int)<4:=Qa;have hD0:(0:Int)<=(Dv:Int):=Qa;have hD1:(Dv:Int)<4:=Qa;have eDw:IntKind.i64.wrap (Dv:Int)=(Dv:Int):=Qe;have h2n:IntKind.i64.wrap (2*4)=8:=Ql;obtain ⟨V,hV⟩:∃ V,V=mean.tdiv 8:=⟨_,rfl⟩
     have hVe:mean.tdiv 8=V:=hV.symm;have hVd:V=mean / 8:=by rw [hV,TY (j0 Hmb.1)]
     exact KH
    ·obtain rfl:k=16:=Qa
     have Xb:¬ ((16:Nat):Int)<16:=Qa;exact KJ
theorem kw {lo hi lo' hi':Nat} {tv lv:Value} {top left:List Int} {w:World} (ht:aj .i64 lo hi w tv top) (hl:aj .i64 lo' hi' w lv left) (I:top.length=8) (Ys:left.length=8) (N:ar top) (L:ar left) {corner:Int} (hc:0<=corner/\corner<=255) {mode:Int} (hm:0<=mode/\mode<=3):Calls prog 99 #[mode,tv,lv,corner] w fun e w'=>((∃ v',e=.returned (.tuple #[v',.agg #[(),d8]])/\f9 .i64 3 w.heap.size w' v' (bi mode top left corner))/\ae [] w w'):=by
 refine aK fun Q QF=>?_
 have J:=ae.new w (.cells #[(),d8] 39);have Rg:Hid ((w.alloc (.cells #[(),d8] 39)).heap[w.heap.size]?=some (.cells #[(),d8] 39)):=Sd w _;have TF:Hid ((w.alloc (.cells #[(),d8] 39)).heap.size=w.heap.size+1):=lh Qb;have HT:=lh (ht.quiet J);have HL:=lh (hl.quiet J);have Hts:=lh N;have Hls:=lh L;have Hn:=lh I;have TE:=lh Ys;have HWt:=lh (eJ.2 N);have Z:=lh (eJ.2 L);have Y:=lh (fun k (O:k<64)=>uh (mode:=mode) (corner:=corner) (left:=left) (show k<top.length*top.length by rw [I];exact O));have XI:Hid ((bi mode top left corner).length=64):=lh (by rw [dl,I]);have VT:=lh (fun k=>(nY N L k));have QO:=lh J;obtain ⟨ta,XF,rfl,-⟩:=ht.open;obtain ⟨la,Rl,rfl,-⟩:=hl.open;rw [I] at HT |-
 rw [Ys] at HL |-
 have TM:¬ corner<0:=Qa;have Sq:¬ (255:Int)<corner:=Qa;have hm0:¬ mode<0:=Qa;have hm1:¬ (3:Int)<mode:=Qa;have Hc:=lh hc;have Hm:=lh hm;clear ht hl N L hc hm I Ys J;generalize bi mode top left corner=D at *
 go_enter func99,ntmps99;go_wp2_with fail;generalize Rs:World.alloc w _=W1 at *
 clear Rs;refine (bQ 0 255 HT).mono ?_;rintro e w' ⟨rfl,rfl⟩;rw [HWt.out];go_wp2_with fail;refine (bQ 0 255 HL).mono ?_;rintro e w' ⟨rfl,rfl⟩;rw [Z.out];clear hm0 hm1;go_wp2_with fail;clear TM Sq;go_loopw [12,11] (fun i m wr=>∃ k:Nat,k<=8/\i=.int .i64 k/\m=.int .i64 (ja top left k)/\Hid (ae [] W1 wr)) (fun i _ _=>8-(intOf i).toNat)
 case atStart=>exact ⟨0,Qa,rfl,by show _=Value.int IntKind.i64 ((top.length:Nat):Int);rw [Hn.out];rfl,lh (AY)⟩
 case round =>
  obtain ⟨k,O,rfl,rfl,QP⟩:=hrel;by_cases QH:k<8
  ·have Rt:(k:Int)<8:=Qa
   exact KI
  ·obtain rfl:k=8:=Qa
   have Rt:¬ ((8:Nat):Int)<8:=Qa;have E:=VT.out 8;generalize F:ja top left 8=mean at *
   have Hme:=lh F;have Zq:=Hn.out;rw [Zq] at E;have Hmb:=lh E;clear E F Zq QH O;go_wp2_with fail;go_loopw [14,13,15,16,17] (fun i y _ _ _ wy=>∃ k:Nat,k<=64/\i=.int .i64 k/\Hid (f9 .i64 3 W1.heap.size wy y (D.take k))/\Hid (bj W1.heap.size y)/\Hid (ae [] W1 wy)) (fun i _ _ _ _ _=>64-(intOf i).toNat)
   case atStart=>exact ⟨0,Qa,rfl,lh (f9.nil _ _ _ _),lh (bj.nil _),QP⟩
   case round =>
    obtain ⟨k,O,rfl,QX,SU,Tz⟩:=hrel;have Up:(D.take k).length=k:=by rw [Po,XI.out];omega
    obtain ⟨ra,VK,rfl,-⟩:=QX.ints.open;rw [Up] at QX SU |-
    have hNN:IntKind.i64.wrap (8*8)=64:=Ql;by_cases QH:k<64
    ·have Xb:(k:Int)<64:=Qa
     have RA:(0:Int)<=(k:Int):=Qa;have eM:(k:Int).tmod 8=((k % 8:Nat):Int):=by rw [PR RA];rfl
     have eD:(k:Int).tdiv 8=((k / 8:Nat):Int):=by rw [TY RA];rfl
     have bM:k % 8<8:=Qa;have bD:k / 8<8:=Qa;have Vl:=Y.out k QH;have hp0:fN 0 top left corner k=ja top left top.length / (2*(top.length:Int)):=rfl;have hp1:fN 1 top left corner k=top.getD (k % top.length) 0:=rfl;have hp2:fN 2 top left corner k=left.getD (k / top.length) 0:=rfl;have hp3:fN 3 top left corner k=fj (left.getD (k / top.length) 0+top.getD (k % top.length) 0-corner):=rfl;have Zq:=Hn.out;rw [Zq] at hp0 hp1 hp2 hp3;rw [Hme.out] at hp0;generalize k % 8=M at *
     generalize k / 8=Dv at *
     obtain ⟨bt,ot,JmI,e1,-,-,ct⟩:=(HT.quiet Tz).at (i:=M) (dn Zq bM);injection e1 with e1 e2 e3
     subst e1;subst e3;obtain ⟨bl,ol,Jax,e1,-,-,cl⟩:=(HL.quiet Tz).at (i:=Dv) (bC TE bD);injection e1 with e1 e4 e3
     subst e1;subst e3;have hbt:=Hts.at M;have RP:=Hls.at Dv;generalize top.getD M 0=t at *
     generalize left.getD Dv 0=l at *
     have hM0:(0:Int)<=(M:Int):=Qa;have hM1:(M:Int)<8:=Qa;have hD0:(0:Int)<=(Dv:Int):=Qa;have hD1:(Dv:Int)<8:=Qa;have eDw:IntKind.i64.wrap (Dv:Int)=(Dv:Int):=Qe;have h2n:IntKind.i64.wrap (2*8)=16:=Ql;obtain ⟨V,hV⟩:∃ V,V=mean.tdiv 16:=⟨_,rfl⟩
     have hVe:mean.tdiv 16=V:=hV.symm;have hVd:V=mean / 16:=by rw [hV,TY (j0 Hmb.1)]
     exact KH
    ·obtain rfl:k=64:=Qa
     have Xb:¬ ((64:Nat):Int)<64:=Qa;exact KJ
end
set_option linter.unusedVariables false
def ig (pix:List Int) (o:Nat) (row:List Int) (i:Nat):List Int:=pix.take o ++ row.take i ++ pix.drop (o+i)
theorem lG (pix:List Int) (o:Nat) (row:List Int):ig pix o row 0=pix:=by simp [ig]
theorem AD {pix row:List Int} {o n:Nat} (h:row.length=n):ig pix o row n=mq pix o row:=by
 unfold ig mq;rw [show row.take n=row from YN Qa,h]
theorem AE {pix row:List Int} {o i:Nat} (h:o+i<=pix.length) (g:i<=row.length):(ig pix o row i).length=pix.length:=by
 unfold ig;simp only [Pn,Po,Pp];omega
theorem yb {pix row:List Int} {o i:Nat} (h:o+i<pix.length) (g:i<row.length):(ig pix o row i).set (o+i) (row.getD i 0)=ig pix o row (i+1):=by
 unfold ig;have h1:(pix.take o ++ row.take i).length=o+i:=by simp only [Pn,Po];omega
 rw [List.set_append_right _ _ Qa,h1,Nat.sub_self,Py h,Pi,UJ g,Pd,Pe g];simp only [PM,List.cons_append,PL,Nat.add_assoc,Option.getD_some]
section
variable (W x y:Int) (n:Nat) (b pix:List Int)
def oM (j:Nat):List Int:=(List.range j).foldl (gz W x y n b) pix
theorem ro (j:Nat):oM W x y n b pix (j+1)=gz W x y n b (oM W x y n b pix j) j:=by
 unfold oM;rw [Zh,A4]
 rfl
def lD (j:Nat):Nat:=((y+j)*W+x).toNat
def Bn (j:Nat):List Int:=(b.drop (j*n)).take n
def pW (k:Nat):List Int:=ig (oM W x y n b pix (k / n)) (lD W x y (k / n)) (Bn n b (k / n)) (k % n)
end
section
variable {W x y:Int} {n:Nat} {b pix:List Int} {H:Int}
theorem qo (D:b.length=n*n) {j:Nat} (E:j<n):(Bn n b j).length=n:=by
 unfold Bn;rw [Po,Pp,D];have:j*n+n<=n*n:=by rw [<- Nat.succ_mul];exact B8 _ E
 omega
theorem MS (D:b.length=n*n) {j i:Nat} (E:j<n) (hi:i<n):(Bn n b j).getD i 0=b.getD (j*n+i) 0:=by
 have h1:=qo D E;unfold Bn;rw [Pd,PB,if_pos hi,PA,Pd]
theorem lz (D:b.length=n*n) (E:∀ j,j<n->lD W x y j+n<=pix.length):∀ j,j<=n->(oM W x y n b pix j).length=pix.length
 | 0,_=>rfl
 | j+1,hj=>by
  have F:=lz D E j Qa;rw [ro];show (mq _ (lD W x y j) (Bn n b j)).length=_;rw [kO (by rw [qo D Qa,F];exact E j Qa),F]
theorem wS (D:0<n):pW W x y n b pix 0=pix:=by
 unfold pW;rw [Nat.zero_div,Nat.zero_mod,lG]
 rfl
theorem AL (D:b.length=n*n) (E:∀ j,j<n->lD W x y j+n<=pix.length) {k:Nat} (I:k<n*n):(pW W x y n b pix k).length=pix.length:=by
 have J:0<n:=by cases n <;> omega
 have F:k / n<n:=Nat.div_lt_of_lt_mul I;have hi:=Nat.mod_lt k J;have h1:=E _ F;unfold pW;rw [AE (by rw [lz D E _ Qa];omega) (by rw [qo D F];omega),lz D E _ Qa]
theorem wR (E:b.length=n*n) (O:∀ j,j<n->lD W x y j+n<=pix.length) {k:Nat} (Y:k<n*n):(pW W x y n b pix k).set (lD W x y (k / n)+k % n) (b.getD k 0)=pW W x y n b pix (k+1):=by
 have L:0<n:=by cases n <;> omega
 have I:k / n<n:=Nat.div_lt_of_lt_mul Y;have hi:=Nat.mod_lt k L;have h1:=O _ I;have Z:=lz E O (k / n) Qa;have M:=qo E I;have V:k / n*n+k % n=k:=by rw [Nat.mul_comm];exact Nat.div_add_mod k n
 have hr:=MS E I hi;rw [V] at hr;have N:=yb (pix:=oM W x y n b pix (k / n)) (row:=Bn n b (k / n)) (o:=lD W x y (k / n)) (i:=k % n) Qa Qa;rw [hr] at N;have e:pW W x y n b pix k=ig (oM W x y n b pix (k / n)) (lD W x y (k / n)) (Bn n b (k / n)) (k % n):=rfl;rw [e,N];unfold pW;by_cases D:k % n+1=n
 ·have F:(k+1) / n=k / n+1:=by
   rw [show k+1=(k / n+1)*n by rw [Nat.add_mul,Nat.one_mul];omega,Nat.mul_div_cancel _ L]
  have J:(k+1) % n=0:=by
   rw [show k+1=(k / n+1)*n by rw [Nat.add_mul,Nat.one_mul];omega,Nat.mul_mod_left]
  rw [F,J,lG,D,AD M,ro]
  rfl
 ·have F:(k+1) / n=k / n:=by
   rw [show k+1=k % n+1+k / n*n by omega,Nat.add_mul_div_right _ _ L,Nat.div_eq_of_lt Qa,Nat.zero_add]
  have J:(k+1) % n=k % n+1:=by
   rw [show k+1=k % n+1+k / n*n by omega,Nat.add_mul_mod_self_right,Nat.mod_eq_of_lt Qa]
  rw [F,J]
theorem AK (I:b.length=n*n) (E:0<n) (f:ah) (D:f.W=W) (F:f.pix=pix):pW W x y n b pix (n*n)=(dP f x y n b).pix:=by
 subst D;subst F;unfold pW;rw [Nat.mul_div_cancel _ E,Nat.mul_mod_left,lG]
 rfl
end
set_option linter.unusedVariables false
set_option linter.unusedSimpArgs false
section
theorem ly {lo hi:Nat} {pv:Value} {w:World} {f:ah} (h:aj .i64 lo hi w pv f.pix) (hl:f.pix.length<=1000000000):Calls prog 8 #[.agg #[f.W,f.H,pv]] w fun e w'=>(∃ v',e=.returned (.agg #[f.W,f.H,v'])/\f9 .i64 3 w.heap.size w' v' f.pix/\ae [] w w'):=by
 refine aK fun Q QF=>?_
 obtain ⟨a,cap,rfl,-⟩:=h.open;obtain ⟨V,Rg,J,-⟩:=km w (sT f a cap) (.cells #[(),(),d8] 24);have M:=lh (fun (W:World) (o:ae [] w W)=>FU (h.quiet o) hl);have Y:=lh V;have TF:Hid (((w.alloc (sT f a cap)).alloc (.cells #[(),(),d8] 24)).heap.size=w.heap.size+1+1):=lh Qb;clear h V;go_enter func8,ntmps8;go_wp2_with fail;generalize Rs:World.alloc (World.alloc w _) _=W1 at *
 clear Rs;obtain ⟨r0,r1,r2⟩:=ag Rg;refine Tf (S:=(fun w'=>w'.cell? ⟨w.heap.size,0,none⟩=some (.int .i64 f.W)/\w'.cell? ⟨w.heap.size,1,none⟩=some (.int .i64 f.H)/\w'.cell? ⟨w.heap.size,2,none⟩=some (.slice a f.pix.length cap))) Qc ?_ (fun hHeld=>?_)
 ·exact ⟨r0,r1,r2⟩
 refine tk 0 3 ?_;refine tk 1 4 ?_;refine tk 2 5 ?_;refine tk 3 6 ?_;refine tk 4 7 ?_;refine tk 5 8 ?_;refine j6 6 9 fun K hK=>?_
 go_simp;refine (M.out _ Y.drew).mono ?_;rintro e w3 ⟨v3,rfl,N,Z⟩;have D:=(ae.refl [] W1).drew.q Z;have QW:=lh (Y.q D);have Ui:=lh N;obtain ⟨z0,z1,z2⟩:=ag (D.row J);have fz0:=Sz _ _ 0 _ _ (D.row J);have fz1:=Sz _ _ 1 _ _ (D.row J);have fz2:=Sz _ _ 2 _ _ (D.row J);obtain ⟨s0,s1,s2⟩:=ag (D.row Rg);obtain ⟨E,L,F,rfl⟩:∃ E L F,v3=.slice E L F:=by obtain ⟨E,F,e,-⟩:=N.ints.open;exact ⟨E,_,F,e⟩
 obtain ⟨QK,I⟩:=eI (x:=.int .i64 f.W) (y:=.int .i64 f.H) (z:=.slice E L F) (D.row J);have O:=Ui.at
 clear Z N;refine ko hK ⟨s0,s1,s2⟩ fun hHeld=>?_;clear hK K
 refine tk 7 10 ?_;refine j9 8 fun K hK=>?_
 go_simp;refine ko hK ⟨I.cell s0 Qb,I.cell s1 Qb,I.cell s2 Qb⟩ fun hHeld=>?_;clear hK K
 refine Wn Qc ?_ _;go_wp2_with fail;refine TV (v:=.agg #[f.W,f.H,.slice E L F]) (results_cell_row results8 _ _ (w.heap.size+1) _ _ _ _ rfl QK underlying24 rfl Qc) rfl (QF.out _ _ ⟨_,rfl,?_,?_⟩)
 ·exact (Ui.only I (fun x hx hh=>by rw [i5] at hx;subst hx;have:=(O _ hh).1;have:=TF.out;have:W1.drew.heap.size=W1.heap.size:=rfl;omega)).lower (by have:=TF.out;show w.heap.size<=W1.heap.size;omega)
 ·exact QW.trans I (U:=[]) Qb (fun x hx QH=>Qo)
theorem dC {P:Program} {fn:Func} {p q:Tmp} {ty E:TypeId} (h:fn.results=#[.cell p ty,.cell q E]) (F:Array Value) (w:World) (g L:Nat) (t t':TypeId) (J D:Array Value) (fr I:Nat×Nat) (d M:TypeDesc)
  (hp:F.getD p undef=.pointer g) (hq:F.getD q undef=.pointer L) (hg:w.heap[g]?=some (.cells J t fr)) (O:w.heap[L]?=some (.cells D t' I))
  (hu:P.underlying ty=some d) (hd:(match d with | .struct _ | .array _ _=>true | _=>false)=true) (hi:(P.info? ty).map (·.size)=some J.size)
  (Z:P.underlying E=some M) (N:(match M with | .struct _ | .array _ _=>true | _=>false)=true) (hi':(P.info? E).map (·.size)=some D.size) :
  (results fn F).run P w=.ok (.tuple #[.agg J,.agg D]) w:=by
 have V:F[p]?.getD undef=.pointer g:=Qw;have Y:F[q]?.getD undef=.pointer L:=Qx;simp [results,h,V,Y,asAddr,run_loadVar_row w g t ty J fr d hg hu hd hi,run_loadVar_row w L t' E D I M O Z N hi']
theorem KL {p:Prop} (h:p:=by
 generalize b.getD k 0=c at *
 obtain ⟨h1,h2,h3⟩:=hix;obtain ⟨I,hI⟩:∃ I,I=lD f.W x y Dv+M:=⟨_,rfl⟩
 rw [<- hI] at Vl h1 h2;obtain ⟨Y,hY⟩:∃ Y,Y=(y+(Dv:Int))*f.W:=⟨_,rfl⟩
 rw [<- hY] at h1 h3;have Vd:(f.pix.length:Int)<=1000000:=dT Hfl
 have n0:IntKind.i64.wrap (Dv:Int)=(Dv:Int):=Qe;have n1:IntKind.i64.wrap (y+(Dv:Int))=y+(Dv:Int):=by rw [Pk];have:=Hpl.out;omega
 have n2:IntKind.i64.wrap ((y+(Dv:Int))*f.W)=Y:=by rw [<- hY,Pk];have:=Hpl.out;omega
 have n3:IntKind.i64.wrap (Y+x)=Y+x:=by rw [Pk];have:=Hpl.out;omega
 have n4:Y+x+(M:Int)=(I:Int):=Qa;have n5:IntKind.i64.wrap (I:Int)=(I:Int):=Qe;have hI0:(0:Int)<=(I:Int):=Qa;have hI1:(I:Int)<(f.pix.length:Int):=Qa;have QS:i7 .i64 c:=by simp only [i7];omega
 have cx:=QX.cellS QJ.symm (i:=I) Qa;have fx:=QX.frzS QJ.symm I;obtain ⟨Ru,Rz⟩:=QX.storeS QJ.symm QS I;rw [Vl] at Ru;have Su:=lh Ru;have Te:=lh Rz;have Sj:=lh QH;have JEj:¬ bb=g:=by have:=Hbw.out _ _ _ rfl k Qa;omega
 have hwg:¬ w.heap.size=g:=Qa;have hBg:¬ B4=g:=Qa;clear e2 hI hY h1 h2 h3 QJ QS Ru Vl Zm bM bD XP hb2 hbg hgg QH cb0 Vd;go_wp2_with fail;refine Tf (S:=(fun w'=>w'.cell? ⟨B4,2,none⟩=some (.slice g f.pix.length Sk)/\w'.cell? ⟨w.heap.size,0,none⟩=some (.int .i64 f.W)/\w'.cell? ⟨bb,bo+k,none⟩=some (.int .i64 c))) Qc ?_ (fun hHeld=>?_)
 ·exact ⟨q2,r0,cb⟩
 refine tk 0 61 ?_;refine tk 1 62 ?_;refine tk 2 63 ?_;refine tk 3 64 ?_;refine tk 4 65 ?_;refine tk 5 66 ?_;refine tk 6 67 ?_;refine tk 7 68 ?_;refine tk 8 69 ?_;refine tk 9 70 ?_;refine tk 10 71 ?_;refine tk 11 72 ?_;refine tk 12 73 ?_;refine tk 13 74 ?_;refine tk 14 75 ?_;refine tk 15 76 ?_;refine tk 16 77 ?_;refine tk 17 78 ?_;refine tk 18 79 ?_;refine tk 19 80 ?_;refine tk 20 81 ?_;refine j9 21 fun K hK=>?_
 go_simp;refine ko hK ⟨Rz.cell q2 Qm,Rz.cell r0 Qm,Rz.cell cb Qm⟩ fun hHeld=>?_;clear hK K
 refine Wn Qc ?_ _;go_wp2_with fail;exact ⟨⟨k+1,by have:=Sj.out;omega,Qh,lh (Su.quiet (AY).drew),lh (QP.trans Te (fun _ h _=>h) (fun _ h _=>h)).drew⟩,by simp [intOf];have:=Sj.out;omega⟩):p:=h
theorem KM {p:Prop} (h:p:=by
 rw [HPe.out] at QX;have Rg:=lh (QP.rowAt (Rk.row TR) (eW Hg));have SQ:=lh (QP.rowAt (Rk.row Si) (eW Hg));obtain ⟨z0,z1,z2⟩:=ag Rg;have fz0:=Sz _ _ 0 _ _ Rg;have fz1:=Sz _ _ 1 _ _ Rg;have fz2:=Sz _ _ 2 _ _ Rg;obtain ⟨y0,y1,y2,y3,-⟩:=aL SQ;obtain ⟨Jau,ZQ⟩:=eI (x:=.int .i64 f.W) (y:=.int .i64 f.H) (z:=(.slice g f.pix.length Sk)) Rg;have UT:=ZQ.rowAt SQ Qb;obtain ⟨Vh,Uw⟩:=aJ (x:=.int .i64 0) (y:=.slice none 0 0) UT;have Tt:=Uw.rowAt Jau Qb;have HX1:=lh Tt;have HX2:=lh Vh;have JsQ:=lh ZQ;have JsR:=lh Uw;obtain ⟨t0,t1,t2,t3,-⟩:=aL UT;clear Jau Vh ZQ Uw Tt UT QH;go_wp2_with fail;refine TV (dC results168 _ _ (w.heap.size+1) (w.heap.size+1+1) _ _ _ _ _ _ _ _ rfl rfl HX1 HX2 underlying24 rfl Qc underlying39 rfl (aG _ rfl)) rfl (QF.out _ _ ⟨_,rfl,?_,?_⟩)
 ·exact ((QX.only JsQ (fun x hx hh=>by rw [i5] at hx;subst hx;simp only [Value.ownBlock] at hh;injection hh with hh;have:=Hg.out;omega)).only JsR (fun x hx hh=>by rw [i5] at hx;subst hx;simp only [Value.ownBlock] at hh;injection hh with hh;have:=Hg.out;omega)).lower (l6 QW.size TF.out)
 ·exact (((QO.q Rk).trans QP (U:=[]) Qb (fun x hx QH=>by rw [i5] at hx;have:=Hg.out;omega)).trans JsQ (U:=[]) Qb (fun x hx QH=>Qo)).trans JsR (U:=[]) Qb (fun x hx QH=>Qo)):p:=h
theorem KN {p:Prop} (h:p:=by
 have e1:=QM.len;have e2:=QM.w0;have e3:=QM.h0;have e4:=QM.w1;have e5:=QM.h1;have e6:8*8<=f.W*f.H:=A3 e2 e3 Qa Qa;have e7:f.W*f.H<=32*32:=A3 e4 e5 Qa Qa;omega):p:=h
theorem GC {lo hi lo' hi':Nat} {pv bv:Value} {w:World} {f:ah} {x y:Int} {b:List Int} (QM:FrOk f) (h:aj .i64 lo hi w pv f.pix) (V:aj .i64 lo' hi' w bv b) (F:b.length=16) (VA:ar b) (hx:0<=x) (Ry:x+4<=f.W) (hy:0<=y) (RJ:y+4<=f.H):Calls prog 168 #[.agg #[f.W,f.H,pv],x,y,.int .i64 4,bv] w fun e w'=>(∃ v',e=.returned (.tuple #[.agg #[f.W,f.H,v'],.agg #[(),d8]])/\f9 .i64 3 w.heap.size w' v' (dP f x y 4 b).pix/\ae [] w w'):=by
 refine aK fun Q QF=>?_
 obtain ⟨a,cap,rfl,-⟩:=h.open;have L:ae [] w (((w.alloc (sT f a cap)).alloc (.cells #[(),(),d8] 24)).alloc (.cells #[(),d8] 39)):=((ae.new w _).alloc _).alloc _;have N:0<f.pix.length/\f.pix.length<=1000000:=by
  exact KN
 have D:=fun (j:Nat) (hj:j<4)=>pV (W:=f.W) (H:=f.H) (x:=x) (y:=y) (j:=(j:Int)) (n:=4) (j0 QM.w0) hx Ry Qa hy Qa Qa
 have ho:∀ j,j<4->lD f.W x y j+4<=f.pix.length:=fun j hj=>by have:=D j hj;have:=QM.len;unfold lD;omega
 have HIx:Hid (∀ k,k<16->(y+((k / 4:Nat):Int))*f.W+x+((k % 4:Nat):Int)=((lD f.W x y (k / 4)+k % 4:Nat):Int)/\lD f.W x y (k / 4)+k % 4<f.pix.length/\0<=(y+((k / 4:Nat):Int))*f.W+x):=lh (fun k J=>by
  have:=D (k / 4) Qa;have:=ho (k / 4) Qa;unfold lD at *
  omega)
 have HPn:=lh (fun k (J:k<16)=>wR (n:=4) (W:=f.W) (x:=x) (y:=y) F ho J);have UL:=lh (fun k (J:k<16)=>AL (n:=4) (W:=f.W) (x:=x) (y:=y) F ho J);have HP0:=lh (wS (n:=4) (W:=f.W) (x:=x) (y:=y) (b:=b) (pix:=f.pix) Qa);have HPe:Hid (pW f.W x y 4 b f.pix 16=(dP f x y 4 b).pix):=AK (n:=4) F Qa f rfl rfl;have O:Hid ((((w.alloc (sT f a cap)).alloc (.cells #[(),(),d8] 24)).alloc (.cells #[(),d8] 39)).heap[w.heap.size]?=some (.cells (sT f a cap) 24)):=lh (((ae.new (w.alloc _) _).alloc _).row (Sd w _));have TR:Hid ((((w.alloc (sT f a cap)).alloc (.cells #[(),(),d8] 24)).alloc (.cells #[(),d8] 39)).heap[w.heap.size+1]?=some (.cells #[(),(),d8] 24)):=lh ((ae.new ((w.alloc _).alloc _) _).row (ak Qb));have Si:Hid ((((w.alloc (sT f a cap)).alloc (.cells #[(),(),d8] 24)).alloc (.cells #[(),d8] 39)).heap[w.heap.size+1+1]?=some (.cells #[(),d8] 39)):=ak Qb;have TF:Hid ((((w.alloc (sT f a cap)).alloc (.cells #[(),(),d8] 24)).alloc (.cells #[(),d8] 39)).heap.size=w.heap.size+1+1+1):=lh Qb;have HM:=lh (fun (W:World) (o:ae [] (((w.alloc (sT f a cap)).alloc (.cells #[(),(),d8] 24)).alloc (.cells #[(),d8] 39)) W)=>by have:=gZ f.W f.H (h.quiet (L.q o));rw [show cT ⟨f.W,f.H,f.pix⟩=true from dp.2 QM] at this;exact this);have HLi:=lh (fun (W:World)=>by have:=nD f.W f.H x y 4 (.slice a f.pix.length cap) W ⟨QM.w0,QM.w1⟩ ⟨QM.h0,QM.h1⟩ Qa;rw [show io f.W f.H x y 4=true by unfold io;rw [decide_eq_true_iff];omega] at this;exact this);have Wj:=lh (V.quiet L);have Hbw:Hid (∀ (b0 o0 c0:Nat),bv=.slice (some ⟨b0,o0,none⟩) b.length c0->∀ k,k<16->b0<w.heap.size):=lh (fun b0 o0 c0 e k J=>by obtain ⟨b',o',c',e',-,-,hc⟩:=V.at (i:=k) Qa;rw [e'] at e;injection e with e1;injection e1 with e1;injection e1 with e1;subst e1;exact s4 hc);have HWb:=lh (eJ.2 VA)
 have HCf:=lh (fun (W:World) (o:ae [] (((w.alloc (sT f a cap)).alloc (.cells #[(),(),d8] 24)).alloc (.cells #[(),d8] 39)) W)=>ly (h.quiet (L.q o)) Qa);have Hfl:=lh N;have Hbl:=lh F;have Hbs:=lh VA;have Hpl:Hid (0<=x/\x<=32/\0<=y/\y<=32/\0<=f.W/\f.W<=32):=lh (C5 QM.w1 QM.h1 QM.w0);have QO:=lh L;obtain ⟨ba,ZF,rfl,-⟩:=V.open;rw [F] at Wj Hbw |-
 clear h V F VA L QM N D ho hx Ry hy RJ;generalize pW f.W x y 4 b f.pix=PK at *
 go_enter func168,ntmps168;obtain ⟨r0,r1,r2⟩:=ag O;go_wp2_with fail;generalize Rs:World.alloc (World.alloc (World.alloc w _) _) _=W1 at *
 clear Rs r0 r1 r2;refine (HM.out W1 (AY)).mono ?_;rintro e w2 ⟨rfl,QN⟩;have QT:=lh QN;obtain ⟨r0,r1,r2⟩:=ag (QN.row O);clear QN;go_wp2_with fail;refine (HLi.out w2).mono ?_;rintro e w3 ⟨rfl,QQ⟩;have QW:=lh (QT.q QQ);clear QQ r0 r1 r2;go_wp2_with fail;refine (bQ 0 255 (Wj.quiet QW)).mono ?_;rintro e w' ⟨rfl,rfl⟩;rw [HWb.out];obtain ⟨r0,r1,r2⟩:=ag (QW.row O);go_wp2_with fail;refine (HCf.out w3 QW).mono ?_;rintro e E ⟨v4,rfl,QL,QY⟩;obtain ⟨g,Sk,rfl,ST,Rj⟩:=QL.form Hfl.1;have VP:=ae.new E (.cells #[f.W,f.H,(.slice g f.pix.length Sk)] 24);have Z:Hid ((E.alloc (.cells #[f.W,f.H,(.slice g f.pix.length Sk)] 24)).heap[E.heap.size]?=some (.cells #[f.W,f.H,(.slice g f.pix.length Sk)] 24)):=Sd E _;have RF:=QY.q VP;have Rk:=lh (QW.q RF);have UX:=lh (QL.quiet VP);have Hg:Hid (w.heap.size+1+1<g/\g<E.heap.size):=lh ⟨by have:=QW.size;have:=TF.out;omega,Rj⟩;clear QY VP RF QL ST Rj r0 r1 r2;go_wp2_with fail;generalize ZI:World.alloc E _=W5 at *
 clear ZI;generalize hB4:E.heap.size=B4 at *
 go_loopw [13] (fun i wr=>∃ k:Nat,k<=16/\i=.int .i64 k/\Hid (f9 .i64 3 w3.heap.size wr (.slice g f.pix.length Sk) (PK k))/\Hid (ae [g] W5 wr)) (fun i _=>16-(intOf i).toNat)
 case atStart=>exact ⟨0,Qa,rfl,lh (bC HP0 UX),lh (AY)⟩
 case round =>
  obtain ⟨k,J,rfl,QX,QP⟩:=hrel;have hNN:IntKind.i64.wrap (4*4)=16:=Ql;obtain ⟨q0,q1,q2⟩:=ag (QP.rowAt Z (eW Hg));obtain ⟨r0,r1,r2⟩:=ag (QP.rowAt (Rk.row O) (eW Hg));by_cases QH:k<16
  ·have Rt:(k:Int)<16:=Qa
   have RA:(0:Int)<=(k:Int):=Qa;have QJ:=UL.out k QH;have hix:=HIx.out k QH;obtain ⟨bb,bo,Jtk,e1,XP,hb2,cb0⟩:=(Wj.out).at (i:=k) (bC Hbl QH);injection e1 with e1 e2 e3
   subst e1;subst e3;have hbg:=s4 cb0;simp only at hbg;have hgg:=Hg.out;have cb:=QP.cell (Rk.cell cb0 Qb) (by rw [i5];have:=TF.out;have:=Hbw.out _ _ _ rfl k QH;simp only;omega);have eM:(k:Int).tmod 4=((k % 4:Nat):Int):=by rw [PR RA];rfl
   have eD:(k:Int).tdiv 4=((k / 4:Nat):Int):=by rw [TY RA];rfl
   have Zm:=Hbs.at k;have Vl:=HPn.out k QH;have bM:k % 4<4:=Qa;have bD:k / 4<4:=Qa;generalize k % 4=M at *
   generalize k / 4=Dv at *
   exact KL
  ·obtain rfl:k=16:=Qa
   have Rt:¬ ((16:Nat):Int)<16:=Qa;exact KM
theorem GD {lo hi lo' hi':Nat} {pv bv:Value} {w:World} {f:ah} {x y:Int} {b:List Int} (QM:FrOk f) (h:aj .i64 lo hi w pv f.pix) (V:aj .i64 lo' hi' w bv b) (F:b.length=64) (VA:ar b) (hx:0<=x) (Ry:x+8<=f.W) (hy:0<=y) (RJ:y+8<=f.H):Calls prog 168 #[.agg #[f.W,f.H,pv],x,y,.int .i64 8,bv] w fun e w'=>(∃ v',e=.returned (.tuple #[.agg #[f.W,f.H,v'],.agg #[(),d8]])/\f9 .i64 3 w.heap.size w' v' (dP f x y 8 b).pix/\ae [] w w'):=by
 refine aK fun Q QF=>?_
 obtain ⟨a,cap,rfl,-⟩:=h.open;have L:ae [] w (((w.alloc (sT f a cap)).alloc (.cells #[(),(),d8] 24)).alloc (.cells #[(),d8] 39)):=((ae.new w _).alloc _).alloc _;have N:0<f.pix.length/\f.pix.length<=1000000:=by
  exact KN
 have D:=fun (j:Nat) (hj:j<8)=>pV (W:=f.W) (H:=f.H) (x:=x) (y:=y) (j:=(j:Int)) (n:=8) (j0 QM.w0) hx Ry Qa hy Qa Qa
 have ho:∀ j,j<8->lD f.W x y j+8<=f.pix.length:=fun j hj=>by have:=D j hj;have:=QM.len;unfold lD;omega
 have HIx:Hid (∀ k,k<64->(y+((k / 8:Nat):Int))*f.W+x+((k % 8:Nat):Int)=((lD f.W x y (k / 8)+k % 8:Nat):Int)/\lD f.W x y (k / 8)+k % 8<f.pix.length/\0<=(y+((k / 8:Nat):Int))*f.W+x):=lh (fun k J=>by
  have:=D (k / 8) Qa;have:=ho (k / 8) Qa;unfold lD at *
  omega)
 have HPn:=lh (fun k (J:k<64)=>wR (n:=8) (W:=f.W) (x:=x) (y:=y) F ho J);have UL:=lh (fun k (J:k<64)=>AL (n:=8) (W:=f.W) (x:=x) (y:=y) F ho J);have HP0:=lh (wS (n:=8) (W:=f.W) (x:=x) (y:=y) (b:=b) (pix:=f.pix) Qa);have HPe:Hid (pW f.W x y 8 b f.pix 64=(dP f x y 8 b).pix):=AK (n:=8) F Qa f rfl rfl;have O:Hid ((((w.alloc (sT f a cap)).alloc (.cells #[(),(),d8] 24)).alloc (.cells #[(),d8] 39)).heap[w.heap.size]?=some (.cells (sT f a cap) 24)):=lh (((ae.new (w.alloc _) _).alloc _).row (Sd w _));have TR:Hid ((((w.alloc (sT f a cap)).alloc (.cells #[(),(),d8] 24)).alloc (.cells #[(),d8] 39)).heap[w.heap.size+1]?=some (.cells #[(),(),d8] 24)):=lh ((ae.new ((w.alloc _).alloc _) _).row (ak Qb));have Si:Hid ((((w.alloc (sT f a cap)).alloc (.cells #[(),(),d8] 24)).alloc (.cells #[(),d8] 39)).heap[w.heap.size+1+1]?=some (.cells #[(),d8] 39)):=ak Qb;have TF:Hid ((((w.alloc (sT f a cap)).alloc (.cells #[(),(),d8] 24)).alloc (.cells #[(),d8] 39)).heap.size=w.heap.size+1+1+1):=lh Qb;have HM:=lh (fun (W:World) (o:ae [] (((w.alloc (sT f a cap)).alloc (.cells #[(),(),d8] 24)).alloc (.cells #[(),d8] 39)) W)=>by have:=gZ f.W f.H (h.quiet (L.q o));rw [show cT ⟨f.W,f.H,f.pix⟩=true from dp.2 QM] at this;exact this);have HLi:=lh (fun (W:World)=>by have:=nD f.W f.H x y 8 (.slice a f.pix.length cap) W ⟨QM.w0,QM.w1⟩ ⟨QM.h0,QM.h1⟩ Qa;rw [show io f.W f.H x y 8=true by unfold io;rw [decide_eq_true_iff];omega] at this;exact this);have Wj:=lh (V.quiet L);have Hbw:Hid (∀ (b0 o0 c0:Nat),bv=.slice (some ⟨b0,o0,none⟩) b.length c0->∀ k,k<64->b0<w.heap.size):=lh (fun b0 o0 c0 e k J=>by obtain ⟨b',o',c',e',-,-,hc⟩:=V.at (i:=k) Qa;rw [e'] at e;injection e with e1;injection e1 with e1;injection e1 with e1;subst e1;exact s4 hc);have HWb:=lh (eJ.2 VA)
 have HCf:=lh (fun (W:World) (o:ae [] (((w.alloc (sT f a cap)).alloc (.cells #[(),(),d8] 24)).alloc (.cells #[(),d8] 39)) W)=>ly (h.quiet (L.q o)) Qa);have Hfl:=lh N;have Hbl:=lh F;have Hbs:=lh VA;have Hpl:Hid (0<=x/\x<=32/\0<=y/\y<=32/\0<=f.W/\f.W<=32):=lh (C5 QM.w1 QM.h1 QM.w0);have QO:=lh L;obtain ⟨ba,ZF,rfl,-⟩:=V.open;rw [F] at Wj Hbw |-
 clear h V F VA L QM N D ho hx Ry hy RJ;generalize pW f.W x y 8 b f.pix=PK at *
 go_enter func168,ntmps168;obtain ⟨r0,r1,r2⟩:=ag O;go_wp2_with fail;generalize Rs:World.alloc (World.alloc (World.alloc w _) _) _=W1 at *
 clear Rs r0 r1 r2;refine (HM.out W1 (AY)).mono ?_;rintro e w2 ⟨rfl,QN⟩;have QT:=lh QN;obtain ⟨r0,r1,r2⟩:=ag (QN.row O);clear QN;go_wp2_with fail;refine (HLi.out w2).mono ?_;rintro e w3 ⟨rfl,QQ⟩;have QW:=lh (QT.q QQ);clear QQ r0 r1 r2;go_wp2_with fail;refine (bQ 0 255 (Wj.quiet QW)).mono ?_;rintro e w' ⟨rfl,rfl⟩;rw [HWb.out];obtain ⟨r0,r1,r2⟩:=ag (QW.row O);go_wp2_with fail;refine (HCf.out w3 QW).mono ?_;rintro e E ⟨v4,rfl,QL,QY⟩;obtain ⟨g,Sk,rfl,ST,Rj⟩:=QL.form Hfl.1;have VP:=ae.new E (.cells #[f.W,f.H,(.slice g f.pix.length Sk)] 24);have Z:Hid ((E.alloc (.cells #[f.W,f.H,(.slice g f.pix.length Sk)] 24)).heap[E.heap.size]?=some (.cells #[f.W,f.H,(.slice g f.pix.length Sk)] 24)):=Sd E _;have RF:=QY.q VP;have Rk:=lh (QW.q RF);have UX:=lh (QL.quiet VP);have Hg:Hid (w.heap.size+1+1<g/\g<E.heap.size):=lh ⟨by have:=QW.size;have:=TF.out;omega,Rj⟩;clear QY VP RF QL ST Rj r0 r1 r2;go_wp2_with fail;generalize ZI:World.alloc E _=W5 at *
 clear ZI;generalize hB4:E.heap.size=B4 at *
 go_loopw [13] (fun i wr=>∃ k:Nat,k<=64/\i=.int .i64 k/\Hid (f9 .i64 3 w3.heap.size wr (.slice g f.pix.length Sk) (PK k))/\Hid (ae [g] W5 wr)) (fun i _=>64-(intOf i).toNat)
 case atStart=>exact ⟨0,Qa,rfl,lh (bC HP0 UX),lh (AY)⟩
 case round =>
  obtain ⟨k,J,rfl,QX,QP⟩:=hrel;have hNN:IntKind.i64.wrap (8*8)=64:=Ql;obtain ⟨q0,q1,q2⟩:=ag (QP.rowAt Z (eW Hg));obtain ⟨r0,r1,r2⟩:=ag (QP.rowAt (Rk.row O) (eW Hg));by_cases QH:k<64
  ·have Rt:(k:Int)<64:=Qa
   have RA:(0:Int)<=(k:Int):=Qa;have QJ:=UL.out k QH;have hix:=HIx.out k QH;obtain ⟨bb,bo,Jtk,e1,XP,hb2,cb0⟩:=(Wj.out).at (i:=k) (bC Hbl QH);injection e1 with e1 e2 e3
   subst e1;subst e3;have hbg:=s4 cb0;simp only at hbg;have hgg:=Hg.out;have cb:=QP.cell (Rk.cell cb0 Qb) (by rw [i5];have:=TF.out;have:=Hbw.out _ _ _ rfl k QH;simp only;omega);have eM:(k:Int).tmod 8=((k % 8:Nat):Int):=by rw [PR RA];rfl
   have eD:(k:Int).tdiv 8=((k / 8:Nat):Int):=by rw [TY RA];rfl
   have Zm:=Hbs.at k;have Vl:=HPn.out k QH;have bM:k % 8<8:=Qa;have bD:k / 8<8:=Qa;generalize k % 8=M at *
   generalize k / 8=Dv at *
   exact KL
  ·obtain rfl:k=64:=Qa
   have Rt:¬ ((64:Nat):Int)<64:=Qa;exact KM
end
theorem KZ {p:Prop} (h:p:=by
 go_enter func102,ntmps102;go_wp2_with fail;refine (HF.out _ (by first | rfl | exact aX _ _)).mono ?_;rintro e w2 ⟨rfl,F2,RM,Rj⟩;go_wp2_with fail;refine QF.out _ _ ?_;rw [HP.out];exact ⟨rfl,F2,RM,Rj⟩):p:=h
theorem zK {R:Nat} (X:KC R) {F:List Nat} {w:World} {s:X.σ} {n:Nat} (h:X.At F w s) (key:Bool) (k:Int) (ok:X.Ok n s) (L:n<=800000000) :
  Calls prog 102 #[.pointer R,.bool key,k] w (IK X F w (((bL X.C key k s).1:Int),(bL X.C key k s).2)):=by
 refine aK fun Q QF=>?_
 cases key with
 | false =>
  have HP:Hid (bL X.C false k s=lT X.C k s):=lh rfl;rw [HP.out] at QF;have I:=lh (Gi X h k ok L);clear h ok;go_enter func102,ntmps102;go_wp2_with fail;refine I.mono ?_;rintro e w2 ⟨rfl,F2,RM,Rj⟩;go_wp2_with fail;exact QF.out _ _ ⟨rfl,F2,RM,Rj⟩
 | true =>
  have HP:Hid (bL X.C true k s=(if (X.C.flat (decide (k=3)) s).1 then 3 else 2,(X.C.flat (decide (k=3)) s).2)):=lh rfl;have HF:=lh (fun (b:Bool) (J:b=decide (k=3))=>(by subst J;exact X.flat _ h ok Qa:Calls prog 162 #[.pointer R,.bool b] w _));obtain ⟨E,D⟩:∃ y,y=X.C.flat (decide (k=3)) s:=⟨_,rfl⟩
  rw [<- D] at HF HP;obtain ⟨t,M⟩:=E;simp only at HF HP;clear h ok D;cases t with
  | true =>
   exact KZ
  | false =>
   exact KZ
def qX (w:World) (W H V:Int) (e:Ending) (w':World):Prop :=
 ae [] w w'/\match jJ W H V with
  | true=>∃ g cap,e=.returned (.tuple #[.agg #[W,H,.slice (some ⟨g,0,none⟩) (ed W H V).pix.length cap],.agg #[(),d8]])/\f9 .i64 3 w.heap.size w' (.slice (some ⟨g,0,none⟩) (ed W H V).pix.length cap) (ed W H V).pix
  | false=>e=.returned (.tuple #[.agg #[(),(),d8],.agg #[.int .i64 3,d8]])
theorem La {p:Prop} (h:p:=by
 go_wp2_with fail;refine (fo 3 W1).mono ?_;rintro e w2 ⟨rfl,QN⟩;have HBa:=lh (QN.row Tc);have HBb:=lh (QN.row TR);have HQ:=lh (QO.q QN);clear QN;obtain ⟨t0,t1,t2⟩:=ag HBa;have fz0:=Sz _ _ 0 _ _ HBa;have fz1:=Sz _ _ 1 _ _ HBa;have fz2:=Sz _ _ 2 _ _ HBa;obtain ⟨z0,z1,y0,y1,-⟩:=aL HBb;go_wp2_with fail;obtain ⟨Jau,ZQ⟩:=eI (x:=.int .i64 0) (y:=.int .i64 0) (z:=.slice none 0 0) HBa;have UT:=ZQ.rowAt HBb Qb;obtain ⟨Vh,Uw⟩:=aJ (x:=.int .i64 3) (y:=.slice none 0 0) UT;have Tt:=Uw.rowAt Jau Qb;have Rx:=(HQ.trans ZQ (U:=[]) Qb (fun g hg QH=>Qd)).trans Uw (U:=[]) Qb (fun g hg QH=>Qd);refine TV (dC results38 _ _ (w.heap.size) (w.heap.size+1) _ _ _ _ _ _ _ _ rfl rfl Tt Vh underlying24 rfl Qc underlying39 rfl (aG _ rfl)) rfl (QF.out _ _ ?_);exact ⟨Rx,by rw [Hn.out]⟩):p:=h
theorem NQ {W H V:Int} {w:World} (D:fu W=false):Calls prog 38 #[W,H,V] w (qX w W H V):=by
 have Hn:Hid (jJ W H V=false):=lh (by unfold jJ;rw [D];rfl);refine aK fun Q QF=>?_
 obtain ⟨F,Tc,TR,L⟩:=km w (.cells #[(),(),d8] 24) (.cells #[(),d8] 39);have QO:=lh F;clear F;go_enter func38,ntmps38;go_wp2_with fail;generalize I:World.alloc (World.alloc w _) _=W1 at *
 clear I;go_at_call 88;have E:=fT W W1;rw [D] at E;have J:=lh E;clear E;refine J.mono ?_;rintro e w' ⟨rfl,rfl⟩;clear D;exact La
theorem DG {p:Prop} (h:p:=by
 refine aK fun Q QF=>?_
 obtain ⟨QI,Tc,TR,Hz⟩:=km w (.cells #[(),(),d8] 24) (.cells #[(),d8] 39);have QO:=lh QI;clear QI;go_enter func38,ntmps38;go_wp2_with fail;generalize Rs:World.alloc (World.alloc w _) _=W1 at *
 clear Rs;go_at_call 88;have hs:=fT W W1;rw [Xe] at hs;have Su:=lh hs;clear hs;refine Su.mono ?_;rintro e w' ⟨rfl,rfl⟩;go_wp2_with fail;go_at_call 88;have hs:=fT H W1;rw [Yt] at hs;have Te:=lh hs;clear hs;refine Te.mono ?_;rintro e w' ⟨rfl,rfl⟩;clear Xe Yt;exact La):p:=h
theorem NM {W H V:Int} {w:World} (Xe:fu W=true) (Yt:fu H=false):Calls prog 38 #[W,H,V] w (qX w W H V):=by
 have Hn:Hid (jJ W H V=false):=lh (by unfold jJ;rw [Xe,Yt];rfl);exact DG
theorem Mv {W H V:Int} {w:World} (Xe:fu W=true) (Yt:fu H=true) (D:V<0):Calls prog 38 #[W,H,V] w (qX w W H V):=by
 have Hn:Hid (jJ W H V=false):=lh (by unfold jJ;rw [Xe,Yt];unfold jq;simp;omega);exact DG
theorem Mw {W H V:Int} {w:World} (Xe:fu W=true) (Yt:fu H=true) (D:¬ V<0) (E:255<V):Calls prog 38 #[W,H,V] w (qX w W H V):=by
 have Hn:Hid (jJ W H V=false):=lh (by unfold jJ;rw [Xe,Yt];unfold jq;simp;omega);exact DG
theorem Mu {W H V:Int} {w:World} (Xe:fu W=true) (Yt:fu H=true) (hv0:¬ V<0) (UU:¬ 255<V):Calls prog 38 #[W,H,V] w (qX w W H V):=by
 refine aK fun Q QF=>?_
 obtain ⟨QI,Tc,TR,Hz⟩:=km w (.cells #[(),(),d8] 24) (.cells #[(),d8] 39);have QO:=lh QI;clear QI;go_enter func38,ntmps38;go_wp2_with fail;generalize Rs:World.alloc (World.alloc w _) _=W1 at *
 clear Rs;go_at_call 88;have M:=fT W W1;rw [Xe] at M;have Su:=lh M;clear M;refine Su.mono ?_;rintro e w' ⟨rfl,rfl⟩;go_wp2_with fail;go_at_call 88;have M:=fT H W1;rw [Yt] at M;have Te:=lh M;clear M;refine Te.mono ?_;rintro e w' ⟨rfl,rfl⟩;have hwb:8<=W/\W<=32/\W % 8=0:=A2 Xe;have hhb:8<=H/\H<=32/\H % 8=0:=A2 Yt;have Hn:Hid (jJ W H V=true):=lh (by unfold jJ;rw [Xe,Yt];unfold jq;simp;omega);obtain ⟨E,rfl⟩:=A0 (show 0<=W by omega);obtain ⟨D,rfl⟩:=A0 (show 0<=H by omega);have hN:64<=E*D/\E*D<=1024:=⟨by have:=A8 (show 8<=E by omega) (show 8<=D by omega);omega,by have:=A8 (show E<=32 by omega) (show D<=32 by omega);omega⟩
 have ZM:(E:Int)*(D:Int)=((E*D:Nat):Int):=by rw [A9]
 have HM:=lh ZM;obtain ⟨N,L⟩:∃ N,N=E*D:=⟨_,rfl⟩
 rw [<- L] at hN ZM;have hwm:IntKind.i64.wrap ((E:Int)*(D:Int))=(N:Int):=by rw [ZM,Pk];omega
 have JvE:wrap64 (N:Int)=(N:Int):=by unfold wrap64;omega
 have HNe:=lh L;have HN:=lh hN;have Hwv:=lh (VL hv0 UU);clear Xe Yt hwb hhb L hN;have TX:=ae.new W1 (.cells #[E,D,d8] 24);have Wk:Hid ((W1.alloc (.cells #[E,D,d8] 24)).heap[W1.heap.size]?=some (.cells #[E,D,d8] 24)):=Sd W1 _;have JxH:=lh (TX.row Tc);have Jgr:=lh (TX.row TR);have QW:=lh (QO.q TX);clear TX;go_wp2_with fail;generalize Tb:World.alloc W1 _=W3 at *
 have UR:Hid (W1.heap.size<W3.heap.size):=lh (l8.1 Wk).1;clear Tb;go_loopw [9] (fun i wr=>∃ (k:Nat) (pv:Value),k<=N/\i=.int .i64 k/\Hid (wr.heap[W1.heap.size]?=some (.cells #[E,D,pv] 24))/\Hid (f9 .i64 3 W3.heap.size wr pv (List.replicate k V))/\Hid (bj W3.heap.size pv)/\Hid (ae [W1.heap.size] W3 wr)) (fun i _=>N-(intOf i).toNat)
 case atStart=>exact ⟨0,_,Qa,rfl,Wk,lh (f9.nil _ _ _ _),lh (bj.nil _),lh (AY)⟩
 case round =>
  obtain ⟨k,pv,hk,rfl,HR,HO,I,Tz⟩:=hrel;obtain ⟨pa,RK,hpv,-⟩:=HO.ints.open;rw [PE] at hpv;subst hpv;obtain ⟨r0,r1,r2⟩:=ag HR;have fr2:=Sz wr W1.heap.size 2 _ _ HR;by_cases O:k<N
  ·have Rt:(k:Int)<(N:Int):=Qa
   have RA:(0:Int)<=(k:Int):=Qa;have hN:=HN.out;have QS:∀ x∈[V],i7 .i64 x:=by simp only [i5,n7,i7];have:=Hwv.out;omega
   have RI:=lh (fun (W:World)=>aU (k:=.i64) (w:=W) (t:=3) (l:=[V]) rfl Qj QS 1 rfl rfl);have TU:=lh (show ((List.replicate k V).length+[V].length)*8<=140737488355328 by rw [PE];simp;omega);have Tn:=lh (fun (o:Obj)=>(show W3.heap.size<=(wr.alloc o).heap.size from Pw Tz.size (BS).size));have Sj:=lh O;have SQ:=lh (fun (o:Obj) (v1:Value) (w1:World) (ho:p9 (.slice pa k RK) (wr.alloc o) v1 w1)=>ho.only.rowAt ((ae.new wr o).row HR) (fun hm=>by have:=I.out W1.heap.size Qr;have:=UR.out;omega));clear QS O
   go_wp2_with (first
    | (at_builtin;refine au rfl (.tmp 39) (.tmp 41) _ rfl EI (HO.quiet (BS)) (by first | rfl | (rw [PE];rfl)) (RI.out _) rfl TU (Tn.out _) (fun v1 w1 QG Rc=>?_);have J:=SQ.out _ _ _ Rc;obtain ⟨x1,SV,RZ,_⟩:=QG.ints.open;subst RZ;simp only [Pn,List.length_singleton,PE] at QG Rc |-;obtain ⟨q0,q1,q2⟩:=ag J;have fq2:=Sz w1 W1.heap.size 2 _ _ J;have SD:=lh QG;have Sa:=lh Rc;have HRw:=lh J;clear QG Rc J)
    | fail)
   have Xd:=WG w1 W1.heap.size 2 _ _ (.slice x1 (k+1) SV) HRw;have QV:ae [W1.heap.size] w1 (w1.setCell ⟨W1.heap.size,2,none⟩ (.slice x1 (k+1) SV)):=(AY).setCell Qb _;have Z:=lh (Sa.from_ I (Tn.out _));refine ⟨⟨k+1,_,by have:=Sj.out;omega,Qh,lh Xd,lh ?_,Z,lh ?_⟩,by simp [intOf];have:=Sj.out;omega⟩
   ·have ho:=SD.only QV (fun x hx e=>by rw [i5] at hx;subst hx;have:=Z.out _ e;have:=UR.out;omega)
    rw [List.replicate_succ'];exact ho
   ·exact ((Tz.trans (ae.new wr _) (U:=[W1.heap.size]) (fun g h _=>h) Qb).trans Sa.only (U:=[W1.heap.size]) (fun g h _=>h) (fun g hg O=>by have:=I.out g Qn;omega)).trans QV (fun g h _=>h) (fun g h _=>h)
  ·obtain rfl:k=N:=Qa
   have Rt:¬ ((k:Nat):Int)<(k:Int):=Qa;have F:=lh (Tz.rowAt JxH (by simp;have:=Hz.out;omega));have Y:=lh (Tz.rowAt Jgr (by simp;have:=Hz.out;omega));have HQ:=lh (QW.trans Tz (U:=[]) Qb (fun g hg O=>by rw [i5] at hg;have:=QO.size;omega));obtain ⟨g,Sk,hgv,ST,Rj⟩:=HO.form (by rw [PE];have:=HN.out;omega);rw [PE] at hgv;injection hgv with e1 e2 e3
   subst e1 e3;clear e2;obtain ⟨t0,t1,t2⟩:=ag F;have fz0:=Sz _ _ 0 _ _ F;have fz1:=Sz _ _ 1 _ _ F;have fz2:=Sz _ _ 2 _ _ F;obtain ⟨z0,z1,y0,y1,-⟩:=aL Y;go_wp2_with fail;obtain ⟨Jau,ZQ⟩:=eI (x:=.int .i64 E) (y:=.int .i64 D) (z:=.slice g k RK) F;have UT:=ZQ.rowAt Y Qb;obtain ⟨Vh,Uw⟩:=aJ (x:=.int .i64 0) (y:=.slice none 0 0) UT;have Tt:=Uw.rowAt Jau Qb;have Rx:=(HQ.trans ZQ (U:=[]) Qb (fun g hg O=>Qd)).trans Uw (U:=[]) Qb (fun g hg O=>Qd);refine TV (dC results38 _ _ (w.heap.size) (w.heap.size+1) _ _ _ _ _ _ _ _ rfl rfl Tt Vh underlying24 rfl Qc underlying39 rfl (aG _ rfl)) rfl (QF.out _ _ ?_);refine ⟨Rx,?_⟩;rw [Hn.out];have hpx:(ed (E:Int) (D:Int) V).pix=List.replicate k V:=by show List.replicate ((E:Int)*(D:Int)).toNat V=_;rw [HM.out,Int.toNat_natCast,<- HNe.out]
   refine ⟨g,RK,?_,?_⟩
   ·rw [hpx,PE]
   ·rw [hpx,PE]
    have hz1:=QW.size;have hz2:=Hz.out;have hz3:=UR.out;exact ((HO.only ZQ (fun x hx e=>by rw [i5] at hx;subst hx;have:=I.out _ e;omega)).only Uw (fun x hx e=>by rw [i5] at hx;subst hx;have:=I.out _ e;omega)).lower hz1
theorem zZ (W H V:Int) (w:World):Calls prog 38 #[W,H,V] w (qX w W H V):=by
 cases Xe:fu W with
 | false=>exact NQ Xe
 | true =>
  cases Yt:fu H with
  | false=>exact NM Xe Yt
  | true =>
   by_cases D:V<0
   ·exact Mv Xe Yt D
   ·by_cases E:255<V
    ·exact Mw Xe Yt D E
    ·exact Mu Xe Yt D E
end Go.Proofs.YthcafdfdglfabaaGreatDoor
