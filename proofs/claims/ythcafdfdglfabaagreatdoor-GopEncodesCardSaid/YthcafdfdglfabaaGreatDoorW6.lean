/- Joined texts: EBest, EMot, ESea. Conditions: each part names its own. -/
import Derived.Test.YthcafdfdglfabaaGreatDoorW5
import Derived.Test.YthcafdfdglfabaaGreatDoorA2
import Derived.Deep.CutBlock
namespace Go.Proofs.YthcafdfdglfabaaGreatDoor
open Tryz
open Go.RowKit
set_option linter.unusedVariables false
set_option linter.unusedSimpArgs false
set_option maxRecDepth 100000
set_option maxHeartbeats 16000000
theorem sM {k:Nat} (h:k<4):([0,1,2,3]:List Nat).drop k=k :: ([0,1,2,3]:List Nat).drop (k+1):=by
 match k,h with
 | 0,_=>rfl
 | 1,_=>rfl
 | 2,_=>rfl
 | 3,_=>rfl
section
theorem GU {n:Nat} (F:n=4\/n=8) {lo hi lo' hi' Wi Uq:Nat} {bv tv lv:Value} {b top left:List Int} {w:World} (hb:aj .i64 Wi Uq w bv b) (V:aj .i64 lo hi w tv top) (O:aj .i64 lo' hi' w lv left) (Y:b.length=n*n) (lt:top.length=n) (Z:left.length=n) (sb:ar b) (st:ar top) (sl:ar left) {corner:Int} (hc:0<=corner/\corner<=255) :
  Calls prog 137 #[bv,tv,lv,corner] w fun e w'=>e=.returned (.tuple #[.int .i64 (lR b top left corner).1,.int .i64 (lR b top left corner).2,.nilIface])/\ae [] w w':=by
 refine aK fun Q QF=>?_
 have XH:=lh (tz V O Qa Qa st sl hc);have I:=lh (fun (W:World) (o:ae [] w W)=>by have:=iX (hb.quiet o) (by rcases F with rfl | rfl <;> omega);rw [show aO b 0 255=true by unfold aO;simpa using fun z hz=>sb z hz] at this;exact this);have HF:=lh (fun (W:World) (o:ae [] w W) (m:Nat) (hm:m<=3)=>(by
  rcases F with rfl | rfl
  ·exact ox (V.quiet o) (O.quiet o) lt Z st sl hc (mode:=(m:Int)) Qa
  ·exact oy (V.quiet o) (O.quiet o) lt Z st sl hc (mode:=(m:Int)) Qa:Calls prog 193 #[.int .i64 (m:Int),tv,lv,corner] W fun e w'=>∃ v',e=.returned v'/\f9 .i64 3 W.heap.size w' v' (bi (m:Int) top left corner)/\ae [] W w'))
 have Vd:∀ m:Nat,(bi (m:Int) top left corner).length=n*n:=fun m=>by rw [dl,lt]
 have UL:=lh (fun m:Nat=>(by rw [Vd m];rcases F with rfl | rfl <;> omega:0<(bi (m:Int) top left corner).length));have M:=lh (fun (W:World) (o:ae [] w W) (m:Nat) (l1 l2:Nat) (v:Value) (hv:aj .i64 l1 l2 W v (bi (m:Int) top left corner))=>Fs (hb.quiet o) hv (by rw [Vd m,Y]) (by rcases F with rfl | rfl <;> omega) sb (kN st sl (by rcases F with rfl | rfl <;> omega) _ _));have HE:Hid (lR b top left corner=fF b top left corner ([0,1,2,3].drop 0) (0,-1)):=lh rfl;have Tm:=lh (fun (k:Nat) (h:k<4) (E:Nat) (D:Int)=>(by rw [sM h];rfl:fF b top left corner (([0,1,2,3]:List Nat).drop k) (E,D)=fF b top left corner (([0,1,2,3]:List Nat).drop (k+1)) (if D<0\/dF b (bi (k:Int) top left corner)<D then (k,dF b (bi (k:Int) top left corner)) else (E,D))));have Vi:Hid (∀ r,fF b top left corner (([0,1,2,3]:List Nat).drop 4) r=r):=lh (fun r=>rfl);have Zq:n*n=16\/n*n=64:=by rcases F with rfl | rfl <;> simp
 obtain ⟨a1,c1,rfl,-⟩:=hb.open;obtain ⟨a2,c2,rfl,-⟩:=V.open;obtain ⟨a3,c3,rfl,-⟩:=O.open;obtain ⟨m,hm⟩:∃ m,m=n*n:=⟨_,rfl⟩
 rw [<- hm] at Y Zq;have RX:((m:Int) != (n:Int)*(n:Int))=false:=by rw [hm];simp
 rw [Y] at I M;rw [lt,Z] at XH HF;rw [Y,lt,Z];obtain ⟨J,ZG⟩:=bu (lR b top left corner)
 rw [<- ZG] at HE QF;generalize hgo:fF b top left corner=go at *
 have hnw:IntKind.i64.wrap ((n:Int)*(n:Int))=(n:Int)*(n:Int):=by
  rcases F with rfl | rfl <;> decide
 clear hb V O Y lt Z sb st sl hc Vd ZG hgo F hm;go_enter func137,ntmps137;go_wp2_with fail;refine XH.mono ?_;rintro e w1 ⟨rfl,QI⟩;have QO:=lh QI;clear QI;go_wp2_with fail;refine (I.out w1 QO).mono ?_;rintro e w2 ⟨rfl,QN⟩;have QT:=lh (QO.q QN);clear QN I XH;go_wp2_with fail;go_loopw [12,13,40] (fun u v i wr=>∃ (k E:Nat) (D:Int),k<=4/\i=.int .i64 k/\u=.int .i64 E/\v=.int .i64 D/\Hid (go (([0,1,2,3]:List Nat).drop k) (E,D)=J)/\Hid (ae [] w wr)) (fun _ _ i _=>4-(intOf i).toNat)
 case atStart=>exact ⟨0,0,-1,Qa,rfl,rfl,rfl,lh HE.symm,QT⟩
 case round =>
  obtain ⟨k,E,D,hk,rfl,rfl,rfl,Tk,QP⟩:=hrel;by_cases QH:k<4
  ·have Rt:(k:Int)<4:=Qa
   have RA:(0:Int)<=(k:Int):=Qa;have SU:=lh (HF.out wr QP k Qa);have Xi:=lh (fun (W:World) (o:ae [] w W)=>M.out W o k);have HLk:=lh (UL.out k);have Vr:=lh (Tm.out k QH E D);generalize dF b (bi (k:Int) top left corner)=sd at *
   generalize bi (k:Int) top left corner=P at *
   go_wp2_with fail;refine SU.mono ?_;rintro e w3 ⟨v3,rfl,QL,QQ⟩;obtain ⟨g3,gc3,rfl,-,-⟩:=QL.form HLk;have Ui:=lh QL;have QW:=lh (QP.q QQ);clear QL QQ;go_wp2_with fail;refine (Xi.out w3 QW _ _ _ Ui.ints).mono ?_;rintro e w4 ⟨rfl,QY⟩;have Rh:=lh (QW.q QY);clear QY;by_cases XP:D<0
   ·have L:Hid (go (([0,1,2,3]:List Nat).drop (k+1)) (k,sd)=J):=lh (by rw [<- Tk.out,Vr.out,if_pos (Or.inl XP)])
    go_wp2_with fail;exact ⟨⟨k+1,k,sd,Qa,Qh,rfl,rfl,L,Rh⟩,Qf⟩
   ·by_cases N:sd<D
    ·have L:Hid (go (([0,1,2,3]:List Nat).drop (k+1)) (k,sd)=J):=lh (by rw [<- Tk.out,Vr.out,if_pos (Or.inr N)])
     go_wp2_with fail;exact ⟨⟨k+1,k,sd,Qa,Qh,rfl,rfl,L,Rh⟩,Qf⟩
    ·have L:Hid (go (([0,1,2,3]:List Nat).drop (k+1)) (E,D)=J):=lh (by rw [<- Tk.out,Vr.out,if_neg (fun h=>h.elim XP N)])
     go_wp2_with fail;exact ⟨⟨k+1,E,D,Qa,Qh,rfl,rfl,L,Rh⟩,Qf⟩
  ·obtain rfl:k=4:=Qa
   have Rt:¬ ((4:Nat):Int)<4:=Qa;have HB:Hid (J=(E,D)):=lh (by rw [<- Tk.out,Vi.out]);rw [HB.out] at QF;go_wp2_with fail;exact TV (v:=.tuple #[E,D,.nilIface]) (by simp [results,results137,go_sem]) rfl (QF.out _ _ ⟨rfl,QP.out⟩)
theorem Au {n q:Nat} (M:n=4\/n=8) {lo hi Wi Uq:Nat} {pv bv:Value} {f:ah} {b:List Int} {w:World} (J:FrOk f) (h:aj .i64 lo hi w pv f.pix) (hb:aj .i64 Wi Uq w bv b) (lb:b.length=n*n) (sb:ar b) (x y:Int) (hx:0<=x) (Ry:x+n<=f.W) (hy:0<=y) (RJ:y+n<=f.H) (hq:q<=15) :
  Calls prog 74 #[.agg #[f.W,f.H,pv],bv,x,y,n,q] w fun e w'=>∃ v',e=.returned (.tuple #[.int .i64 (aI f b x y n).1,.int .i64 (aI f b x y n).2,v'])/\f9 .i64 3 w.heap.size w' v' (fV f b x y n q)/\ae [] w w':=by
 refine aK fun Q QF=>?_
 have hE:=lh (fun (W:World) (o:ae [] w W)=>vR J (h.quiet o) x y n M hx Ry hy RJ);have tl:=cV f x y n;have ll:=ju f x y n;have ts:=jr J.sam x y n;have ls:=hZ J.sam x y n;have cs:=eZ J.sam (x-1) (y-1);have D:=lh (fun (W:World) (o:ae [] w W) (l1 h1 l2 h2:Nat) (N v2:Value) (Z:aj .i64 l1 h1 W N (dA f x y n)) (i2:aj .i64 l2 h2 W v2 (cd f x y n))=>GU M (hb.quiet o) Z i2 lb tl ll sb ts ls cs);have JAO:=js f b x y n;have Yb:=lh (fun (W:World) (l1 h1 l2 h2:Nat) (N v2:Value) (Z:aj .i64 l1 h1 W N (dA f x y n)) (i2:aj .i64 l2 h2 W v2 (cd f x y n))=>rE Z i2 Qa Qa ts ls cs (mode:=((aI f b x y n).1:Int)) Qa);have E:=iR J.sam x y (n:=n) (by rcases M with rfl | rfl <;> omega) (aI f b x y n).1;have Zk:=lh (fun (W:World) (o:ae [] w W) (l1 h1:Nat) (N:Value) (Z:aj .i64 l1 h1 W N (fO f x y n (aI f b x y n).1))=>oq M (hb.quiet o) Z lb E.1 sb E.2 q hq);have HA:Hid (lR b (dA f x y n) (cd f x y n) (aB f (x-1) (y-1))=aI f b x y n):=lh rfl;have HB:Hid (bi ((aI f b x y n).1:Int) (dA f x y n) (cd f x y n) (aB f (x-1) (y-1))=fO f x y n (aI f b x y n).1):=lh rfl;have HC:Hid (bB b (fO f x y n (aI f b x y n).1) q=fV f b x y n q):=lh rfl;rw [HA.out] at D;rw [HB.out] at Yb;rw [HC.out] at Zk;have F:Hid (0<(dA f x y n).length/\0<(cd f x y n).length/\0<(fO f x y n (aI f b x y n).1).length):=lh ⟨by rw [tl];omega,by rw [ll];omega,by rw [E.1];rcases M with rfl | rfl <;> omega⟩;obtain ⟨pa,pc,rfl,-⟩:=h.open;obtain ⟨qa,qc,rfl,-⟩:=hb.open;have O:=lh (ae.new w (sT f pa pc));have V:=lh (Sd w (sT f pa pc));generalize fO f x y n (aI f b x y n).1=P at *
 generalize fV f b x y n q=L at *
 generalize aI f b x y n=BA at *
 generalize dA f x y n=T at *
 generalize cd f x y n=LF at *
 generalize aB f (x-1) (y-1)=C at *
 obtain ⟨bm,bs⟩:=BA;simp only at QF D Yb JAO;obtain ⟨m,hm⟩:∃ m,m=n*n:=⟨_,rfl⟩
 rw [<- hm] at lb;rw [lb] at D Zk |-
 clear h hb J lb sb tl ll ts ls cs E M hm hx Ry hy RJ HA HB HC;obtain ⟨a0,a1,a2⟩:=ag V;go_enter func74,ntmps74;go_wp2_with fail;clear a0 a1 a2;generalize Rs:World.alloc w _=W1 at *
 clear Rs V;refine (hE.out W1 O).mono ?_;rintro e w2 ⟨N,v2,rfl,Rc,Sc,QN⟩;obtain ⟨g1,gc1,rfl,-,-⟩:=Rc.form F.1;obtain ⟨g2,gc2,rfl,-,-⟩:=Sc.form F.2.1;have SD:=lh Rc;have WI:=lh Sc;have QT:=lh (O.q QN);clear Rc Sc QN hE;go_wp2_with fail;refine (D.out w2 QT _ _ _ _ _ _ SD.ints WI.ints).mono ?_;rintro e w3 ⟨rfl,QQ⟩;have HI1:=lh (SD.quiet QQ);have HI2:=lh (WI.quiet QQ);have QW:=lh (QT.q QQ);clear QQ SD WI D;go_wp2_with fail;refine (Yb.out w3 _ _ _ _ _ _ HI1.ints HI2.ints).mono ?_;rintro e w4 ⟨v4,rfl,I,QY⟩;obtain ⟨g4,gc4,rfl,-,-⟩:=I.form F.2.2;have Yo:=lh I;have Rh:=lh (QW.q QY);clear I QY Yb;go_wp2_with fail;refine (Zk.out w4 Rh _ _ _ Yo.ints).mono ?_;rintro e w5 ⟨v5,rfl,Y,RF⟩;have UX:=lh Y;have Rk:=lh (Rh.q RF);have HZ:=lh Rh.size;clear Y RF Zk;go_wp2_with fail;exact TV (v:=.tuple #[bm,bs,v5]) (by simp [results,results74,go_sem]) rfl (QF.out _ _ ⟨v5,rfl,UX.lower HZ.out,Rk.out⟩)
end
theorem Fr {a b:List Int} (h:a.length<=64) (D:ar a) (E:ar b):0<=dF a b/\dF a b<=16320:=by
 have h1:=uq D E (max a.length b.length);rw [YN Qa,YN Qa] at h1;have F:=uq D E 64;have e:dF (a.take 64) (b.take 64)=dF a b:=by
  rw [YN h];unfold dF
  congr 1
  refine List.ext_getElem? (fun i=>?_);rw [List.getElem?_zipWith,List.getElem?_zipWith];by_cases hi:i<a.length
  ·rw [List.getElem?_take_of_lt Qa]
  ·rw [C3 Qa]
 rw [e] at F;omega
section
theorem wF (v:Int) (h:-15<=v/\v<=15) (w:World):Calls prog 135 #[v] w fun e w'=>e=.returned (.int .i64 (max v (-v)))/\w=w':=by
 obtain ⟨h0,h1⟩:=h;go_enter func135,ntmps135;go_wp2
 all_goals
  go_ret;exact ⟨ee Qa,rfl⟩
theorem qM {lo hi lo' hi':Nat} {u v:Value} {a b:List Int} {w:World} (ha:aj .i64 lo hi w u a) (hb:aj .i64 lo' hi' w v b) (la:a.length=64) (lb:b.length=64) (sa:ar a) (sb:ar b) (vx vy:Int) (F:-15<=vx/\vx<=15) (I:-15<=vy/\vy<=15) :
  Calls prog 73 #[u,v,.agg #[vx,vy]] w fun e w'=>e=.returned (.tuple #[.int .i64 (eA a b vx vy),.nilIface])/\ae [] w w':=by
 refine aK fun Q QF=>?_
 have HS:=lh (fun (W:World) (o:ae [] w W)=>Fs (ha.quiet o) (hb.quiet o) Qa Qa sa sb);obtain ⟨n0,n1⟩:=Fr (a:=a) (b:=b) Qa sa sb;have O:=lh (fun (W:World)=>uG vx vy W);rw [show (gM vx && gM vy)=true by simp [gM,F,I]] at O;have HX:=lh (wF vx F);have HY:=lh (wF vy I);have HC:Hid (eA a b vx vy=4*dF a b+max vx (-vx)+max vy (-vy)):=lh rfl;have mx:0<=max vx (-vx)/\max vx (-vx)<=15:=Qa;have my:0<=max vy (-vy)/\max vy (-vy)<=15:=Qa;have HR:=lh (Sd w (.cells #[vx,vy] 73));have HQ:=lh (ae.new w (.cells #[vx,vy] 73));obtain ⟨p,pc,rfl,-⟩:=ha.open;obtain ⟨q,qc,rfl,-⟩:=hb.open;rw [la,lb] at *
 generalize eA a b vx vy=CC at *
 generalize dF a b=n at *
 generalize hmx:max vx (-vx)=m1 at *
 generalize hmy:max vy (-vy)=m2 at *
 obtain ⟨mx0,mx1⟩:=mx;obtain ⟨my0,my1⟩:=my;clear ha hb la lb sa sb hmx hmy F I;go_enter func73,ntmps73;go_wp2_with fail;generalize World.alloc w _=W1 at *
 refine (HS.out W1 HQ).mono ?_;rintro e w2 ⟨rfl,V⟩;have QT:=lh (HQ.q V);have Z:=lh (V.row HR);clear V HR HS;obtain ⟨M,N,-⟩:=aL Z;go_wp2_with fail;refine (O.out w2).mono ?_;rintro e w3 ⟨rfl,Y⟩;have QW:=lh (QT.q Y);have Wk:=lh (Y.row Z);clear Y Z O M N;obtain ⟨M,N,-⟩:=aL Wk;have d0:=Wk.out;go_wp2_with fail;refine Tf (S:=(fun w'=>w'.cell? ⟨w.heap.size,0,none⟩=some (.int .i64 vx)/\w'.cell? ⟨w.heap.size,1,none⟩=some (.int .i64 vy))) Qc ?_ (fun hHeld=>?_)
 ·exact ⟨M,N⟩
 refine tk 0 25 ?_;refine tk 1 26 ?_;refine tk 2 27 ?_;refine tk 3 28 ?_;refine tk 6 31 ?_;refine tk 7 32 ?_;refine j6 4 29 fun K hK=>?_
 go_simp;refine (HX.out _).mono ?_;rintro e w4 ⟨rfl,J⟩;have D:ae [] w3 w4:=by rw [<- J];exact (AY).drew
 clear J;refine ko hK ⟨D.cell M Qb,D.cell N Qb⟩ fun hHeld=>?_;clear hK K
 refine tk 5 30 ?_;refine j6 8 33 fun K hK=>?_
 go_simp;refine (HY.out _).mono ?_;rintro e w5 ⟨rfl,L⟩;have E:ae [] w3 w5:=ea L D
 have SJ:=lh (QW.q E);clear L;refine ko hK ⟨E.cell M Qb,E.cell N Qb⟩ fun hHeld=>?_;clear hK K
 refine tk 9 34 ?_;refine tk 10 6 ?_;refine tk 11 7 ?_;refine Wn Qc ?_ _;go_wp2_with fail;refine QF.out _ _ ⟨?_,SJ.out⟩;rw [HC.out];have t1:IntKind.i64.wrap (4*n)=4*n:=Qe;have t2:IntKind.i64.wrap (4*n+m1)=4*n+m1:=Qe;have t3:IntKind.i64.wrap (4*n+m1+m2)=4*n+m1+m2:=Qe;simp [t1,t2,t3]
abbrev cI (K:Nat) (w:World) (f:ah) (pv bv:Value) (x y:Int) (s:lZ):Prop :=
 w.heap[K]?=some (.cells #[f.W,f.H,pv,bv,x,y,s.vx,s.vy,s.cost] 215)
theorem cI.cells {K:Nat} {w:World} {f:ah} {pv bv:Value} {x y:Int} {s:lZ} (h:cI K w f pv bv x y s) :
  w.cell? ⟨K,0,none⟩=some (.int .i64 f.W)/\w.cell? ⟨K,1,none⟩=some (.int .i64 f.H)/\w.cell? ⟨K,2,none⟩=some pv/\w.cell? ⟨K,3,none⟩=some bv/\w.cell? ⟨K,4,none⟩=some (.int .i64 x)/\w.cell? ⟨K,5,none⟩=some (.int .i64 y) /\
   w.cell? ⟨K,6,none⟩=some (.int .i64 s.vx)/\w.cell? ⟨K,7,none⟩=some (.int .i64 s.vy)/\w.cell? ⟨K,8,none⟩=some (.int .i64 s.cost):=by
 refine ⟨?_,?_,?_,?_,?_,?_,?_,?_,?_⟩ <;> (rw [RG h];rfl)
theorem cI.put {K:Nat} {w:World} {f:ah} {pv bv:Value} {x y:Int} {s:lZ} (h:cI K w f pv bv x y s) (vx vy c:Int) :
  cI K (((w.setCell ⟨K,6,none⟩ (.int .i64 vx)).setCell ⟨K,7,none⟩ (.int .i64 vy)).setCell ⟨K,8,none⟩ (.int .i64 c)) f pv bv x y ⟨vx,vy,c⟩/\ae [K] w (((w.setCell ⟨K,6,none⟩ (.int .i64 vx)).setCell ⟨K,7,none⟩ (.int .i64 vy)).setCell ⟨K,8,none⟩ (.int .i64 c)):=by
 have h1:=WG w K 6 _ _ (.int .i64 vx) h;have D:=WG _ K 7 _ _ (.int .i64 vy) h1;have E:=WG _ K 8 _ _ (.int .i64 c) D;exact ⟨E,(((AY).setCell Qb _).setCell Qb _).setCell Qb _⟩
theorem Kj {lo hi lo' hi' K:Nat} {pv bv:Value} {w:World} {f:ah} {b:List Int} {s:lZ} {x y:Int} (QM:FrOk f) (h:aj .i64 lo hi w pv f.pix) (hb:aj .i64 lo' hi' w bv b) (lb:b.length=64) (sb:ar b) (hx:0<=x/\x<=32) (hy:0<=y/\y<=32) (vx vy:Int) (J:-15<=vx/\vx<=15) (L:-15<=vy/\vy<=15) (hr:cI K w f pv bv x y s) :
  Calls prog 133 #[.pointer K,.agg #[vx,vy]] w fun e w'=>e=.returned (.tuple #[])/\cI K w' f pv bv x y (dQ f b x y s (vx,vy))/\ae [K] w w':=by
 refine aK fun Q QF=>?_
 have Z:=lh (fun (W:World) (o:ae [] w W)=>mN QM (h.quiet o) x y vx vy hx hy J L);have I:=aF f x y 8 vx vy;have O:=cR QM.sam x y 8 vx vy;have M:=lh (fun (W:World) (o:ae [] w W) (l1 l2:Nat) (v:Value) (hv:aj .i64 l1 l2 W v (aq f x y 8 vx vy))=>qM hv (hb.quiet o) (by rw [I]) lb O sb vx vy J L);have HT:Hid (dQ f b x y s (vx,vy)=if eA (aq f x y 8 vx vy) b vx vy<s.cost then ⟨vx,vy,eA (aq f x y 8 vx vy) b vx vy⟩ else s):=lh rfl;have UL:Hid ((aq f x y 8 vx vy).length=64):=lh (by rw [I]);obtain ⟨pa,pc,rfl,-⟩:=h.open;obtain ⟨qa,qc,rfl,-⟩:=hb.open;rw [lb] at hr M QF;have QI:=ae.new w (.cells #[vx,vy] 73);have HV:=lh (Sd w (.cells #[vx,vy] 73));have HR:=lh (QI.row hr);have QO:=lh QI;have hKl:K<w.heap.size:=(l8.1 hr).1;generalize dQ f b x y s (vx,vy)=s2 at *
 generalize eA (aq f x y 8 vx vy) b vx vy=CC at *
 generalize aq f x y 8 vx vy=P at *
 clear h hb lb sb QM hx hy J L hr QI I O;go_enter func133,ntmps133;go_wp2_with fail;generalize Rs:World.alloc w _=W1 at *
 have UN:Hid (K<W1.heap.size/\w.heap.size<W1.heap.size):=lh (by rw [<- Rs];simp;omega);clear Rs;obtain ⟨a0,a1,a2,a3,a4,a5,a6,a7,a8⟩:=(cI.cells HR)
 obtain ⟨V,Y,-⟩:=aL HV;refine Tf (S:=(fun w'=>w'.cell? ⟨K,0,none⟩=some (.int .i64 f.W)/\w'.cell? ⟨K,1,none⟩=some (.int .i64 f.H)/\w'.cell? ⟨K,2,none⟩=some (.slice pa f.pix.length pc)/\w'.cell? ⟨K,3,none⟩=some (.slice qa 64 qc)/\w'.cell? ⟨K,4,none⟩=some (.int .i64 x)/\w'.cell? ⟨K,5,none⟩=some (.int .i64 y)/\w'.cell? ⟨w.heap.size,0,none⟩=some (.int .i64 vx)/\w'.cell? ⟨w.heap.size,1,none⟩=some (.int .i64 vy))) Qc ?_ (fun hHeld=>?_)
 ·exact ⟨a0,a1,a2,a3,a4,a5,V,Y⟩
 refine tk 0 7 ?_;refine tk 1 8 ?_;refine tk 2 9 ?_;refine tk 3 10 ?_;refine tk 4 11 ?_;refine tk 5 12 ?_;refine tk 6 13 ?_;refine tk 7 14 ?_;refine tk 8 15 ?_;refine tk 9 16 ?_;refine tk 10 17 ?_;refine tk 11 18 ?_;refine tk 12 19 ?_;refine tk 14 21 ?_;refine tk 15 22 ?_;refine tk 16 23 ?_;refine tk 17 24 ?_;refine tk 18 25 ?_;refine j6 13 20 fun K hK=>?_
 go_simp;refine (Z.out _ QO.drew).mono ?_;rintro e w3 ⟨v3,rfl,TQ,QQ⟩;obtain ⟨g3,gc3,rfl,-,-⟩:=TQ.form (j0 UL.out);have D:=(ae.refl [] W1).drew.q QQ;have QW:=lh D;have Ui:=lh TQ;clear TQ QQ;refine ko hK ⟨(D).cell a0 Qb,(D).cell a1 Qb,(D).cell a2 Qb,(D).cell a3 Qb,(D).cell a4 Qb,(D).cell a5 Qb,(D).cell V Qb,(D).cell Y Qb⟩ fun hHeld=>?_;clear hK K
 refine j6 19 26 fun K hK=>?_
 go_simp;refine (M.out _ (QO.q QW) _ _ _ Ui.ints).mono ?_;rintro e w4 ⟨rfl,QY⟩;have E:=QW.q QY;have Rh:=lh E;clear QY;refine ko hK ⟨(E).cell a0 Qb,(E).cell a1 Qb,(E).cell a2 Qb,(E).cell a3 Qb,(E).cell a4 Qb,(E).cell a5 Qb,(E).cell V Qb,(E).cell Y Qb⟩ fun hHeld=>?_;clear hK K
 refine tk 20 6 ?_;refine tk 21 27 ?_;refine tk 22 28 ?_;refine tk 23 4 ?_;refine tk 24 5 ?_;refine Wn Qc ?_ _;have F:=lh (Rh.row HR);have HV4:=lh (Rh.row HV);have TL:=lh (QO.q Rh);clear a0 a1 a2 a3 a4 a5 a6 a7 a8 V Y D E;obtain ⟨-,-,-,-,-,-,a6,a7,a8⟩:=(cI.cells F)
 obtain ⟨V,Y,-⟩:=aL HV4;have f6:=Sz _ K 6 _ _ F;have f7:=Sz _ K 7 _ _ F;have f8:=Sz _ K 8 _ _ F;by_cases hc:CC<s.cost
 ·have Te:Hid (s2=⟨vx,vy,CC⟩):=lh (by rw [HT.out,if_pos hc])
  have N:=lh (cI.put F vx vy CC);have hKw:¬ K=w.heap.size:=Qa;have JIT:¬ w.heap.size=K:=Qa;go_wp2_with fail;refine y4 (y8 results133 _ _ _) rfl (QF.out _ _ ⟨rfl,?_,?_⟩)
  ·rw [Te.out];exact N.1
  ·exact (TL.mono (U:=[K]) Qb).trans N.2 (fun _ h _=>h) (fun _ h _=>h)
 ·have Te:Hid (s2=s):=lh (by rw [HT.out,if_neg hc])
  go_wp2_with fail;refine y4 (y8 results133 _ _ _) rfl (QF.out _ _ ⟨rfl,?_,TL.mono Qb⟩);rw [Te.out];exact F
end
theorem mV:∀ a b:List Int,0<=dF a b
 | [],b=>by simp [dF]
 | _ :: _,[]=>by simp [dF]
 | x :: a,y :: b=>by
  have:=mV a b;simp only [dF,C0,List.sum_cons] at this |-
  omega
theorem xI (a b:List Int) (vx vy:Int):0<=eA a b vx vy:=by
 have:=mV a b;unfold eA;omega
theorem vW {f:ah} {b:List Int} {x y:Int}:∀ (l:List (Int×Int)) (s:lZ),s.cost<=0->l.foldl (dQ f b x y) s=s
 | [],s,_=>rfl
 | v :: l,s,h=>by
  have e:dQ f b x y s v=s:=if_neg (j0 (xI (aq f x y 8 v.1 v.2) b v.1 v.2));rw [List.foldl_cons,e];exact vW l s h
def cS (r k n:Nat):List (Int×Int):=((List.range k).flatMap fun j:Nat=>(List.range (2*r+1)).map fun i:Nat=>(2*((i:Int)-r),2*((j:Int)-r))) ++ (List.range n).map fun i:Nat=>(2*((i:Int)-r),2*((k:Int)-r))
theorem lr (r k n:Nat):cS r k (n+1)=cS r k n ++ [(2*((n:Int)-r),2*((k:Int)-r))]:=by
 unfold cS;rw [Zh (n:=n),PN,PM]
 rfl
theorem jU (r k:Nat):cS r k (2*r+1)=cS r (k+1) 0:=by
 unfold cS;rw [Zh (n:=k),B5];simp
theorem mK (r:Nat):cS r (2*r+1) 0=pJ r:=by
 unfold cS pJ;simp
theorem wa (r k:Nat) {n m:Nat} (h:n<=m):∃ t,cS r k m=cS r k n ++ t:=by
 induction m with
 | zero =>
  obtain rfl:n=0:=Qa;exact ⟨[],Qb⟩
 | succ m ih =>
  rcases (by omega:n=m+1\/n<=m) with rfl | h
  ·exact ⟨[],Qb⟩
  ·obtain ⟨t,e⟩:=ih h
   exact ⟨t ++ [(2*((m:Int)-r),2*((k:Int)-r))],by rw [lr,e,PM]⟩
theorem Gq (r:Nat) {k K:Nat} (h:k<=K):∃ t,cS r K 0=cS r k 0 ++ t:=by
 induction K with
 | zero =>
  obtain rfl:k=0:=Qa;exact ⟨[],Qb⟩
 | succ K ih =>
  rcases (by omega:k=K+1\/k<=K) with rfl | h
  ·exact ⟨[],Qb⟩
  ·obtain ⟨t,e⟩:=ih h
   obtain ⟨u,g⟩:=wa r K (PX (2*r+1));exact ⟨t ++ u,by rw [<- jU,g,e,PM]⟩
theorem zL {r k n:Nat} (E:k<2*r+1) (D:n<=2*r+1):∃ t,pJ r=cS r k n ++ t:=by
 obtain ⟨t,e⟩:=wa r k D;obtain ⟨u,g⟩:=Gq r (k:=k+1) (K:=2*r+1) Qa;exact ⟨t ++ u,by rw [<- mK,g,<- jU,e,PM]⟩
def df (vx vy:Int) (k n:Nat):List (Int×Int):=(((List.range k).flatMap fun j:Nat=>(List.range 3).map fun i:Nat=>(vx+((i:Int)-1),vy+((j:Int)-1))) ++ (List.range n).map fun i:Nat=>(vx+((i:Int)-1),vy+((k:Int)-1))).filter mh
theorem rz (vx vy:Int) (k n:Nat) (h:mh (vx+((n:Int)-1),vy+((k:Int)-1))=true):df vx vy k (n+1)=df vx vy k n ++ [(vx+((n:Int)-1),vy+((k:Int)-1))]:=by
 unfold df;rw [Zh (n:=n),PN,<- PM,List.filter_append];simp [h]
theorem tP (vx vy:Int) (k n:Nat) (h:mh (vx+((n:Int)-1),vy+((k:Int)-1))=false):df vx vy k (n+1)=df vx vy k n:=by
 unfold df;rw [Zh (n:=n),PN,<- PM,List.filter_append];simp [h]
theorem ry (vx vy:Int) (k:Nat):df vx vy k 3=df vx vy (k+1) 0:=by
 unfold df;rw [Zh (n:=k),B5];simp
theorem ru (vx vy:Int):df vx vy 3 0=wG vx vy:=by
 unfold df wG;simp
theorem Ev {f:ah} {b:List Int} {x y:Int} (l:List (Int×Int)) (s:lZ) (h:∀ v∈l,-15<=v.1/\v.1<=15/\-15<=v.2/\v.2<=15) (g:mv s):mv (l.foldl (dQ f b x y) s) :=
 nZ (P:=fun a c=>-15<=a/\a<=15/\-15<=c/\c<=15) l s h g
theorem MG (a b:Int):mh (a,b)=(gM a && gM b):=by
 unfold mh gM;rw [m9];simp;omega
section
theorem Av {lo hi lo' hi' r:Nat} {pv bv:Value} {w:World} {f:ah} {b:List Int} (O:FrOk f) (h:aj .i64 lo hi w pv f.pix) (hb:aj .i64 lo' hi' w bv b) (lb:b.length=64) (sb:ar b) (x y:Int) (hx:0<=x/\x+8<=f.W) (hy:0<=y/\y+8<=f.H) (hr:r<=7) (hhi:hi<=w.heap.size) (JdY:hi'<=w.heap.size) :
  Calls prog 72 #[.agg #[f.W,f.H,pv],bv,x,y,r] w fun e w'=>(e=.returned (.tuple #[.agg #[.int .i64 (aY f b x y r).vx,.int .i64 (aY f b x y r).vy],.nilIface])/\ae [] w w'):=by
 refine aK fun Q QF=>?_
 have JsJ:=lh (fun (W:World) (E:Nat) (vx vy:Int) (s:lZ) (o:aj .i64 lo hi W pv f.pix) (o2:aj .i64 lo' hi' W bv b) (hvx:-15<=vx/\vx<=15) (hvy:-15<=vy/\vy<=15) hr=>Kj (K:=E) (s:=s) O o o2 lb sb (x:=x) (y:=y) (j0 O.w1) (j0 O.h1) vx vy hvx hvy hr);have HSq:=lh (fun (W:World) (o:ae [] w W)=>mN O (h.quiet o) x y 0 0 (j0 O.w1) (j0 O.h1) Qa Qa);have UL:Hid ((aq f x y 8 0 0).length=64):=lh (by rw [aF]);have HCo:=lh (fun (W:World) (o:ae [] w W) (l1 l2:Nat) (v:Value) (hv:aj .i64 l1 l2 W v (aq f x y 8 0 0))=>qM hv (hb.quiet o) UL lb (cR O.sam x y 8 0 0) sb 0 0 Qa Qa);have HM:=lh (fun (W:World) (o:ae [] w W)=>by have:=jN f.W f.H (h.quiet o);rw [show cT ⟨f.W,f.H,f.pix⟩=true from dp.2 O] at this;exact this);have Tg:=lh (fun (W:World)=>by have:=EH f.W f.H x y 8 pv W ⟨O.w0,O.w1⟩ ⟨O.h0,O.h1⟩ Qa;rw [show io f.W f.H x y 8=true by unfold io;simp;omega] at this;exact this);have HSa:=lh (fun (W:World) (o:ae [] w W)=>by have:=iX (hb.quiet o) Qa;rw [show aO b 0 255=true by unfold aO;simpa using fun z hz=>sb z hz] at this;exact this);have HP:=lh h;have HB:=lh hb;have HE:Hid (aY f b x y r=(wG (jh f b x y r).vx (jh f b x y r).vy).foldl (dQ f b x y) (jh f b x y r)):=lh rfl;have H1:Hid (jh f b x y r=(pJ r).foldl (dQ f b x y) (oA f b x y)):=lh rfl;have Jgp:Hid (mv (jh f b x y r)):=lh (by
  rw [H1.out];refine Ev _ _ (fun v hv=>?_) (by simp [oA,mv]);unfold pJ at hv;obtain ⟨j,hj,hv⟩:=List.mem_flatMap.1 hv;obtain ⟨i,hi,rfl⟩:=x8.1 hv;rw [PY] at hi hj;simp only;omega)
 have H0:Hid (oA f b x y=⟨0,0,eA (aq f x y 8 0 0) b 0 0⟩):=lh rfl;obtain ⟨I,J,rfl,-⟩:=h.open;obtain ⟨Z,qc,rfl,-⟩:=hb.open;rw [lb] at *
 obtain ⟨S0,Un⟩:=bu (oA f b x y)
 obtain ⟨D,Wx⟩:=bu (jh f b x y r)
 obtain ⟨S2,hS2⟩:=bu (aY f b x y r)
 rw [<- Un] at H0 H1;rw [<- Wx] at H1 Jgp HE;rw [<- hS2] at HE QF;have r0:(0:Int)<=(r:Int):=Qa;have r1:(r:Int)<=7:=Qa;have QN:ae [] w ((w.alloc (sT f I J)).alloc (.cells #[(),()] 73)):=(ae.new w _).alloc _;have Rg:Hid (((w.alloc (sT f I J)).alloc (.cells #[(),()] 73)).heap[w.heap.size]?=some (.cells (sT f I J) 24)):=lh ((ae.new (w.alloc _) _).row (Sd w _));have SQ:Hid (((w.alloc (sT f I J)).alloc (.cells #[(),()] 73)).heap[w.heap.size+1]?=some (.cells #[(),()] 73)):=ak Qb;have Xs:Hid (w.heap.size+1<((w.alloc (sT f I J)).alloc (.cells #[(),()] 73)).heap.size):=lh Qb;have QT:=lh QN;have HHi:=lh (VL hhi JdY);clear h hb lb sb O hx hy hhi JdY Un Wx hS2 QN hr;obtain ⟨a0,a1,a2⟩:=ag Rg;go_enter func72,ntmps72;go_wp2_with fail
 go_step3
 go_wp2_with fail;generalize VZ:World.alloc (World.alloc w _) _=W2 at *
 clear VZ a0 a1 a2;refine (HM.out W2 QT).mono ?_;rintro e w3 ⟨rfl,QQ⟩;obtain ⟨a0,a1,a2⟩:=ag (QQ.row Rg);have QW:=lh QQ;clear QQ HM;go_wp2_with fail;refine (Tg.out w3).mono ?_;rintro e w4 ⟨rfl,QY⟩;have Rh:=lh (QW.q QY);clear QY Tg a0 a1 a2;go_wp2_with fail;refine (HSa.out w4 (QT.q Rh)).mono ?_;rintro e w5 ⟨rfl,RF⟩;have Rk:=lh (Rh.q RF);clear RF HSa;obtain ⟨a0,a1,a2⟩:=ag (Rk.row Rg);have HK0:=lh (Sd w5 (.cells #[f.W,f.H,.slice I f.pix.length J,.slice Z 64 qc,x,y,(),(),()] 215));have L:=lh (ae.new w5 (.cells #[f.W,f.H,.slice I f.pix.length J,.slice Z 64 qc,x,y,(),(),()] 215));go_wp2_with fail;generalize hW6:World.alloc w5 _=W6 at *
 have VN:Hid (W2.heap.size<=w5.heap.size/\w5.heap.size<W6.heap.size):=lh ⟨Rk.size,by rw [<- hW6];simp⟩;have SJ:=lh (Rk.q L);clear hW6 a0 a1 a2 L;generalize w5.heap.size=E at *
 obtain ⟨a0,a1,a2⟩:=ag (SJ.row Rg);obtain ⟨-,-,-,-,-,-,k6,k7,k8⟩:=(cI.cells (s:=⟨0,0,0⟩) HK0)
 simp only at k6 k7 k8;refine Tf (S:=(fun w'=>w'.cell? ⟨w.heap.size,0,none⟩=some (.int .i64 f.W)/\w'.cell? ⟨w.heap.size,1,none⟩=some (.int .i64 f.H)/\w'.cell? ⟨w.heap.size,2,none⟩=some (.slice I f.pix.length J)/\w'.cell? ⟨E,6,none⟩=some (.int .i64 0)/\w'.cell? ⟨E,7,none⟩=some (.int .i64 0))) Qc ?_ (fun hHeld=>?_)
 ·exact ⟨a0,a1,a2,k6,k7⟩
 refine tk 0 60 ?_;refine tk 1 61 ?_;refine tk 2 62 ?_;refine tk 3 63 ?_;refine tk 4 64 ?_;refine tk 5 65 ?_;refine tk 6 66 ?_;refine tk 7 67 ?_;refine tk 9 69 ?_;refine tk 10 70 ?_;refine tk 11 71 ?_;refine tk 12 72 ?_;refine tk 13 73 ?_;refine j6 8 68 fun K hK=>?_
 go_simp;refine (HSq.out _ (QT.q SJ).drew).mono ?_;rintro e w7 ⟨v7,rfl,Ue,TZ⟩;obtain ⟨g7,gc7,rfl,-,-⟩:=Ue.form (j0 UL.out);have M:=(ae.refl [] W6).drew.q TZ;have WS:=lh M;have Uj:=lh Ue;clear Ue TZ;refine ko hK ⟨(M).cell a0 Qb,(M).cell a1 Qb,(M).cell a2 Qb,(M).cell k6 Qb,(M).cell k7 Qb⟩ fun hHeld=>?_;clear hK K
 refine j6 14 74 fun K hK=>?_
 go_simp;refine (HCo.out _ ((QT.q SJ).q WS) _ _ _ Uj.ints).mono ?_;rintro e w8 ⟨rfl,Vn⟩;have F:=WS.q Vn;have VS:=lh F;clear Vn;have HR8:Hid (cI E w8 f (.slice I f.pix.length J) (.slice Z 64 qc) x y ⟨0,0,0⟩):=F.row HK0;have cx8:=(cI.cells HR8).2.2.2.2.2.2.2.2;have fx8:=Sz _ E 8 _ _ HR8;have Zz:=lh (show cI E (w8.setCell ⟨E,8,none⟩ (.int .i64 (eA (aq f x y 8 0 0) b 0 0))) f (.slice I f.pix.length J) (.slice Z 64 qc) x y ⟨0,0,eA (aq f x y 8 0 0) b 0 0⟩/\ae [E] w8 (w8.setCell ⟨E,8,none⟩ (.int .i64 (eA (aq f x y 8 0 0) b 0 0))) from ⟨WG w8 E 8 _ _ _ HR8,(AY).setCell Qb _⟩);have r9a:=(cI.cells Zz.1).2.2.2.2.2.2.1;have r9b:=(cI.cells Zz.1).2.2.2.2.2.2.2.1;have hKw:w.heap.size∉[E]:=by have:=VN.out;have:=Xs.out;simp only [i5];omega
 have e0:=Zz.2.cell (F.cell a0 Qb) hKw;have e1:=Zz.2.cell (F.cell a1 Qb) hKw;have e2:=Zz.2.cell (F.cell a2 Qb) hKw;refine ko hK ⟨(F).cell a0 Qb,(F).cell a1 Qb,(F).cell a2 Qb,(F).cell k6 Qb,(F).cell k7 Qb⟩ fun hHeld=>?_;clear hK K
 refine tk 15 59 ?_;refine tk 16 75 ?_;refine tk 17 76 ?_;refine tk 18 77 ?_;refine tk 19 78 ?_;refine j9 20 fun K hK=>?_
 go_simp;refine ko hK ⟨e0,e1,e2,r9a,r9b⟩ fun hHeld=>?_;clear hK K
 refine Wn Qc ?_ _;go_wp2_with fail
 go_step3
 go_upto_block 1 with (fail)
 have HS0:Hid (cI E _ f (.slice I f.pix.length J) (.slice Z 64 qc) x y S0):=lh (by rw [H0.out];exact Zz.1);have SP:Hid (ae [E] W6 (w8.setCell ⟨E,8,none⟩ (.int .i64 (eA (aq f x y 8 0 0) b 0 0)))):=lh ((VS.mono (U:=[E]) Qb).trans Zz.2 (fun _ h _=>h) (fun _ h _=>h));clear a0 a1 a2 k6 k7 k8 cx8 fx8 Zz e0 e1 e2 r9a r9b HSq HCo HK0 HR8 VS WS Uj M F UL H0;generalize World.setCell w8 _ _=W9 at *
 have HP9:Hid (∀ wx,ae [E] W9 wx->aj .i64 lo hi wx (.slice I f.pix.length J) f.pix/\aj .i64 lo' hi' wx (.slice Z 64 qc) b):=lh (fun wx o=>by have z1:=VN.out;have z2:=Xs.out;have z3:=HHi.out;have o1:=SP.trans o (U:=[E]) (fun _ h _=>h) (fun _ h _=>h);exact ⟨((HP.quiet QT).quiet SJ).only o1 (fun g hg=>Qd),((HB.quiet QT).quiet SJ).only o1 (fun g hg=>Qd)⟩);clear HP HB;go_cut [] (fun wx=>Hid (cI E wx f (.slice I f.pix.length J) (.slice Z 64 qc) x y D)/\Hid (ae [E] W9 wx))
 case first =>
  go_wp2_with fail;go_loopw [13,14] (fun a _ wr=>∃ k:Nat,k<=2*r+1/\a=.int .i64 ((k:Int)-r)/\Hid (cI E wr f (.slice I f.pix.length J) (.slice Z 64 qc) x y ((cS r k 0).foldl (dQ f b x y) S0))/\Hid (ae [E] W9 wr)) (fun a _ _=>((r:Int)+1-intOf a).toNat)
  case atStart=>exact ⟨0,Qa,Qh,HS0,lh (AY)⟩
  case round =>
   obtain ⟨k,hk,rfl,Xi,QP⟩:=hrel;by_cases QH:k<2*r+1
   ·have Rt:(k:Int)-r<=r:=Qa
    go_wp2_with fail;go_loopw [14] (fun a wr=>∃ n:Nat,n<=2*r+1/\a=.int .i64 ((n:Int)-r)/\Hid (cI E wr f (.slice I f.pix.length J) (.slice Z 64 qc) x y ((cS r k n).foldl (dQ f b x y) S0))/\Hid (ae [E] W9 wr)) (fun a _=>((r:Int)+1-intOf a).toNat)
    case atStart=>exact ⟨0,Qa,Qh,Xi,QP⟩
    case round =>
     obtain ⟨n,hn,rfl,VT,L⟩:=hrel;by_cases Jcy:n<2*r+1
     ·have hni:(n:Int)-r<=r:=Qa
      have Sy:Hid ((cS r k (n+1)).foldl (dQ f b x y) S0=dQ f b x y ((cS r k n).foldl (dQ f b x y) S0) (2*((n:Int)-r),2*((k:Int)-r))):=lh (by rw [lr,A4];rfl);have JlJ:Hid (((cS r k n).foldl (dQ f b x y) S0).cost=0->D=(cS r k n).foldl (dQ f b x y) S0):=lh (fun hz=>by obtain ⟨t,e⟩:=zL QH hn;rw [H1.out,e,A4];exact vW t _ Qa);generalize (cS r k n).foldl (dQ f b x y) S0=s at *
      have c8:=(cI.cells VT).2.2.2.2.2.2.2.2;by_cases hz:s.cost=0
      ·have Su:=lh (JlJ.out hz)
       rw [hz] at c8;go_wp2_with fail;go_meet;exact ⟨by rw [Su.out];exact VT,L⟩
      ·have HT:=lh (JsJ.out wr E (2*((n:Int)-r)) (2*((k:Int)-r)) s (HP9.out wr L).1 (HP9.out wr L).2 Qa Qa VT)
       have m1:IntKind.i64.wrap (2*((n:Int)-r))=2*((n:Int)-r):=Qe;have m2:IntKind.i64.wrap (2*((k:Int)-r))=2*((k:Int)-r):=Qe;clear JlJ;go_wp2_with fail;refine HT.mono ?_;rintro e wt ⟨rfl,hrt,hqt⟩;have HRt:=lh hrt;have HQt:=lh (L.trans hqt (U:=[E]) (fun _ h _=>h) (fun _ h _=>h));clear hrt hqt c8;go_wp2_with fail;exact ⟨⟨n+1,Qa,Qh,by rw [Sy.out];exact HRt,HQt⟩,Qf⟩
     ·obtain rfl:n=2*r+1:=Qa
      have hni:¬ (((2*r+1:Nat):Int)-r)<=r:=Qa;have VV:=lh (jU r k);rw [VV.out] at VT;go_wp2_with fail;exact ⟨⟨k+1,Qa,Qh,VT,L⟩,Qf⟩
   ·obtain rfl:k=2*r+1:=Qa
    have Rt:¬ (((2*r+1:Nat):Int)-r)<=r:=Qa;have ZC:=lh (mK r);rw [ZC.out,<- H1.out] at Xi;go_wp2_with fail;go_meet;exact ⟨Xi,QP⟩
 case rest =>
  obtain ⟨Su,Sr⟩:=hcut;obtain ⟨Xj,JaR⟩:=bu wc
  subst JaR;clear HS0 H1;obtain ⟨-,-,-,-,-,-,k6,k7,k8⟩:=(cI.cells Su)
  obtain ⟨o1,o2,o3,o4⟩:=Jgp.out;have HVr:Hid ((Xj.alloc (.cells #[D.vx,D.vy] 73)).heap[Xj.heap.size]?=some (.cells #[D.vx,D.vy] 73)):=LD;have JFb:w.heap.size+1<Xj.heap.size:=by have:=Xs.out;have:=VN.out;have:=SP.size;have:=Sr.size;omega
  have TS:Hid (ae [] w (Xj.alloc (.cells #[D.vx,D.vy] 73))):=lh ((QT.q SJ).trans ((SP.trans Sr (U:=[E]) (fun _ h _=>h) (fun _ h _=>h)).alloc _) (U:=[]) Qb (fun g hg QH=>by rw [i5] at hg;have:=Xs.out;have:=VN.out;omega));have Jdv:Hid ((Xj.alloc (.cells #[D.vx,D.vy] 73)).heap[w.heap.size+1]?=some (.cells #[(),()] 73)):=lh ((SJ.q (ae.refl [] _)).trans ((SP.trans Sr (U:=[E]) (fun _ h _=>h) (fun _ h _=>h)).alloc _) (U:=[E]) Qb (fun _ h _=>h) |>.rowAt SQ (by have:=Xs.out;have:=VN.out;simp only [i5];omega));have Jzc:Hid (cI E (Xj.alloc (.cells #[D.vx,D.vy] 73)) f (.slice I f.pix.length J) (.slice Z 64 qc) x y D):=lh ((ae.new Xj _).rowAt Su Qb);have Jfe:Hid (∀ wx,ae [E] (Xj.alloc (.cells #[D.vx,D.vy] 73)) wx->aj .i64 lo hi wx (.slice I f.pix.length J) f.pix/\aj .i64 lo' hi' wx (.slice Z 64 qc) b):=lh (fun wx o=>HP9.out wx ((Sr.alloc _).trans o (U:=[E]) (fun _ h _=>h) (fun _ h _=>h)));have HVS:Hid (Xj.heap.size∉[E]/\w.heap.size+1∉[E]):=lh (by have:=Xs.out;have:=VN.out;have:=SP.size;have:=Sr.size;simp only [i5];omega);go_wp2_with fail;clear k6 k7 k8 HP9 Su SP Sr;generalize JoH:World.alloc Xj _=W11 at *
  clear JoH;generalize Xj.heap.size=V at *
  go_loopw [16,17,18] (fun a _ _ wr=>∃ k:Nat,k<=3/\a=.int .i64 ((k:Int)-1)/\Hid (cI E wr f (.slice I f.pix.length J) (.slice Z 64 qc) x y ((df D.vx D.vy k 0).foldl (dQ f b x y) D))/\Hid (ae [E] W11 wr)) (fun a _ _ _=>((2:Int)-intOf a).toNat)
  case atStart=>exact ⟨0,Qa,Qh,Jzc,lh (AY)⟩
  case round =>
   obtain ⟨k,hk,rfl,Xi,QP⟩:=hrel;by_cases QH:k<3
   ·have Rt:(k:Int)-1<=1:=Qa
    go_wp2_with fail;go_loopw [17,18] (fun a _ wr=>∃ n:Nat,n<=3/\a=.int .i64 ((n:Int)-1)/\Hid (cI E wr f (.slice I f.pix.length J) (.slice Z 64 qc) x y ((df D.vx D.vy k n).foldl (dQ f b x y) D))/\Hid (ae [E] W11 wr)) (fun a _ _=>((2:Int)-intOf a).toNat)
    case atStart=>exact ⟨0,Qa,Qh,Xi,QP⟩
    case round =>
     obtain ⟨n,hn,rfl,VT,L⟩:=hrel;by_cases Jcy:n<3
     ·have hni:(n:Int)-1<=1:=Qa
      obtain ⟨v0,v1,-⟩:=aL (L.rowAt HVr HVS.1);obtain ⟨X,hX⟩:=bu (D.vx+((n:Int)-1))
      obtain ⟨Y,hY⟩:=bu (D.vy+((k:Int)-1))
      have m1:IntKind.i64.wrap (D.vx+((n:Int)-1))=X:=Qe;have m2:IntKind.i64.wrap (D.vy+((k:Int)-1))=Y:=Qe;have JaP:=lh (fun h=>by rw [rz D.vx D.vy k n h,A4];rfl:mh (D.vx+((n:Int)-1),D.vy+((k:Int)-1))=true->(df D.vx D.vy k (n+1)).foldl (dQ f b x y) D=dQ f b x y ((df D.vx D.vy k n).foldl (dQ f b x y) D) (D.vx+((n:Int)-1),D.vy+((k:Int)-1)));have Hno:=lh (fun h=>tP D.vx D.vy k n h);rw [<- hX,<- hY] at JaP Hno;have Hm:=lh (MG X Y);have HXY:Hid (mh (X,Y)=true->(-15<=X/\X<=15)/\(-15<=Y/\Y<=15)):=lh (fun h=>by unfold mh at h;simp only [t8,r9] at h;omega);have HVX:=lh (fun W=>uG X Y W);rw [<- Hm.out] at HVX;have HRv:=lh (Sd wr (.cells #[X,Y] 73));have HQv:=lh (ae.new wr (.cells #[X,Y] 73));clear hX hY Hm;generalize hs:(df D.vx D.vy k n).foldl (dQ f b x y) D=s at *
      have Hs:=lh hs;clear hs;go_wp2_with fail;clear v0 v1 m1 m2;generalize hWv:World.alloc wr _=Wv at *
      clear hWv;generalize wr.heap.size=G at *
      obtain ⟨v0,v1,-⟩:=aL HRv
      skip
      go_wp2_with fail;refine (HVX.out Wv).mono ?_;rintro e wm ⟨rfl,hqm⟩;obtain ⟨v2,v3,-⟩:=aL (hqm.row HRv);have N:=lh (HQv.q hqm);clear hqm v0 v1 HVX;cases hm:mh (X,Y) with
      | true =>
       have HT:=lh (JsJ.out wm E X Y s (Jfe.out wm (L.trans N (U:=[E]) (fun _ h _=>h) Qb)).1 (Jfe.out wm (L.trans N (U:=[E]) (fun _ h _=>h) Qb)).2 (HXY.out hm).1 (HXY.out hm).2 (N.row VT));have Sy:=lh (JaP.out hm);clear hm JaP Hno HXY;go_wp2_with fail;refine HT.mono ?_;rintro e wt ⟨rfl,hrt,hqt⟩;have HRt:=lh hrt;have HQt:=lh ((L.trans N (U:=[E]) (fun _ h _=>h) Qb).trans hqt (U:=[E]) (fun _ h _=>h) (fun _ h _=>h));clear hrt hqt v2 v3;go_wp2_with fail;exact ⟨⟨n+1,Qa,Qh,by rw [Sy.out];exact HRt,HQt⟩,Qf⟩
      | false =>
       have Sy:Hid ((df D.vx D.vy k (n+1)).foldl (dQ f b x y) D=s):=lh (by rw [Hno.out hm];exact Hs);clear hm JaP Hno HXY;go_wp2_with fail;exact ⟨⟨n+1,Qa,Qh,by rw [Sy.out];exact lh (N.row VT),lh (L.trans N (U:=[E]) (fun _ h _=>h) Qb)⟩,Qf⟩
     ·obtain rfl:n=3:=Qa
      have hni:¬ (((3:Nat):Int)-1)<=1:=Qa;have VV:=lh (ry D.vx D.vy k);rw [VV.out] at VT;go_wp2_with fail;exact ⟨⟨k+1,Qa,Qh,VT,L⟩,Qf⟩
   ·obtain rfl:k=3:=Qa
    have Rt:¬ (((3:Nat):Int)-1)<=1:=Qa;have ZC:=lh (ru D.vx D.vy);rw [ZC.out,<- HE.out] at Xi;obtain ⟨-,-,-,-,-,-,k6,k7,k8⟩:=(cI.cells Xi)
    have HTr:=lh (QP.rowAt Jdv HVS.2);obtain ⟨v0,v1,y0,y1,-⟩:=aL HTr;obtain ⟨QK,QV⟩:=aJ (x:=.int .i64 S2.vx) (y:=.int .i64 S2.vy) HTr;have SA:=lh QK;have Sx:=lh QV;clear QK QV;go_wp2_with fail
    try rw [Exit.noGoto_ret]
    refine TV (v:=.tuple #[.agg #[S2.vx,S2.vy],.nilIface]) (cw results72 _ _ (w.heap.size+1) _ _ _ _ _ rfl rfl SA underlying73 rfl Qc) rfl (QF.out _ _ ⟨rfl,?_⟩);exact (TS.trans QP (U:=[]) Qb (fun g hg QH=>by rw [i5] at hg;have:=Xs.out;have:=VN.out;omega)).trans Sx (U:=[]) Qb (fun g hg QH=>Qd)
end
end Go.Proofs.YthcafdfdglfabaaGreatDoor
