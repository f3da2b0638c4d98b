/- Joined texts: EBest, EMot, ESea. Conditions: each part names its own. -/
import Derived.Test.YthcafdfdglfabaaGreatDoorW5
import Derived.Test.YthcafdfdglfabaaGreatDoorA2
import Derived.Deep.CutBlock
namespace Go.Proofs.YthcafdfdglfabaaGreatDoor
open Go.RowKit
set_option linter.unusedVariables false
set_option linter.unusedSimpArgs false
set_option maxRecDepth 100000
set_option maxHeartbeats 16000000
theorem qL {k:Nat} (h:k<4):([0,1,2,3]:List Nat).drop k=k :: ([0,1,2,3]:List Nat).drop (k+1):=by
 match k,h with
 | 0,_=>rfl
 | 1,_=>rfl
 | 2,_=>rfl
 | 3,_=>rfl
section
theorem DN {n:Nat} (hn:n=4\/n=8) {lo hi lo' hi' TQ RK:Nat} {bv tv lv:Value} {b top left:List Int} {w:World} (hb:ah .i64 TQ RK w bv b) (ht:ah .i64 lo hi w tv top) (hl:ah .i64 lo' hi' w lv left) (lb:b.length=n*n) (lt:top.length=n) (ll:left.length=n) (sb:au b) (st:au top) (sl:au left) {corner:Int} (hc:0<=corner/\corner<=255) :
  Calls Tryz.prog 137 #[bv,tv,lv,corner] w fun e w'=>e=.returned (.tuple #[.int .i64 (ku b top left corner).1,.int .i64 (ku b top left corner).2,.nilIface])/\ae [] w w':=by
 refine aN fun Q MM=>?_
 have HCk:=lh (rh ht hl Mf Mf st sl hc);have HSm:=lh (fun (W:World) (o:ae [] w W)=>by have:=hZ (hb.quiet o) (by rcases hn with rfl | rfl <;> omega);rw [show aX b 0 255=true by unfold aX;simpa using fun z hz=>sb z hz] at this;exact this);have HF:=lh (fun (W:World) (o:ae [] w W) (m:Nat) (hm:m<=3)=>(by
  rcases hn with rfl | rfl
  ·exact mK (ht.quiet o) (hl.quiet o) lt ll st sl hc (mode:=(m:Int)) Mf
  ·exact mL (ht.quiet o) (hl.quiet o) lt ll st sl hc (mode:=(m:Int)) Mf:Calls Tryz.prog 193 #[.int .i64 (m:Int),tv,lv,corner] W fun e w'=>∃ v',e=.returned v'/\Own .i64 3 W.heap.size w' v' (bj (m:Int) top left corner)/\ae [] W w'))
 have SH:∀ m:Nat,(bj (m:Int) top left corner).length=n*n:=fun m=>by rw [cS,lt]
 have QK:=lh (fun m:Nat=>(by rw [SH m];rcases hn with rfl | rfl <;> omega:0<(bj (m:Int) top left corner).length));have JcX:=lh (fun (W:World) (o:ae [] w W) (m:Nat) (l1 l2:Nat) (v:Value) (hv:ah .i64 l1 l2 W v (bj (m:Int) top left corner))=>Cy (hb.quiet o) hv (by rw [SH m,lb]) (by rcases hn with rfl | rfl <;> omega) sb (jH st sl (by rcases hn with rfl | rfl <;> omega) _ _));have HE:Hid (ku b top left corner=eK b top left corner ([0,1,2,3].drop 0) (0,-1)):=lh rfl;have Pt:=lh (fun (k:Nat) (h:k<4) (bm:Nat) (ls:Int)=>(by rw [qL h];rfl:eK b top left corner (([0,1,2,3]:List Nat).drop k) (bm,ls)=eK b top left corner (([0,1,2,3]:List Nat).drop (k+1)) (if ls<0\/dl b (bj (k:Int) top left corner)<ls then (k,dl b (bj (k:Int) top left corner)) else (bm,ls))));have Rh:Hid (∀ r,eK b top left corner (([0,1,2,3]:List Nat).drop 4) r=r):=lh (fun r=>rfl);have Vs:n*n=16\/n*n=64:=by rcases hn with rfl | rfl <;> simp
 obtain ⟨a1,c1,rfl,-⟩:=hb.open;obtain ⟨a2,c2,rfl,-⟩:=ht.open;obtain ⟨a3,c3,rfl,-⟩:=hl.open;obtain ⟨m,hm⟩:∃ m,m=n*n:=⟨_,rfl⟩
 rw [<- hm] at lb Vs;have OT:((m:Int) != (n:Int)*(n:Int))=false:=by rw [hm];simp
 rw [lb] at HSm JcX;rw [lt,ll] at HCk HF;rw [lb,lt,ll];obtain ⟨BE,XB⟩:∃ z,z=ku b top left corner:=⟨_,rfl⟩
 rw [<- XB] at HE MM;generalize hgo:eK b top left corner=go at *
 have hnw:IntKind.i64.wrap ((n:Int)*(n:Int))=(n:Int)*(n:Int):=by
  rcases hn with rfl | rfl <;> decide
 clear hb ht hl lb lt ll sb st sl hc SH XB hgo hn hm;go_enter Tryz.func137,Tryz.ntmps137;go_wp2_with fail;go_at_call 192;refine HCk.mono ?_;rintro e w1 ⟨rfl,MP⟩;have MT:=lh MP;clear MP;go_wp2_with fail;go_at_call 124;refine (HSm.out w1 MT).mono ?_;rintro e w2 ⟨rfl,MV⟩;have Na:=lh (MT.q MV);clear MV HSm HCk;go_wp2_with fail;go_loopw [12,13,40] (fun u v i wr=>∃ (k bm:Nat) (ls:Int),k<=4/\i=.int .i64 k/\u=.int .i64 bm/\v=.int .i64 ls/\Hid (go (([0,1,2,3]:List Nat).drop k) (bm,ls)=BE)/\Hid (ae [] w wr)) (fun _ _ i _=>4-(intOf i).toNat)
 case atStart=>exact ⟨0,0,-1,Mf,rfl,rfl,rfl,lh HE.symm,Na⟩
 case round =>
  obtain ⟨k,bm,ls,hk,rfl,rfl,rfl,Pn,MW⟩:=hrel;by_cases MO:k<4
  ·have Ny:(k:Int)<4:=Mf
   have NU:(0:Int)<=(k:Int):=Mf;have OO:=lh (HF.out wr MW k Mf);have RV:=lh (fun (W:World) (o:ae [] w W)=>JcX.out W o k);have HLk:=lh (QK.out k);have Rq:=lh (Pt.out k MO bm ls);generalize dl b (bj (k:Int) top left corner)=sd at *
   generalize bj (k:Int) top left corner=P at *
   go_wp2_with fail;go_at_call 193;refine OO.mono ?_;rintro e w3 ⟨v3,rfl,MQ,Nb⟩;obtain ⟨g3,gc3,rfl,-,-⟩:=MQ.form HLk;have Ql:=lh MQ;have Nf:=lh (MW.q Nb);clear MQ Nb;go_wp2_with fail;go_at_call 134;refine (RV.out w3 Nf _ _ _ Ql.ints).mono ?_;rintro e w4 ⟨rfl,Ng⟩;have NI:=lh (Nf.q Ng);clear Ng;by_cases TY:ls<0
   ·have Hn:Hid (go (([0,1,2,3]:List Nat).drop (k+1)) (k,sd)=BE):=lh (by rw [<- Pn.out,Rq.out,if_pos (Or.inl TY)])
    go_wp2_with fail;exact ⟨⟨k+1,k,sd,Mf,Mm,rfl,rfl,Hn,NI⟩,Mk⟩
   ·by_cases Zm:sd<ls
    ·have Hn:Hid (go (([0,1,2,3]:List Nat).drop (k+1)) (k,sd)=BE):=lh (by rw [<- Pn.out,Rq.out,if_pos (Or.inr Zm)])
     go_wp2_with fail;exact ⟨⟨k+1,k,sd,Mf,Mm,rfl,rfl,Hn,NI⟩,Mk⟩
    ·have Hn:Hid (go (([0,1,2,3]:List Nat).drop (k+1)) (bm,ls)=BE):=lh (by rw [<- Pn.out,Rq.out,if_neg (fun h=>h.elim TY Zm)])
     go_wp2_with fail;exact ⟨⟨k+1,bm,ls,Mf,Mm,rfl,rfl,Hn,NI⟩,Mk⟩
  ·obtain rfl:k=4:=Mf
   have Ny:¬ ((4:Nat):Int)<4:=Mf;have HB:Hid (BE=(bm,ls)):=lh (by rw [<- Pn.out,Rh.out]);rw [HB.out] at MM;go_wp2_with fail;exact bodyPost_ret (v:=.tuple #[bm,ls,.nilIface]) (by simp [results,Tryz.results137,go_sem]) rfl (MM.out _ _ ⟨rfl,MW.out⟩)
theorem xH {n q:Nat} (hn:n=4\/n=8) {lo hi TQ RK:Nat} {pv bv:Value} {f:ai} {b:List Int} {w:World} (MU:FrOk f) (h:ah .i64 lo hi w pv f.pix) (hb:ah .i64 TQ RK w bv b) (lb:b.length=n*n) (sb:au b) (x y:Int) (hx:0<=x) (NA:x+n<=f.W) (hy:0<=y) (NM:y+n<=f.H) (hq:q<=15) :
  Calls Tryz.prog 74 #[.agg #[f.W,f.H,pv],bv,x,y,n,q] w fun e w'=>∃ v',e=.returned (.tuple #[.int .i64 (aG f b x y n).1,.int .i64 (aG f b x y n).2,v'])/\Own .i64 3 w.heap.size w' v' (fp f b x y n q)/\ae [] w w':=by
 refine aN fun Q MM=>?_
 have hE:=lh (fun (W:World) (o:ae [] w W)=>tA MU (h.quiet o) x y n hn hx NA hy NM);have tl:=cH f x y n;have ll:=iA f x y n;have ts:=ix MU.sam x y n;have ls:=fX MU.sam x y n;have cs:=eo MU.sam (x-1) (y-1);have HBs:=lh (fun (W:World) (o:ae [] w W) (l1 h1 l2 h2:Nat) (v1 v2:Value) (i1:ah .i64 l1 h1 W v1 (cZ f x y n)) (i2:ah .i64 l2 h2 W v2 (bU f x y n))=>DN hn (hb.quiet o) i1 i2 lb tl ll sb ts ls cs);have Jua:=iy f b x y n;have Ug:=lh (fun (W:World) (l1 h1 l2 h2:Nat) (v1 v2:Value) (i1:ah .i64 l1 h1 W v1 (cZ f x y n)) (i2:ah .i64 l2 h2 W v2 (bU f x y n))=>pQ i1 i2 Mf Mf ts ls cs (mode:=((aG f b x y n).1:Int)) Mf);have hpo:=gW MU.sam x y (n:=n) (by rcases hn with rfl | rfl <;> omega) (aG f b x y n).1;have Vm:=lh (fun (W:World) (o:ae [] w W) (l1 h1:Nat) (v1:Value) (i1:ah .i64 l1 h1 W v1 (eR f x y n (aG f b x y n).1))=>mH hn (hb.quiet o) i1 lb hpo.1 sb hpo.2 q hq);have HA:Hid (ku b (cZ f x y n) (bU f x y n) (aB f (x-1) (y-1))=aG f b x y n):=lh rfl;have HB:Hid (bj ((aG f b x y n).1:Int) (cZ f x y n) (bU f x y n) (aB f (x-1) (y-1))=eR f x y n (aG f b x y n).1):=lh rfl;have HC:Hid (bA b (eR f x y n (aG f b x y n).1) q=fp f b x y n q):=lh rfl;rw [HA.out] at HBs;rw [HB.out] at Ug;rw [HC.out] at Vm;have HTl:Hid (0<(cZ f x y n).length/\0<(bU f x y n).length/\0<(eR f x y n (aG f b x y n).1).length):=lh ⟨by rw [tl];omega,by rw [ll];omega,by rw [hpo.1];rcases hn with rfl | rfl <;> omega⟩;obtain ⟨pa,pc,rfl,-⟩:=h.open;obtain ⟨qa,qc,rfl,-⟩:=hb.open;have WR:=lh (ae.new w (.cells #[f.W,f.H,.slice pa f.pix.length pc] 24));have Yl:=lh (heap_alloc_new w (.cells #[f.W,f.H,.slice pa f.pix.length pc] 24));generalize eR f x y n (aG f b x y n).1=P at *
 generalize fp f b x y n q=L at *
 generalize aG f b x y n=BA at *
 generalize cZ f x y n=T at *
 generalize bU f x y n=LF at *
 generalize aB f (x-1) (y-1)=C at *
 obtain ⟨bm,bs⟩:=BA;simp only at MM HBs Ug Jua;obtain ⟨m,hm⟩:∃ m,m=n*n:=⟨_,rfl⟩
 rw [<- hm] at lb;rw [lb] at HBs Vm |-
 clear h hb MU lb sb tl ll ts ls cs hpo hn hm hx NA hy NM HA HB HC;obtain ⟨a0,a1,a2⟩:=ag Yl;go_enter Tryz.func74,Tryz.ntmps74;go_wp2_with fail;clear a0 a1 a2;generalize NB:World.alloc w _=W1 at *
 clear NB Yl;go_at_call 136;refine (hE.out W1 WR).mono ?_;rintro e w2 ⟨v1,v2,rfl,Nu,OU,MV⟩;obtain ⟨g1,gc1,rfl,-,-⟩:=Nu.form HTl.1;obtain ⟨g2,gc2,rfl,-,-⟩:=OU.form HTl.2.1;have Oy:=lh Nu;have Sb:=lh OU;have Na:=lh (WR.q MV);clear Nu OU MV hE;go_wp2_with fail;go_at_call 137;refine (HBs.out w2 Na _ _ _ _ _ _ Oy.ints Sb.ints).mono ?_;rintro e w3 ⟨rfl,Nb⟩;have HI1:=lh (Oy.quiet Nb);have HI2:=lh (Sb.quiet Nb);have Nf:=lh (Na.q Nb);clear Nb Oy Sb HBs;go_wp2_with fail;go_at_call 138;refine (Ug.out w3 _ _ _ _ _ _ HI1.ints HI2.ints).mono ?_;rintro e w4 ⟨v4,rfl,ho4,Ng⟩;obtain ⟨g4,gc4,rfl,-,-⟩:=ho4.form HTl.2.2;have XZ:=lh ho4;have NI:=lh (Nf.q Ng);clear ho4 Ng Ug;go_wp2_with fail;go_at_call 70;refine (Vm.out w4 NI _ _ _ XZ.ints).mono ?_;rintro e w5 ⟨v5,rfl,ho5,NF⟩;have Sx:=lh ho5;have Nz:=lh (NI.q NF);have HZ:=lh NI.size;clear ho5 NF Vm;go_wp2_with fail;exact bodyPost_ret (v:=.tuple #[bm,bs,v5]) (by simp [results,Tryz.results74,go_sem]) rfl (MM.out _ _ ⟨v5,rfl,Sx.lower HZ.out,Nz.out⟩)
end
theorem Cx {a b:List Int} (h:a.length<=64) (sa:au a) (sb:au b):0<=dl a b/\dl a b<=16320:=by
 have h1:=rX sa sb (max a.length b.length);rw [List.take_of_length_le Mf,List.take_of_length_le Mf] at h1;have h2:=rX sa sb 64;have e:dl (a.take 64) (b.take 64)=dl a b:=by
  rw [List.take_of_length_le h];unfold dl
  congr 1
  refine List.ext_getElem? (fun i=>?_);rw [List.getElem?_zipWith,List.getElem?_zipWith];by_cases hi:i<a.length
  ·rw [List.getElem?_take_of_lt Mf]
  ·rw [List.getElem?_eq_none Mf]
 rw [e] at h2;omega
section
theorem tX (v:Int) (h:-15<=v/\v<=15) (w:World):Calls Tryz.prog 135 #[v] w fun e w'=>e=.returned (.int .i64 (max v (-v)))/\w=w':=by
 obtain ⟨h0,h1⟩:=h;go_enter Tryz.func135,Tryz.ntmps135;go_wp2
 all_goals
  go_ret;exact ⟨dN Mf,rfl⟩
theorem oZ {lo hi lo' hi':Nat} {u v:Value} {a b:List Int} {w:World} (ha:ah .i64 lo hi w u a) (hb:ah .i64 lo' hi' w v b) (la:a.length=64) (lb:b.length=64) (sa:au a) (sb:au b) (vx vy:Int) (WG:-15<=vx/\vx<=15) (WH:-15<=vy/\vy<=15) :
  Calls Tryz.prog 73 #[u,v,.agg #[vx,vy]] w fun e w'=>e=.returned (.tuple #[.int .i64 (dX a b vx vy),.nilIface])/\ae [] w w':=by
 refine aN fun Q MM=>?_
 have HS:=lh (fun (W:World) (o:ae [] w W)=>Cy (ha.quiet o) (hb.quiet o) Mf Mf sa sb);obtain ⟨n0,n1⟩:=Cx (a:=a) (b:=b) Mf sa sb;have HV:=lh (fun (W:World)=>sA vx vy W);rw [show (fJ vx && fJ vy)=true by simp [fJ,WG,WH]] at HV;have HX:=lh (tX vx WG);have HY:=lh (tX vy WH);have HC:Hid (dX a b vx vy=4*dl a b+max vx (-vx)+max vy (-vy)):=lh rfl;have mx:0<=max vx (-vx)/\max vx (-vx)<=15:=Mf;have my:0<=max vy (-vy)/\max vy (-vy)<=15:=Mf;have HR:=lh (heap_alloc_new w (.cells #[vx,vy] 73));have HQ:=lh (ae.new w (.cells #[vx,vy] 73));obtain ⟨p,pc,rfl,-⟩:=ha.open;obtain ⟨q,qc,rfl,-⟩:=hb.open;rw [la,lb] at *
 generalize dX a b vx vy=CC at *
 generalize dl a b=n at *
 generalize hmx:max vx (-vx)=m1 at *
 generalize hmy:max vy (-vy)=m2 at *
 obtain ⟨mx0,mx1⟩:=mx;obtain ⟨my0,my1⟩:=my;clear ha hb la lb sa sb hmx hmy WG WH;go_enter Tryz.func73,Tryz.ntmps73;go_wp2_with fail;generalize World.alloc w _=W1 at *
 go_at_call 134;refine (HS.out W1 HQ).mono ?_;rintro e w2 ⟨rfl,MV⟩;have Na:=lh (HQ.q MV);have Px:=lh (MV.row HR);clear MV HR HS;obtain ⟨u0,u1,-⟩:=aJ Px;go_wp2_with fail;go_at_call 130;refine (HV.out w2).mono ?_;rintro e w3 ⟨rfl,Nb⟩;have Nf:=lh (Na.q Nb);have SJ:=lh (Nb.row Px);clear Nb Px HV u0 u1;obtain ⟨u0,u1,-⟩:=aJ SJ;have d0:=SJ.out;go_wp2_with fail;refine wp_region_held_drew (S:=(fun w'=>w'.cell? ⟨w.heap.size,0,none⟩=some (.int .i64 vx)/\w'.cell? ⟨w.heap.size,1,none⟩=some (.int .i64 vy))) Mh ?_ (fun hHeld=>?_)
 ·exact ⟨u0,u1⟩
 refine tk 0 25 ?_;refine tk 1 26 ?_;refine tk 2 27 ?_;refine tk 3 28 ?_;refine tk 6 31 ?_;refine tk 7 32 ?_;refine rdy (rdc 4 29 (fun K hK=>?_) .nil);go_simp;go_at_call 135;refine (HX.out _).mono ?_;rintro e w4 ⟨rfl,hw4⟩;have hd4:ae [] w3 w4:=by rw [<- hw4];exact (ae.refl _ _).drew
 clear hw4;refine hK.out _ _ ?_ (fun hHeld=>?_)
 ·exact ⟨hd4.cell u0 Mg,hd4.cell u1 Mg⟩
 clear hK K
 try simp only [Act.put,Lg,Lj,Lk]
 refine tk 5 30 ?_;refine rdy (rdc 8 33 (fun K hK=>?_) .nil);go_simp;go_at_call 135;refine (HY.out _).mono ?_;rintro e w5 ⟨rfl,hw5⟩;have YF:ae [] w3 w5:=by rw [<- hw5];exact hd4
 have OI:=lh (Nf.q YF);clear hw5;refine hK.out _ _ ?_ (fun hHeld=>?_)
 ·exact ⟨YF.cell u0 Mg,YF.cell u1 Mg⟩
 clear hK K
 try simp only [Act.put,Lg,Lj,Lk]
 refine tk 9 34 ?_;refine tk 10 6 ?_;refine tk 11 7 ?_;refine wpAnyH_done Mh ?_ _;go_wp2_with fail;refine MM.out _ _ ⟨?_,OI.out⟩;rw [HC.out];have t1:IntKind.i64.wrap (4*n)=4*n:=Mi;have t2:IntKind.i64.wrap (4*n+m1)=4*n+m1:=Mi;have t3:IntKind.i64.wrap (4*n+m1+m2)=4*n+m1+m2:=Mi;simp [t1,t2,t3]
abbrev cy (K:Nat) (w:World) (f:ai) (pv bv:Value) (x y:Int) (s:kD):Prop :=
 w.heap[K]?=some (.cells #[f.W,f.H,pv,bv,x,y,s.vx,s.vy,s.cost] 215 (0,0))
theorem cy.cells {K:Nat} {w:World} {f:ai} {pv bv:Value} {x y:Int} {s:kD} (h:cy K w f pv bv x y s) :
  w.cell? ⟨K,0,none⟩=some (.int .i64 f.W)/\w.cell? ⟨K,1,none⟩=some (.int .i64 f.H)/\w.cell? ⟨K,2,none⟩=some pv/\w.cell? ⟨K,3,none⟩=some bv/\w.cell? ⟨K,4,none⟩=some (.int .i64 x)/\w.cell? ⟨K,5,none⟩=some (.int .i64 y) /\
   w.cell? ⟨K,6,none⟩=some (.int .i64 s.vx)/\w.cell? ⟨K,7,none⟩=some (.int .i64 s.vy)/\w.cell? ⟨K,8,none⟩=some (.int .i64 s.cost):=by
 refine ⟨?_,?_,?_,?_,?_,?_,?_,?_,?_⟩ <;> (rw [cell_of_row _ _ _ _ _ _ h];rfl)
theorem cy.put {K:Nat} {w:World} {f:ai} {pv bv:Value} {x y:Int} {s:kD} (h:cy K w f pv bv x y s) (vx vy c:Int) :
  cy K (((w.setCell ⟨K,6,none⟩ (.int .i64 vx)).setCell ⟨K,7,none⟩ (.int .i64 vy)).setCell ⟨K,8,none⟩ (.int .i64 c)) f pv bv x y ⟨vx,vy,c⟩/\ae [K] w (((w.setCell ⟨K,6,none⟩ (.int .i64 vx)).setCell ⟨K,7,none⟩ (.int .i64 vy)).setCell ⟨K,8,none⟩ (.int .i64 c)):=by
 have h1:=heap_setCell_same w K 6 _ _ (.int .i64 vx) h;have h2:=heap_setCell_same _ K 7 _ _ (.int .i64 vy) h1;have h3:=heap_setCell_same _ K 8 _ _ (.int .i64 c) h2;exact ⟨h3,(((ae.refl _ _).setCell Mg _).setCell Mg _).setCell Mg _⟩
theorem Gb {lo hi lo' hi' K:Nat} {pv bv:Value} {w:World} {f:ai} {b:List Int} {s:kD} {x y:Int} (MU:FrOk f) (h:ah .i64 lo hi w pv f.pix) (hb:ah .i64 lo' hi' w bv b) (lb:b.length=64) (sb:au b) (hx:0<=x/\x<=32) (hy:0<=y/\y<=32) (vx vy:Int) (WG:-15<=vx/\vx<=15) (WH:-15<=vy/\vy<=15) (hr:cy K w f pv bv x y s) :
  Calls Tryz.prog 133 #[.pointer (some ⟨K,0,none⟩),.agg #[vx,vy]] w fun e w'=>e=.returned (.tuple #[])/\cy K w' f pv bv x y (dA f b x y s (vx,vy))/\ae [K] w w':=by
 refine aN fun Q MM=>?_
 have Yq:=lh (fun (W:World) (o:ae [] w W)=>kU MU (h.quiet o) x y vx vy hx hy WG WH);have hPl:=aD f x y 8 vx vy;have hPs:=cD MU.sam x y 8 vx vy;have HCo:=lh (fun (W:World) (o:ae [] w W) (l1 l2:Nat) (v:Value) (hv:ah .i64 l1 l2 W v (ar f x y 8 vx vy))=>oZ hv (hb.quiet o) (by rw [hPl]) lb hPs sb vx vy WG WH);have HT:Hid (dA f b x y s (vx,vy)=if dX (ar f x y 8 vx vy) b vx vy<s.cost then ⟨vx,vy,dX (ar f x y 8 vx vy) b vx vy⟩ else s):=lh rfl;have QK:Hid ((ar f x y 8 vx vy).length=64):=lh (by rw [hPl]);obtain ⟨pa,pc,rfl,-⟩:=h.open;obtain ⟨qa,qc,rfl,-⟩:=hb.open;rw [lb] at hr HCo MM;have MP:=ae.new w (.cells #[vx,vy] 73);have HV:=lh (heap_alloc_new w (.cells #[vx,vy] 73));have HR:=lh (MP.row hr);have MT:=lh MP;have Ry:K<w.heap.size:=(Array.getElem?_eq_some_iff.1 hr).1;generalize dA f b x y s (vx,vy)=s2 at *
 generalize dX (ar f x y 8 vx vy) b vx vy=CC at *
 generalize ar f x y 8 vx vy=P at *
 clear h hb lb sb MU hx hy WG WH hr MP hPl hPs;go_enter Tryz.func133,Tryz.ntmps133;go_wp2_with fail;generalize NB:World.alloc w _=W1 at *
 have Sh:Hid (K<W1.heap.size/\w.heap.size<W1.heap.size):=lh (by rw [<- NB];simp;omega);clear NB;obtain ⟨a0,a1,a2,a3,a4,a5,a6,a7,a8⟩:=(cy.cells HR)
 obtain ⟨v0,v1,-⟩:=aJ HV;refine wp_region_held_drew (S:=(fun w'=>w'.cell? ⟨K,0,none⟩=some (.int .i64 f.W)/\w'.cell? ⟨K,1,none⟩=some (.int .i64 f.H)/\w'.cell? ⟨K,2,none⟩=some (.slice pa f.pix.length pc)/\w'.cell? ⟨K,3,none⟩=some (.slice qa 64 qc)/\w'.cell? ⟨K,4,none⟩=some (.int .i64 x)/\w'.cell? ⟨K,5,none⟩=some (.int .i64 y)/\w'.cell? ⟨w.heap.size,0,none⟩=some (.int .i64 vx)/\w'.cell? ⟨w.heap.size,1,none⟩=some (.int .i64 vy))) Mh ?_ (fun hHeld=>?_)
 ·exact ⟨a0,a1,a2,a3,a4,a5,v0,v1⟩
 refine tk 0 7 ?_;refine tk 1 8 ?_;refine tk 2 9 ?_;refine tk 3 10 ?_;refine tk 4 11 ?_;refine tk 5 12 ?_;refine tk 6 13 ?_;refine tk 7 14 ?_;refine tk 8 15 ?_;refine tk 9 16 ?_;refine tk 10 17 ?_;refine tk 11 18 ?_;refine tk 12 19 ?_;refine tk 14 21 ?_;refine tk 15 22 ?_;refine tk 16 23 ?_;refine tk 17 24 ?_;refine tk 18 25 ?_;refine rdy (rdc 13 20 (fun K hK=>?_) .nil);go_simp;go_at_call 131;refine (Yq.out _ MT.drew).mono ?_;rintro e w3 ⟨v3,rfl,Re,Nb⟩;obtain ⟨g3,gc3,rfl,-,-⟩:=Re.form (by have:=QK.out;omega);have hd3:=(ae.refl [] W1).drew.q Nb;have Nf:=lh hd3;have Ql:=lh Re;clear Re Nb;refine hK.out _ _ ?_ (fun hHeld=>?_)
 ·exact ⟨(hd3).cell a0 Mg,(hd3).cell a1 Mg,(hd3).cell a2 Mg,(hd3).cell a3 Mg,(hd3).cell a4 Mg,(hd3).cell a5 Mg,(hd3).cell v0 Mg,(hd3).cell v1 Mg⟩
 clear hK K
 try simp only [Act.put,Lg,Lj,Lk]
 refine rdy (rdc 19 26 (fun K hK=>?_) .nil);go_simp;go_at_call 73;refine (HCo.out _ (MT.q Nf) _ _ _ Ql.ints).mono ?_;rintro e w4 ⟨rfl,Ng⟩;have hd4:=Nf.q Ng;have NI:=lh hd4;clear Ng;refine hK.out _ _ ?_ (fun hHeld=>?_)
 ·exact ⟨(hd4).cell a0 Mg,(hd4).cell a1 Mg,(hd4).cell a2 Mg,(hd4).cell a3 Mg,(hd4).cell a4 Mg,(hd4).cell a5 Mg,(hd4).cell v0 Mg,(hd4).cell v1 Mg⟩
 clear hK K
 try simp only [Act.put,Lg,Lj,Lk]
 refine tk 20 6 ?_;refine tk 21 27 ?_;refine tk 22 28 ?_;refine tk 23 4 ?_;refine tk 24 5 ?_;refine wpAnyH_done Mh ?_ _;have HR4:=lh (NI.row HR);have HV4:=lh (NI.row HV);have RU:=lh (MT.q NI);clear a0 a1 a2 a3 a4 a5 a6 a7 a8 v0 v1 hd3 hd4;obtain ⟨-,-,-,-,-,-,a6,a7,a8⟩:=(cy.cells HR4)
 obtain ⟨v0,v1,-⟩:=aJ HV4;have f6:=frozen_of_row _ K 6 _ _ HR4;have f7:=frozen_of_row _ K 7 _ _ HR4;have f8:=frozen_of_row _ K 8 _ _ HR4;by_cases hc:CC<s.cost
 ·have OH:Hid (s2=⟨vx,vy,CC⟩):=lh (by rw [HT.out,if_pos hc])
  have JmT:=lh (cy.put HR4 vx vy CC);have hKw:¬ K=w.heap.size:=Mf;have JAZ:¬ w.heap.size=K:=Mf;go_wp2_with fail;refine bodyPost_end (results_none Tryz.results133 _ _ _) rfl (MM.out _ _ ⟨rfl,?_,?_⟩)
  ·rw [OH.out];exact JmT.1
  ·exact (RU.mono (U:=[K]) Mg).trans JmT.2 (fun _ h _=>h) (fun _ h _=>h)
 ·have OH:Hid (s2=s):=lh (by rw [HT.out,if_neg hc])
  go_wp2_with fail;refine bodyPost_end (results_none Tryz.results133 _ _ _) rfl (MM.out _ _ ⟨rfl,?_,RU.mono Mg⟩);rw [OH.out];exact HR4
end
theorem ld:∀ a b:List Int,0<=dl a b
 | [],b=>by simp [dl]
 | _ :: _,[]=>by simp [dl]
 | x :: a,y :: b=>by
  have:=ld a b;simp only [dl,List.zipWith_cons_cons,List.sum_cons] at this |-
  omega
theorem uT (a b:List Int) (vx vy:Int):0<=dX a b vx vy:=by
 have:=ld a b;unfold dX;omega
theorem tG {f:ai} {b:List Int} {x y:Int}:∀ (l:List (Int×Int)) (s:kD),s.cost<=0->l.foldl (dA f b x y) s=s
 | [],s,_=>rfl
 | v :: l,s,h=>by
  have e:dA f b x y s v=s:=if_neg (by have:=uT (ar f x y 8 v.1 v.2) b v.1 v.2;omega);rw [List.foldl_cons,e];exact tG l s h
def cE (r k n:Nat):List (Int×Int):=((List.range k).flatMap fun j:Nat=>(List.range (2*r+1)).map fun i:Nat=>(2*((i:Int)-r),2*((j:Int)-r))) ++ (List.range n).map fun i:Nat=>(2*((i:Int)-r),2*((k:Int)-r))
theorem jX (r k n:Nat):cE r k (n+1)=cE r k n ++ [(2*((n:Int)-r),2*((k:Int)-r))]:=by
 unfold cE;rw [List.range_succ (n:=n),LS,LR]
 rfl
theorem iZ (r k:Nat):cE r k (2*r+1)=cE r (k+1) 0:=by
 unfold cE;rw [List.range_succ (n:=k),List.flatMap_append];simp
theorem kQ (r:Nat):cE r (2*r+1) 0=nU r:=by
 unfold cE nU;simp
theorem tK (r k:Nat) {n m:Nat} (h:n<=m):∃ t,cE r k m=cE r k n ++ t:=by
 induction m with
 | zero =>
  obtain rfl:n=0:=Mf;exact ⟨[],Mg⟩
 | succ m ih =>
  rcases (by omega:n=m+1\/n<=m) with rfl | h
  ·exact ⟨[],Mg⟩
  ·obtain ⟨t,e⟩:=ih h
   exact ⟨t ++ [(2*((m:Int)-r),2*((k:Int)-r))],by rw [jX,e,LR]⟩
theorem Dn (r:Nat) {k K:Nat} (h:k<=K):∃ t,cE r K 0=cE r k 0 ++ t:=by
 induction K with
 | zero =>
  obtain rfl:k=0:=Mf;exact ⟨[],Mg⟩
 | succ K ih =>
  rcases (by omega:k=K+1\/k<=K) with rfl | h
  ·exact ⟨[],Mg⟩
  ·obtain ⟨t,e⟩:=ih h
   obtain ⟨u,g⟩:=tK r K (Mc (2*r+1));exact ⟨t ++ u,by rw [<- iZ,g,e,LR]⟩
theorem wV {r k n:Nat} (hk:k<2*r+1) (hn:n<=2*r+1):∃ t,nU r=cE r k n ++ t:=by
 obtain ⟨t,e⟩:=tK r k hn;obtain ⟨u,g⟩:=Dn r (k:=k+1) (K:=2*r+1) Mf;exact ⟨t ++ u,by rw [<- kQ,g,<- iZ,e,LR]⟩
def cM (vx vy:Int) (k n:Nat):List (Int×Int):=(((List.range k).flatMap fun j:Nat=>(List.range 3).map fun i:Nat=>(vx+((i:Int)-1),vy+((j:Int)-1))) ++ (List.range n).map fun i:Nat=>(vx+((i:Int)-1),vy+((k:Int)-1))).filter kF
theorem pN (vx vy:Int) (k n:Nat) (h:kF (vx+((n:Int)-1),vy+((k:Int)-1))=true):cM vx vy k (n+1)=cM vx vy k n ++ [(vx+((n:Int)-1),vy+((k:Int)-1))]:=by
 unfold cM;rw [List.range_succ (n:=n),LS,<- LR,List.filter_append];simp [h]
theorem rE (vx vy:Int) (k n:Nat) (h:kF (vx+((n:Int)-1),vy+((k:Int)-1))=false):cM vx vy k (n+1)=cM vx vy k n:=by
 unfold cM;rw [List.range_succ (n:=n),LS,<- LR,List.filter_append];simp [h]
theorem pM (vx vy:Int) (k:Nat):cM vx vy k 3=cM vx vy (k+1) 0:=by
 unfold cM;rw [List.range_succ (n:=k),List.flatMap_append];simp
theorem pL (vx vy:Int):cM vx vy 3 0=tY vx vy:=by
 unfold cM tY;simp
theorem Bl {f:ai} {b:List Int} {x y:Int} (l:List (Int×Int)) (s:kD) (h:∀ v∈l,-15<=v.1/\v.1<=15/\-15<=v.2/\v.2<=15) (g:kL s):kL (l.foldl (dA f b x y) s) :=
 mv (P:=fun a c=>-15<=a/\a<=15/\-15<=c/\c<=15) l s h g
theorem Jm (a b:Int):kF (a,b)=(fJ a && fJ b):=by
 unfold kF fJ;rw [Bool.eq_iff_iff];simp;omega
section
theorem xI {lo hi lo' hi' r:Nat} {pv bv:Value} {w:World} {f:ai} {b:List Int} (MU:FrOk f) (h:ah .i64 lo hi w pv f.pix) (hb:ah .i64 lo' hi' w bv b) (lb:b.length=64) (sb:au b) (x y:Int) (hx:0<=x/\x+8<=f.W) (hy:0<=y/\y+8<=f.H) (hr:r<=7) (Ww:hi<=w.heap.size) (Jas:hi'<=w.heap.size) :
  Calls Tryz.prog 72 #[.agg #[f.W,f.H,pv],bv,x,y,r] w fun e w'=>(e=.returned (.tuple #[.agg #[.int .i64 (aZ f b x y r).vx,.int .i64 (aZ f b x y r).vy],.nilIface])/\ae [] w w'):=by
 refine aN fun Q MM=>?_
 have Jnt:=lh (fun (W:World) (SB:Nat) (vx vy:Int) (s:kD) (o:ah .i64 lo hi W pv f.pix) (o2:ah .i64 lo' hi' W bv b) (WG:-15<=vx/\vx<=15) (WH:-15<=vy/\vy<=15) hr=>Gb (K:=SB) (s:=s) MU o o2 lb sb (x:=x) (y:=y) (by have:=MU.w1;omega) (by have:=MU.h1;omega) vx vy WG WH hr);have Yq:=lh (fun (W:World) (o:ae [] w W)=>kU MU (h.quiet o) x y 0 0 (by have:=MU.w1;omega) (by have:=MU.h1;omega) Mf Mf);have QK:Hid ((ar f x y 8 0 0).length=64):=lh (by rw [aD]);have HCo:=lh (fun (W:World) (o:ae [] w W) (l1 l2:Nat) (v:Value) (hv:ah .i64 l1 l2 W v (ar f x y 8 0 0))=>oZ hv (hb.quiet o) QK lb (cD MU.sam x y 8 0 0) sb 0 0 Mf Mf);have HM:=lh (fun (W:World) (o:ae [] w W)=>by have:=jG f.W f.H (h.quiet o);rw [show dV ⟨f.W,f.H,f.pix⟩=true from dL.2 MU] at this;exact this);have PX:=lh (fun (W:World)=>by have:=Bt f.W f.H x y 8 pv W ⟨MU.w0,MU.w1⟩ ⟨MU.h0,MU.h1⟩ Mf;rw [show gA f.W f.H x y 8=true by unfold gA;simp;omega] at this;exact this);have HSa:=lh (fun (W:World) (o:ae [] w W)=>by have:=hZ (hb.quiet o) Mf;rw [show aX b 0 255=true by unfold aX;simpa using fun z hz=>sb z hz] at this;exact this);have HP:=lh h;have HB:=lh hb;have HE:Hid (aZ f b x y r=(tY (il f b x y r).vx (il f b x y r).vy).foldl (dA f b x y) (il f b x y r)):=lh rfl;have H1:Hid (il f b x y r=(nU r).foldl (dA f b x y) (mO f b x y)):=lh rfl;have Jcq:Hid (kL (il f b x y r)):=lh (by
  rw [H1.out];refine Bl _ _ (fun v hv=>?_) (by simp [mO,kL]);unfold nU at hv;obtain ⟨j,hj,hv⟩:=List.mem_flatMap.1 hv;obtain ⟨i,hi,rfl⟩:=List.mem_map.1 hv;rw [Md] at hi hj;simp only;omega)
 have H0:Hid (mO f b x y=⟨0,0,dX (ar f x y 8 0 0) b 0 0⟩):=lh rfl;obtain ⟨pa,pc,rfl,-⟩:=h.open;obtain ⟨qa,qc,rfl,-⟩:=hb.open;rw [lb] at *
 obtain ⟨S0,UQ⟩:∃ z,z=mO f b x y:=⟨_,rfl⟩
 obtain ⟨S1,hS1⟩:∃ z,z=il f b x y r:=⟨_,rfl⟩
 obtain ⟨S2,hS2⟩:∃ z,z=aZ f b x y r:=⟨_,rfl⟩
 rw [<- UQ] at H0 H1;rw [<- hS1] at H1 Jcq HE;rw [<- hS2] at HE MM;have r0:(0:Int)<=(r:Int):=Mf;have r1:(r:Int)<=7:=Mf;have MV:ae [] w ((w.alloc (.cells #[f.W,f.H,.slice pa f.pix.length pc] 24)).alloc (.cells #[(),()] 73)):=(ae.new w _).alloc _;have Nq:Hid (((w.alloc (.cells #[f.W,f.H,.slice pa f.pix.length pc] 24)).alloc (.cells #[(),()] 73)).heap[w.heap.size]?=some (.cells #[f.W,f.H,.slice pa f.pix.length pc] 24 (0,0))):=lh ((ae.new (w.alloc _) _).row (heap_alloc_new w _));have Px:Hid (((w.alloc (.cells #[f.W,f.H,.slice pa f.pix.length pc] 24)).alloc (.cells #[(),()] 73)).heap[w.heap.size+1]?=some (.cells #[(),()] 73 (0,0))):=lh (ak Mg);have Vo:Hid (w.heap.size+1<((w.alloc (.cells #[f.W,f.H,.slice pa f.pix.length pc] 24)).alloc (.cells #[(),()] 73)).heap.size):=lh Mg;have Na:=lh MV;have XT:=lh (And.intro Ww Jas);clear h hb lb sb MU hx hy Ww Jas UQ hS1 hS2 MV hr;obtain ⟨a0,a1,a2⟩:=ag Nq;go_enter Tryz.func72,Tryz.ntmps72;go_wp2_with fail
 go_step3
 go_wp2_with fail;generalize Tg:World.alloc (World.alloc w _) _=W2 at *
 clear Tg a0 a1 a2;go_at_call 62;refine (HM.out W2 Na).mono ?_;rintro e w3 ⟨rfl,Nb⟩;obtain ⟨a0,a1,a2⟩:=ag (Nb.row Nq);have Nf:=lh Nb;clear Nb HM;go_wp2_with fail;go_at_call 132;refine (PX.out w3).mono ?_;rintro e w4 ⟨rfl,Ng⟩;have NI:=lh (Nf.q Ng);clear Ng PX a0 a1 a2;go_wp2_with fail;go_at_call 124;refine (HSa.out w4 (Na.q NI)).mono ?_;rintro e w5 ⟨rfl,NF⟩;have Nz:=lh (NI.q NF);clear NF HSa;obtain ⟨a0,a1,a2⟩:=ag (Nz.row Nq);have HK0:=lh (heap_alloc_new w5 (.cells #[f.W,f.H,.slice pa f.pix.length pc,.slice qa 64 qc,x,y,(),(),()] 215));have Oh:=lh (ae.new w5 (.cells #[f.W,f.H,.slice pa f.pix.length pc,.slice qa 64 qc,x,y,(),(),()] 215));go_wp2_with fail;generalize hW6:World.alloc w5 _=W6 at *
 have RX:Hid (W2.heap.size<=w5.heap.size/\w5.heap.size<W6.heap.size):=lh ⟨Nz.size,by rw [<- hW6];simp⟩;have OI:=lh (Nz.q Oh);clear hW6 a0 a1 a2 Oh;generalize w5.heap.size=SB at *
 obtain ⟨a0,a1,a2⟩:=ag (OI.row Nq);obtain ⟨-,-,-,-,-,-,k6,k7,k8⟩:=(cy.cells (s:=⟨0,0,0⟩) HK0)
 simp only at k6 k7 k8;refine wp_region_held_drew (S:=(fun w'=>w'.cell? ⟨w.heap.size,0,none⟩=some (.int .i64 f.W)/\w'.cell? ⟨w.heap.size,1,none⟩=some (.int .i64 f.H)/\w'.cell? ⟨w.heap.size,2,none⟩=some (.slice pa f.pix.length pc)/\w'.cell? ⟨SB,6,none⟩=some (.int .i64 0)/\w'.cell? ⟨SB,7,none⟩=some (.int .i64 0))) Mh ?_ (fun hHeld=>?_)
 ·exact ⟨a0,a1,a2,k6,k7⟩
 refine tk 0 60 ?_;refine tk 1 61 ?_;refine tk 2 62 ?_;refine tk 3 63 ?_;refine tk 4 64 ?_;refine tk 5 65 ?_;refine tk 6 66 ?_;refine tk 7 67 ?_;refine tk 9 69 ?_;refine tk 10 70 ?_;refine tk 11 71 ?_;refine tk 12 72 ?_;refine tk 13 73 ?_;refine rdy (rdc 8 68 (fun K hK=>?_) .nil);go_simp;go_at_call 131;refine (Yq.out _ (Na.q OI).drew).mono ?_;rintro e w7 ⟨v7,rfl,Pu,Tl⟩;obtain ⟨g7,gc7,rfl,-,-⟩:=Pu.form (by have:=QK.out;omega);have hd7:=(ae.refl [] W6).drew.q Tl;have Vn:=lh hd7;have RH:=lh Pu;clear Pu Tl;refine hK.out _ _ ?_ (fun hHeld=>?_)
 ·exact ⟨(hd7).cell a0 Mg,(hd7).cell a1 Mg,(hd7).cell a2 Mg,(hd7).cell k6 Mg,(hd7).cell k7 Mg⟩
 clear hK K
 try simp only [Act.put,Lg,Lj,Lk]
 refine rdy (rdc 14 74 (fun K hK=>?_) .nil);go_simp;go_at_call 73;refine (HCo.out _ ((Na.q OI).q Vn) _ _ _ RH.ints).mono ?_;rintro e w8 ⟨rfl,RZ⟩;have hd8:=Vn.q RZ;have QQ:=lh hd8;clear RZ;have HR8:Hid (cy SB w8 f (.slice pa f.pix.length pc) (.slice qa 64 qc) x y ⟨0,0,0⟩):=lh (hd8.row HK0);have cx8:=(cy.cells HR8).2.2.2.2.2.2.2.2;have fx8:=frozen_of_row _ SB 8 _ _ HR8;have VE:=lh (show cy SB (w8.setCell ⟨SB,8,none⟩ (.int .i64 (dX (ar f x y 8 0 0) b 0 0))) f (.slice pa f.pix.length pc) (.slice qa 64 qc) x y ⟨0,0,dX (ar f x y 8 0 0) b 0 0⟩/\ae [SB] w8 (w8.setCell ⟨SB,8,none⟩ (.int .i64 (dX (ar f x y 8 0 0) b 0 0))) from ⟨heap_setCell_same w8 SB 8 _ _ _ HR8,(ae.refl _ _).setCell Mg _⟩);have r9a:=(cy.cells VE.1).2.2.2.2.2.2.1;have r9b:=(cy.cells VE.1).2.2.2.2.2.2.2.1;have hKw:w.heap.size∉[SB]:=by have:=RX.out;have:=Vo.out;simp only [mSg];omega
 have e0:=VE.2.cell (hd8.cell a0 Mg) hKw;have e1:=VE.2.cell (hd8.cell a1 Mg) hKw;have e2:=VE.2.cell (hd8.cell a2 Mg) hKw;refine hK.out _ _ ?_ (fun hHeld=>?_)
 ·exact ⟨(hd8).cell a0 Mg,(hd8).cell a1 Mg,(hd8).cell a2 Mg,(hd8).cell k6 Mg,(hd8).cell k7 Mg⟩
 clear hK K
 try simp only [Act.put,Lg,Lj,Lk]
 refine tk 15 59 ?_;refine tk 16 75 ?_;refine tk 17 76 ?_;refine tk 18 77 ?_;refine tk 19 78 ?_;refine rdy (rdn 20 (fun K hK=>?_) .nil);go_simp;refine hK.out _ _ ?_ (fun hHeld=>?_)
 ·exact ⟨e0,e1,e2,r9a,r9b⟩
 clear hK K
 try simp only [Act.put,Lg,Lj,Lk]
 refine wpAnyH_done Mh ?_ _;go_wp2_with fail
 go_step3
 go_upto_block 1 with (fail)
 have Zi:Hid (cy SB _ f (.slice pa f.pix.length pc) (.slice qa 64 qc) x y S0):=lh (by rw [H0.out];exact VE.1);have Ph:Hid (ae [SB] W6 (w8.setCell ⟨SB,8,none⟩ (.int .i64 (dX (ar f x y 8 0 0) b 0 0)))):=lh ((QQ.mono (U:=[SB]) Mg).trans VE.2 (fun _ h _=>h) (fun _ h _=>h));clear a0 a1 a2 k6 k7 k8 cx8 fx8 VE e0 e1 e2 r9a r9b Yq HCo HK0 HR8 QQ Vn RH hd7 hd8 QK H0;generalize World.setCell w8 _ _=W9 at *
 have HP9:Hid (∀ wx,ae [SB] W9 wx->ah .i64 lo hi wx (.slice pa f.pix.length pc) f.pix/\ah .i64 lo' hi' wx (.slice qa 64 qc) b):=lh (fun wx o=>by have z1:=RX.out;have z2:=Vo.out;have z3:=XT.out;have o1:=Ph.trans o (U:=[SB]) (fun _ h _=>h) (fun _ h _=>h);exact ⟨((HP.quiet Na).quiet OI).only o1 (fun g hg=>Mj),((HB.quiet Na).quiet OI).only o1 (fun g hg=>Mj)⟩);clear HP HB;go_cut [] (fun wx=>Hid (cy SB wx f (.slice pa f.pix.length pc) (.slice qa 64 qc) x y S1)/\Hid (ae [SB] W9 wx))
 case first =>
  go_wp2_with fail;go_loopw [13,14] (fun a _ wr=>∃ k:Nat,k<=2*r+1/\a=.int .i64 ((k:Int)-r)/\Hid (cy SB wr f (.slice pa f.pix.length pc) (.slice qa 64 qc) x y ((cE r k 0).foldl (dA f b x y) S0))/\Hid (ae [SB] W9 wr)) (fun a _ _=>((r:Int)+1-intOf a).toNat)
  case atStart=>exact ⟨0,Mf,Mm,Zi,lh (ae.refl _ _)⟩
  case round =>
   obtain ⟨k,hk,rfl,RV,MW⟩:=hrel;by_cases MO:k<2*r+1
   ·have Ny:(k:Int)-r<=r:=Mf
    go_wp2_with fail;go_loopw [14] (fun a wr=>∃ n:Nat,n<=2*r+1/\a=.int .i64 ((n:Int)-r)/\Hid (cy SB wr f (.slice pa f.pix.length pc) (.slice qa 64 qc) x y ((cE r k n).foldl (dA f b x y) S0))/\Hid (ae [SB] W9 wr)) (fun a _=>((r:Int)+1-intOf a).toNat)
    case atStart=>exact ⟨0,Mf,Mm,RV,MW⟩
    case round =>
     obtain ⟨n,hn,rfl,Sy,Oh⟩:=hrel;by_cases YO:n<2*r+1
     ·have XH:(n:Int)-r<=r:=Mf
      have Ox:Hid ((cE r k (n+1)).foldl (dA f b x y) S0=dA f b x y ((cE r k n).foldl (dA f b x y) S0) (2*((n:Int)-r),2*((k:Int)-r))):=lh (by rw [jX,List.foldl_append];rfl);have Jhn:Hid (((cE r k n).foldl (dA f b x y) S0).cost=0->S1=(cE r k n).foldl (dA f b x y) S0):=lh (fun hz=>by obtain ⟨t,e⟩:=wV MO hn;rw [H1.out,e,List.foldl_append];exact tG t _ Mf);generalize (cE r k n).foldl (dA f b x y) S0=s at *
      have c8:=(cy.cells Sy).2.2.2.2.2.2.2.2;by_cases hz:s.cost=0
      ·have NT:=lh (Jhn.out hz)
       rw [hz] at c8;go_wp2_with fail;go_meet;exact ⟨by rw [NT.out];exact Sy,Oh⟩
      ·have HT:=lh (Jnt.out wr SB (2*((n:Int)-r)) (2*((k:Int)-r)) s (HP9.out wr Oh).1 (HP9.out wr Oh).2 Mf Mf Sy)
       have m1:IntKind.i64.wrap (2*((n:Int)-r))=2*((n:Int)-r):=Mi;have m2:IntKind.i64.wrap (2*((k:Int)-r))=2*((k:Int)-r):=Mi;clear Jhn;go_wp2_with fail;go_at_call 133;refine HT.mono ?_;rintro e wt ⟨rfl,hrt,hqt⟩;have Zh:=lh hrt;have Yk:=lh (Oh.trans hqt (U:=[SB]) (fun _ h _=>h) (fun _ h _=>h));clear hrt hqt c8;go_wp2_with fail;exact ⟨⟨n+1,Mf,Mm,by rw [Ox.out];exact Zh,Yk⟩,Mk⟩
     ·obtain rfl:n=2*r+1:=Mf
      have XH:¬ (((2*r+1:Nat):Int)-r)<=r:=Mf;have Si:=lh (iZ r k);rw [Si.out] at Sy;go_wp2_with fail;exact ⟨⟨k+1,Mf,Mm,Sy,Oh⟩,Mk⟩
   ·obtain rfl:k=2*r+1:=Mf
    have Ny:¬ (((2*r+1:Nat):Int)-r)<=r:=Mf;have ZV:=lh (kQ r);rw [ZV.out,<- H1.out] at RV;go_wp2_with fail;go_meet;exact ⟨RV,MW⟩
 case rest =>
  obtain ⟨NT,NJ⟩:=hcut;obtain ⟨SM,TG⟩:∃ z,z=wc:=⟨_,rfl⟩
  subst TG;clear Zi H1;obtain ⟨-,-,-,-,-,-,k6,k7,k8⟩:=(cy.cells NT)
  obtain ⟨o1,o2,o3,o4⟩:=Jcq.out;have HVr:Hid ((SM.alloc (.cells #[S1.vx,S1.vy] 73)).heap[SM.heap.size]?=some (.cells #[S1.vx,S1.vy] 73 (0,0))):=lh (heap_alloc_new _ _);have JxF:w.heap.size+1<SM.heap.size:=by have:=Vo.out;have:=RX.out;have:=Ph.size;have:=NJ.size;omega
  have PY:Hid (ae [] w (SM.alloc (.cells #[S1.vx,S1.vy] 73))):=lh ((Na.q OI).trans ((Ph.trans NJ (U:=[SB]) (fun _ h _=>h) (fun _ h _=>h)).alloc _) (U:=[]) Mg (fun g hg MO=>by rw [mSg] at hg;have:=Vo.out;have:=RX.out;omega));have ZP:Hid ((SM.alloc (.cells #[S1.vx,S1.vy] 73)).heap[w.heap.size+1]?=some (.cells #[(),()] 73 (0,0))):=lh ((OI.q (ae.refl [] _)).trans ((Ph.trans NJ (U:=[SB]) (fun _ h _=>h) (fun _ h _=>h)).alloc _) (U:=[SB]) Mg (fun _ h _=>h) |>.rowAt Px (by have:=Vo.out;have:=RX.out;simp only [mSg];omega));have JsC:Hid (cy SB (SM.alloc (.cells #[S1.vx,S1.vy] 73)) f (.slice pa f.pix.length pc) (.slice qa 64 qc) x y S1):=lh ((ae.new SM _).rowAt NT Mg);have Jbo:Hid (∀ wx,ae [SB] (SM.alloc (.cells #[S1.vx,S1.vy] 73)) wx->ah .i64 lo hi wx (.slice pa f.pix.length pc) f.pix/\ah .i64 lo' hi' wx (.slice qa 64 qc) b):=lh (fun wx o=>HP9.out wx ((NJ.alloc _).trans o (U:=[SB]) (fun _ h _=>h) (fun _ h _=>h)));have HVS:Hid (SM.heap.size∉[SB]/\w.heap.size+1∉[SB]):=lh (by have:=Vo.out;have:=RX.out;have:=Ph.size;have:=NJ.size;simp only [mSg];omega);go_wp2_with fail;clear k6 k7 k8 HP9 NT Ph NJ;generalize JjP:World.alloc SM _=W11 at *
  clear JjP;generalize SM.heap.size=V at *
  go_loopw [16,17,18] (fun a _ _ wr=>∃ k:Nat,k<=3/\a=.int .i64 ((k:Int)-1)/\Hid (cy SB wr f (.slice pa f.pix.length pc) (.slice qa 64 qc) x y ((cM S1.vx S1.vy k 0).foldl (dA f b x y) S1))/\Hid (ae [SB] W11 wr)) (fun a _ _ _=>((2:Int)-intOf a).toNat)
  case atStart=>exact ⟨0,Mf,Mm,JsC,lh (ae.refl _ _)⟩
  case round =>
   obtain ⟨k,hk,rfl,RV,MW⟩:=hrel;by_cases MO:k<3
   ·have Ny:(k:Int)-1<=1:=Mf
    go_wp2_with fail;go_loopw [17,18] (fun a _ wr=>∃ n:Nat,n<=3/\a=.int .i64 ((n:Int)-1)/\Hid (cy SB wr f (.slice pa f.pix.length pc) (.slice qa 64 qc) x y ((cM S1.vx S1.vy k n).foldl (dA f b x y) S1))/\Hid (ae [SB] W11 wr)) (fun a _ _=>((2:Int)-intOf a).toNat)
    case atStart=>exact ⟨0,Mf,Mm,RV,MW⟩
    case round =>
     obtain ⟨n,hn,rfl,Sy,Oh⟩:=hrel;by_cases YO:n<3
     ·have XH:(n:Int)-1<=1:=Mf
      obtain ⟨v0,v1,-⟩:=aJ (Oh.rowAt HVr HVS.1);obtain ⟨X,hX⟩:∃ z,z=S1.vx+((n:Int)-1):=⟨_,rfl⟩
      obtain ⟨Y,hY⟩:∃ z,z=S1.vy+((k:Int)-1):=⟨_,rfl⟩
      have m1:IntKind.i64.wrap (S1.vx+((n:Int)-1))=X:=Mi;have m2:IntKind.i64.wrap (S1.vy+((k:Int)-1))=Y:=Mi;have WX:=lh (fun h=>by rw [pN S1.vx S1.vy k n h,List.foldl_append];rfl:kF (S1.vx+((n:Int)-1),S1.vy+((k:Int)-1))=true->(cM S1.vx S1.vy k (n+1)).foldl (dA f b x y) S1=dA f b x y ((cM S1.vx S1.vy k n).foldl (dA f b x y) S1) (S1.vx+((n:Int)-1),S1.vy+((k:Int)-1)));have Hno:=lh (fun h=>rE S1.vx S1.vy k n h);rw [<- hX,<- hY] at WX Hno;have Hm:=lh (Jm X Y);have HXY:Hid (kF (X,Y)=true->(-15<=X/\X<=15)/\(-15<=Y/\Y<=15)):=lh (fun h=>by unfold kF at h;simp only [Bool.and_eq_true,decide_eq_true_eq] at h;omega);have HVX:=lh (fun W=>sA X Y W);rw [<- Hm.out] at HVX;have HRv:=lh (heap_alloc_new wr (.cells #[X,Y] 73));have HQv:=lh (ae.new wr (.cells #[X,Y] 73));clear hX hY Hm;generalize hs:(cM S1.vx S1.vy k n).foldl (dA f b x y) S1=s at *
      have Hs:=lh hs;clear hs;go_wp2_with fail;clear v0 v1 m1 m2;generalize hWv:World.alloc wr _=Wv at *
      clear hWv;generalize wr.heap.size=G at *
      obtain ⟨v0,v1,-⟩:=aJ HRv
      skip
      go_wp2_with fail;go_at_call 130;refine (HVX.out Wv).mono ?_;rintro e wm ⟨rfl,hqm⟩;obtain ⟨v2,v3,-⟩:=aJ (hqm.row HRv);have HQm:=lh (HQv.q hqm);clear hqm v0 v1 HVX;cases hm:kF (X,Y) with
      | true =>
       have HT:=lh (Jnt.out wm SB X Y s (Jbo.out wm (Oh.trans HQm (U:=[SB]) (fun _ h _=>h) Mg)).1 (Jbo.out wm (Oh.trans HQm (U:=[SB]) (fun _ h _=>h) Mg)).2 (HXY.out hm).1 (HXY.out hm).2 (HQm.row Sy));have Ox:=lh (WX.out hm);clear hm WX Hno HXY;go_wp2_with fail;go_at_call 133;refine HT.mono ?_;rintro e wt ⟨rfl,hrt,hqt⟩;have Zh:=lh hrt;have Yk:=lh ((Oh.trans HQm (U:=[SB]) (fun _ h _=>h) Mg).trans hqt (U:=[SB]) (fun _ h _=>h) (fun _ h _=>h));clear hrt hqt v2 v3;go_wp2_with fail;exact ⟨⟨n+1,Mf,Mm,by rw [Ox.out];exact Zh,Yk⟩,Mk⟩
      | false =>
       have Ox:Hid ((cM S1.vx S1.vy k (n+1)).foldl (dA f b x y) S1=s):=lh (by rw [Hno.out hm];exact Hs);clear hm WX Hno HXY;go_wp2_with fail;exact ⟨⟨n+1,Mf,Mm,by rw [Ox.out];exact lh (HQm.row Sy),lh (Oh.trans HQm (U:=[SB]) (fun _ h _=>h) Mg)⟩,Mk⟩
     ·obtain rfl:n=3:=Mf
      have XH:¬ (((3:Nat):Int)-1)<=1:=Mf;have Si:=lh (pM S1.vx S1.vy k);rw [Si.out] at Sy;go_wp2_with fail;exact ⟨⟨k+1,Mf,Mm,Sy,Oh⟩,Mk⟩
   ·obtain rfl:k=3:=Mf
    have Ny:¬ (((3:Nat):Int)-1)<=1:=Mf;have ZV:=lh (pL S1.vx S1.vy);rw [ZV.out,<- HE.out] at RV;obtain ⟨-,-,-,-,-,-,k6,k7,k8⟩:=(cy.cells RV)
    have HTr:=lh (MW.rowAt ZP HVS.2);obtain ⟨v0,v1,y0,y1,-⟩:=aJ HTr;obtain ⟨MS,Nd⟩:=aH (x:=.int .i64 S2.vx) (y:=.int .i64 S2.vy) HTr;have OJ:=lh MS;have PS:=lh Nd;clear MS Nd;go_wp2_with fail
    try rw [Exit.noGoto_ret]
    refine bodyPost_ret (v:=.tuple #[.agg #[S2.vx,S2.vy],.nilIface]) (dM Tryz.results72 _ _ (w.heap.size+1) _ _ _ _ _ rfl rfl OJ Tryz.underlying73 rfl Mh) rfl (MM.out _ _ ⟨rfl,?_⟩);exact (PY.trans MW (U:=[]) Mg (fun g hg MO=>by rw [mSg] at hg;have:=Vo.out;have:=RX.out;omega)).trans PS (U:=[]) Mg (fun g hg MO=>Mj)
end
end Go.Proofs.YthcafdfdglfabaaGreatDoor
