/- Joined texts: DRkL, DRkG. Conditions: each part names its own. -/
import Derived.Test.YthcafdfdglfabaaGreatDoorW7
namespace Go.Proofs.YthcafdfdglfabaaGreatDoor
open Tryz
open Go.RowKit
set_option linter.unusedVariables false
set_option linter.unusedSimpArgs false
set_option maxRecDepth 100000
set_option maxHeartbeats 16000000
section
theorem uj {p:Prop} (h:p:=by
 exact ⟨QV.cell e0 (dn i5 RX),QV.cell e1 (dn i5 RX)⟩):p:=h
theorem Di (c:Int) (n:Nat) (hn:n<=15) (hc:-16777216<=c/\c<=16777216) (w:World):Calls prog 207 #[c,n] w fun e w'=>(e=.returned (.tuple #[.int .i64 (gw n c),.agg #[(),d8]])/\ae [] w w'):=by
 refine aK fun Q QF=>?_
 have hs:=qT hn;have F:Hid (gw n c=if c<0 then -((bg n / 2-c) / bg n) else (c+bg n / 2) / bg n):=lh rfl;have QI:=ae.new w (.cells #[(),d8] 39);have Rg:Hid ((w.alloc (.cells #[(),d8] 39)).heap[w.heap.size]?=some (.cells #[(),d8] 39)):=Sd w _;have QO:=lh QI;have HS:=lh (fun W=>nJ n hn W);clear QI hn;generalize bg n=s at *
 generalize gw n c=R at *
 obtain ⟨s0,s1⟩:=hs;obtain ⟨c0,c1⟩:=hc;have n1:¬ c < -16777216:=Qa;have n2:¬ (16777216:Int)<c:=Qa;go_enter func207,ntmps207;go_wp2_with fail;have TF:Hid ((w.alloc (.cells #[(),d8] 39)).heap.size=w.heap.size+1):=lh Qb;generalize Rs:World.alloc w _=W1 at *
 clear Rs;refine (HS.out W1).mono ?_;rintro e E ⟨rfl,QN⟩;have QQ:=QN.q (ae.new E (.cells #[(),d8] 39));have SQ:Hid ((E.alloc (.cells #[(),d8] 39)).heap[E.heap.size]?=some (.cells #[(),d8] 39)):=Sd E _;have Rg:=lh (QQ.row Rg);have QW:=lh (QO.q QQ);have I:Hid (¬ E.heap.size=w.heap.size):=lh (l6 QN.size TF.out);clear QN QQ;go_wp2_with fail;generalize Tb:World.alloc E _=W3 at *
 clear Tb;obtain ⟨V,M⟩:=bu E.heap.size
 rw [<- M] at SQ I |-
 clear M;refine (cZ _ _ _).mono ?_;rintro e w4 ⟨rfl,Z⟩;have Rh:=lh (QW.q Z);have JnA:=lh (Z.row SQ);have L:=lh (Z.row Rg);obtain ⟨e0,e1,-⟩:=aL JnA;obtain ⟨z0,z1,y0,y1,-⟩:=aL L;clear Z;obtain ⟨QK,QV⟩:=aJ (x:=.int .i64 0) (y:=.slice none 0 0) L;have RX:=I.out;have Rx:=(Rh.trans QV (U:=[]) Qb (fun g hg QH=>Qd))
 have t1:s.tdiv 2=s / 2:=TY Qa;have n3:¬ s=0:=Qa;obtain ⟨D,O⟩:=bu (s / 2)
 rw [<- O] at t1 F;have b2:0<=D/\D<=192:=Qa;clear O;obtain ⟨b0,b1⟩:=b2;have a0:IntKind.i64.wrap D=D:=Qe;by_cases J:c<0
 ·rw [if_pos J] at F
  have Xe:-c+D=D-c:=Qa;have t2:(-c+D).tdiv s=(D-c) / s:=by rw [Xe];exact TY Qa
  have N:=qJ (a:=D-c) (s:=s) Qa Qa s0;have Y:=lh N;have a4:IntKind.i64.wrap (-c)=-c:=Qe;have a1:IntKind.i64.wrap (-c+D)=-c+D:=Qe;generalize (D-c) / s=q at *
  have a2:IntKind.i64.wrap q=q:=by rw [Pk];have:=Y.out;omega
  have a3:IntKind.i64.wrap (-q)=-q:=by rw [Pk];have:=Y.out;omega
  clear N Xe;go_upto_region 5 with (fail)
  refine Tf (S:=(fun w'=>w'.cell? ⟨V,0,none⟩=some (.int .i64 0)/\w'.cell? ⟨V,1,none⟩=some (.slice none 0 0))) Qc ?_ (fun hHeld=>?_)
  ·exact ⟨e0,e1⟩
  refine tk 0 27 ?_;refine tk 1 28 ?_;refine tk 2 29 ?_;refine tk 3 30 ?_;refine tk 4 31 ?_;refine tk 5 32 ?_;refine tk 6 33 ?_;refine tk 7 34 ?_;refine tk 8 35 ?_;refine tk 9 4 ?_;refine j9 10 fun K hK=>?_
  go_simp;refine ko hK uj fun hHeld=>?_;clear hK K
  refine Wn Qc ?_ _;go_wp2_with fail;exact TV (v:=.tuple #[.int .i64 (-q),.agg #[(),d8]]) (aA results207 _ _ w.heap.size _ _ _ _ _ rfl rfl QK underlying39 rfl (aG _ rfl)) rfl (QF.out _ _ ⟨by rw [F.out],Rx.drew⟩)
 ·rw [if_neg J] at F
  have t2:(c+D).tdiv s=(c+D) / s:=TY Qa;have N:=qJ (a:=c+D) (s:=s) Qa Qa s0;have Y:=lh N;have a1:IntKind.i64.wrap (c+D)=c+D:=Qe;generalize (c+D) / s=q at *
  have a2:IntKind.i64.wrap q=q:=by rw [Pk];have:=Y.out;omega
  clear N;go_upto_region 6 with (fail)
  refine Tf (S:=(fun w'=>w'.cell? ⟨V,0,none⟩=some (.int .i64 0)/\w'.cell? ⟨V,1,none⟩=some (.slice none 0 0))) Qc ?_ (fun hHeld=>?_)
  ·exact ⟨e0,e1⟩
  refine tk 0 36 ?_;refine tk 1 37 ?_;refine tk 2 38 ?_;refine tk 3 39 ?_;refine tk 4 40 ?_;refine tk 5 41 ?_;refine tk 6 42 ?_;refine tk 7 4 ?_;refine j9 8 fun K hK=>?_
  go_simp;refine ko hK uj fun hHeld=>?_;clear hK K
  refine Wn Qc ?_ _;go_wp2_with fail;exact TV (v:=.tuple #[.int .i64 (q),.agg #[(),d8]]) (aA results207 _ _ w.heap.size _ _ _ _ _ rfl rfl QK underlying39 rfl (aG _ rfl)) rfl (QF.out _ _ ⟨by rw [F.out],Rx.drew⟩)
theorem rk {lo hi:Nat} {v:Value} {l:List Int} {w:World} (h:aj .i64 lo hi w v l) (hl:l.length<=64) (Re:∀ x∈l,-16777216<=x/\x<=16777216) (n:Nat) (hn:n<=15):Calls prog 151 #[v,n] w fun e w'=>((∃ v',e=.returned (.tuple #[v',.agg #[(),d8]])/\f9 .i64 3 w.heap.size w' v' (l.map (gw n)))/\ae [] w w'):=by
 refine aK fun Q QF=>?_
 obtain ⟨la,Rl,rfl,-,-,RO,QR⟩:=h.open;have TT:=lh RO;have Rm:=lh QR;have QI:=ae.new w (.cells #[(),d8] 39);have Rg:Hid ((w.alloc (.cells #[(),d8] 39)).heap[w.heap.size]?=some (.cells #[(),d8] 39)):=Sd w _;have TF:Hid ((w.alloc (.cells #[(),d8] 39)).heap.size=w.heap.size+1):=lh Qb;have QO:=lh QI;have HS:=lh (fun W=>nJ n hn W);have HV:=lh (fun (x:Int) (hx:-16777216<=x/\x<=16777216) (W:World)=>Di x n hn hx W);have HLb:=lh (fun (x:Int) (hx:-16777216<=x/\x<=16777216)=>EE hn hx);have HD:Hid (l.map (gw n)=l.map (gw n)):=lh rfl;obtain ⟨L,hLD⟩:∃ z:Int->Int,z=gw n:=⟨_,rfl⟩
 rw [<- hLD] at HV HD HLb QF;clear hLD;have YL:=lh Re;clear h RO QR QI hn Re HD;generalize bg n=st at *
 go_enter func151,ntmps151;go_wp2_with fail;generalize Rs:World.alloc w _=W1 at *
 clear Rs;refine (HS.out W1).mono ?_;rintro e I ⟨rfl,QN⟩;have QQ:=QN.q (ae.new I (.cells #[(),d8] 39));have Wk:Hid ((I.alloc (.cells #[(),d8] 39)).heap[I.heap.size]?=some (.cells #[(),d8] 39)):=Sd I _;have HE3:=lh (QQ.row Rg);have QW:=lh (QO.q QQ);have O:Hid (w.heap.size<I.heap.size/\(I.alloc (.cells #[(),d8] 39)).heap.size=I.heap.size+1):=lh ⟨by have:=QN.size;have:=TF.out;omega,Qb⟩;clear QN QQ QO Rg TF;go_wp2_with fail;generalize Tb:World.alloc I _=W3 at *
 clear Tb;generalize I.heap.size=B at *
 go_loopw [9,8,10,11] (fun i y _ _ wr=>∃ k:Nat,k<=l.length/\i=.int .i64 k/\Hid (f9 .i64 3 W3.heap.size wr y ((l.take k).map L))/\Hid (bj W3.heap.size y)/\Hid (ae [] w wr)/\Hid (W3.heap.size<=wr.heap.size)/\Hid (wr.heap[B]?=some (.cells #[(),d8] 39))/\Hid (wr.heap[w.heap.size]?=some (.cells #[(),d8] 39))) (fun i _ _ _ _=>l.length-(intOf i).toNat)
 case atStart=>exact ⟨0,Qa,rfl,lh (f9.nil _ _ _ _),lh (bj.nil _),QW,lh (Pm _),Wk,HE3⟩
 case round =>
  obtain ⟨k,hk,rfl,QX,SU,QP,HZk,Sg,Yx⟩:=hrel;obtain ⟨e0,e1,-⟩:=aL Sg;by_cases M:k<l.length
  ·have Rt:(k:Int)<(l.length:Int):=Qa
   have RA:(0:Int)<=(k:Int):=Qa;obtain ⟨b,off,rfl,_,_⟩:=TT.out k M;have hx:-16777216<=l.getD k 0/\l.getD k 0<=16777216:=YL.out _ (by rw [Pd,Pe M];exact PG _);have Wp:Hid ((l.take (k+1)).map L=(l.take k).map L ++ [L (l.getD k 0)]):=lh (by
    rw [UJ M,PN,Pd,Pe M];rfl)
   have Hc:=lh (Rm.out b off rfl k M);generalize l.getD k 0=x at *
   have Y:=HLb.out x hx;simp only [i7] at Y;have HVx:=lh (HV.out x hx);obtain ⟨D,Vo⟩:=bu (L x)
   rw [<- Vo] at Wp HVx Y;clear Vo;have QS:∀ y∈[D],i7 .i64 y:=by simp only [i5,n7,i7];omega
   have RI:=lh (fun (W:World)=>aU (k:=.i64) (w:=W) (t:=3) (l:=[D]) rfl Qj QS 1 rfl rfl);have TU:=lh (show (((l.take k).map L).length+[D].length)*8<=140737488355328 by simp;omega);have Ra:=lh (show (((l.take k).map L) ++ [D]).length=k+1 by simp;omega);obtain ⟨ra,VK,rfl,-⟩:=QX.ints.open;have hlk:((l.take k).map L).length=k:=Qm;rw [hlk] at QX SU |-
   have Hx:=lh hx;clear QS hlk hx Y;go_wp2_with fail;refine (cZ _ _ _).mono ?_;rintro e w4 ⟨rfl,F⟩;have hc:=(QP.q F).cell Hc Qb;have Zl:=lh F;clear F e0 e1;go_wp2_with fail;refine (HVx.out _).mono ?_;rintro e J ⟨rfl,N⟩;have XB:=Zl.q N;have Rk:=lh (QP.q XB);have UX:=lh (QX.quiet XB);have VP:=(ae.new J (.cells #[(),d8] 39)).q (ae.new _ (.cells #[.int .i64 (D)] 3));have Zu:=lh ((XB.q VP).row Sg);have E:=lh ((XB.q VP).row Yx);have H11:=lh ((ae.new (J.alloc (.cells #[(),d8] 39)) (.cells #[.int .i64 (D)] 3)).row (Sd J (.cells #[(),d8] 39)));have Hnb:Hid (¬ J.heap.size∈(Value.slice ra k VK).ownBlock.toList):=lh (fun hm=>by have:=(UX.at J.heap.size Qr).2;omega);have Jgu:Hid (B<W3.heap.size):=lh (j0 O.out);have JgA:Hid (w.heap.size<W3.heap.size):=lh (j0 O.out);have HN5:=lh VP;have Tn:=lh (show W3.heap.size<=((J.alloc (.cells #[(),d8] 39)).alloc (.cells #[.int .i64 (D)] 3)).heap.size by have:=HZk.out;have:=XB.size;have:=VP.size;omega);have Zf:=RI.out (J.alloc (.cells #[(),d8] 39));rw [World.size_alloc] at Zf;have Jht:=lh Zf;clear N XB hc VP Zf
   go_wp2_with (first
    | (at_builtin;refine au rfl (.tmp 36) (.tmp 38) _ rfl EI (UX.quiet ((ae.new J (.cells #[(),d8] 39)).q (BS))) rfl Jht rfl TU Tn (fun v1 w6 QG Z=>?_);obtain ⟨x1,SV,RZ,_⟩:=QG.ints.open;subst RZ;rw [Ra.out] at QG Z |-;have SD:=lh QG;have Sa:=lh Z;have Jij:=Z.only.rowAt H11 Hnb;have V:=Z.row SU Zu Jgu;have hre:=Z.row SU E JgA;have HB6:=lh V;have HE6:=lh hre;obtain ⟨q0,q1,-⟩:=aL Jij;obtain ⟨n0,n1,m0,m1,-⟩:=aL V;clear QG Z Jij V hre)
    | fail)
   obtain ⟨QK,QV⟩:=aJ (x:=.int .i64 0) (y:=.slice none 0 0) HB6;have Uu:=Sa.from_ SU Tn;have hz6:=Sa.only.size;refine ⟨⟨k+1,Qa,Qh,lh ?_,lh Uu,lh ?_,lh ?_,lh QK,lh (QV.rowAt HE6 (eW O))⟩,Qf⟩
   ·rw [Wp.out]
    exact SD.only QV (fun g hg hh=>by rw [i5] at hg;subst hg;have:=Uu _ hh;have:=Jgu.out;omega)
   ·exact ((Rk.q HN5).trans Sa.only (U:=[]) Qb (fun g hg M=>by have:=SU.out g Qn;have:=JgA.out;omega)).trans QV (U:=[]) Qb (fun g hg M=>by rw [i5] at hg;have:=O.out;omega)
   ·exact Pw (Pw Tn hz6) QV.size
  ·obtain rfl:k=l.length:=Qa
   have Rt:¬ (l.length:Int)<(l.length:Int):=Qa;rw [List.take_length] at QX;go_wp2_with fail;refine (cZ _ _ _).mono ?_;rintro e w4 ⟨rfl,F⟩;have Yo:=lh (QX.quiet F);have Rh:=lh (QP.q F);have HE4:=lh (F.row Yx);have HB4:=lh (F.row Sg);clear F e0 e1;obtain ⟨e0,e1,-⟩:=aL HB4;go_wp2_with fail;refine (cZ _ _ _).mono ?_;rintro e J ⟨rfl,N⟩;have UX:=lh (Yo.quiet N);have Rk:=lh (Rh.q N);have E:=lh (N.row HE4);have Zu:=lh (N.row HB4);clear N e0 e1;obtain ⟨e0,e1,-⟩:=aL Zu;obtain ⟨z0,z1,y0,y1,-⟩:=aL E;go_wp2_with fail;obtain ⟨QK,QV⟩:=aJ (x:=.int .i64 0) (y:=.slice none 0 0) E;have RX:¬ B=w.heap.size:=dT O
   have Rx:=(Rk.trans QV (U:=[]) Qb (fun g hg M=>Qd))
   refine Tf (S:=(fun w'=>w'.cell? ⟨B,0,none⟩=some (.int .i64 0)/\w'.cell? ⟨B,1,none⟩=some (.slice none 0 0))) Qc ?_ (fun hHeld=>?_)
   ·exact ⟨e0,e1⟩
   refine tk 0 45 ?_;refine tk 1 46 ?_;refine tk 2 4 ?_;refine j9 3 fun K hK=>?_
   go_simp;refine ko hK uj fun hHeld=>?_;clear hK K
   refine Wn Qc ?_ _;go_wp2_with fail;refine TV (aA results151 _ _ w.heap.size _ _ _ _ _ rfl rfl QK underlying39 rfl (aG _ rfl)) rfl (QF.out _ _ ⟨⟨_,rfl,?_⟩,Rx.drew⟩);exact ((UX.only QV (fun g hg hh=>by rw [i5] at hg;subst hg;have:=SU.out _ hh;have:=O.out;omega)).quiet (AY).drew).lower (j0 O.out)
theorem Bp {l:List Int} (h:ar l):aO l (-1048576) 1048576=true:=by
 unfold aO;rw [t6];intro x hx;have:=h x hx;rw [r9];omega
theorem Ai {lo hi lo' hi':Nat} {u v:Value} {a b:List Int} {w:World} (J:aj .i64 lo hi w u a) (L:aj .i64 lo' hi' w v b) (N:b.length=a.length) (hm:a.length<=64) (O:ar a) (V:ar b):Calls prog 203 #[u,v] w fun e w'=>(e=.returned (.agg #[(),d8])/\ae [] w w'):=by
 refine aK fun Q Y=>?_
 have F:=lh (fun (W:World) (o:ae [] w W)=>bQ (-1048576) 1048576 (J.quiet o));have D:=lh (fun (W:World) (o:ae [] w W)=>bQ (-1048576) 1048576 (L.quiet o));rw [Bp O] at F;rw [Bp V] at D;obtain ⟨aa,ac,rfl,-⟩:=J.open;obtain ⟨ba,bc,rfl,-⟩:=L.open;rw [N] at D |-
 have I:=lh (ae.new w (.cells #[(),d8] 39));have M:=lh (Sd w (.cells #[(),d8] 39));clear J L N hm O V;go_enter func203,ntmps203;go_wp2_with fail;generalize Rs:World.alloc w _=W1 at *
 clear Rs;refine (F.out _ I).mono ?_;rintro e w2 ⟨rfl,E⟩;subst E;go_wp2_with fail;refine (D.out _ I).mono ?_;rintro e w2 ⟨rfl,E⟩;subst E;obtain ⟨z0,z1,y0,y1,-⟩:=aL M;go_wp2_with fail;obtain ⟨Z,QV⟩:=aJ (x:=.int .i64 0) (y:=.slice none 0 0) M;exact TV (v:=.agg #[(),d8]) (results_cell_row results203 _ _ w.heap.size _ _ _ _ rfl Z underlying39 rfl (aG _ rfl)) rfl (Y.out _ _ ⟨rfl,I.trans QV Qb (fun g hg QH=>Qd)⟩)
theorem Ah {lo hi lo' hi':Nat} {u v:Value} {a b:List Int} {w:World} (ha:aj .i64 lo hi w u a) (hb:aj .i64 lo' hi' w v b) (Y:b.length=a.length) (hm:a.length<=64) (sa:ar a) (sb:ar b):Calls prog 149 #[u,v] w fun e w'=>((∃ v',e=.returned (.tuple #[v',.agg #[(),d8]])/\f9 .i64 3 w.heap.size w' v' (dX a b))/\ae [] w w'):=by
 refine aK fun Q QF=>?_
 have HT:=lh (fun (W:World) (o:ae [] w W)=>Ai (ha.quiet o) (hb.quiet o) Y hm sa sb);have HN:=lh (fun (k:Nat) (h:k<a.length)=>Fy h Y);have XI:Hid ((dX a b).length=a.length):=fR rfl Y;generalize dX a b=D at *
 have Hl:=lh Y;have Hm:=lh hm;have Hsa:=lh sa;have Hsb:=lh sb;obtain ⟨aa,ac,rfl,-,-,JhE,hca⟩:=ha.open;obtain ⟨ba,bc,rfl,-,-,JhF,Zm⟩:=hb.open;have HAa:=lh JhE;have HCa:=lh hca;have HAb:=lh JhF;have HCb:=lh Zm;rw [Y] at HT |-
 have hal:(a.length:Int)<=64:=Qa;have QI:=ae.new w (.cells #[(),d8] 39);have Rg:Hid ((w.alloc (.cells #[(),d8] 39)).heap[w.heap.size]?=some (.cells #[(),d8] 39)):=Sd w _;have TF:Hid ((w.alloc (.cells #[(),d8] 39)).heap.size=w.heap.size+1):=lh Qb;have QO:=lh QI;clear ha hb Y hm sa sb JhE JhF hca Zm QI;go_enter func149,ntmps149;go_wp2_with fail;generalize Rs:World.alloc w _=W1 at *
 clear Rs;refine (HT.out W1 QO).mono ?_;rintro e L ⟨rfl,QN⟩;have QQ:=QN.q (ae.new L (.cells #[(),d8] 39));have Wk:Hid ((L.alloc (.cells #[(),d8] 39)).heap[L.heap.size]?=some (.cells #[(),d8] 39)):=Sd L _;have HE3:=lh (QQ.row Rg);have QW:=lh (QO.q QQ);have V:Hid (w.heap.size<L.heap.size/\(L.alloc (.cells #[(),d8] 39)).heap.size=L.heap.size+1):=lh ⟨by have:=QN.size;have:=TF.out;omega,Qb⟩;clear QN QQ QO Rg TF;go_wp2_with fail;generalize Tb:World.alloc L _=W3 at *
 clear Tb;generalize L.heap.size=B at *
 go_loopw [8,7] (fun i y wr=>∃ k:Nat,k<=a.length/\i=.int .i64 k/\Hid (f9 .i64 3 W3.heap.size wr y (D.take k))/\Hid (bj W3.heap.size y)/\Hid (ae [] w wr)/\Hid (W3.heap.size<=wr.heap.size)/\Hid (wr.heap[B]?=some (.cells #[(),d8] 39))/\Hid (wr.heap[w.heap.size]?=some (.cells #[(),d8] 39))) (fun i _ _=>a.length-(intOf i).toNat)
 case atStart=>exact ⟨0,Qa,rfl,lh (f9.nil _ _ _ _),lh (bj.nil _),QW,lh (Pm _),Wk,HE3⟩
 case round =>
  obtain ⟨k,hk,rfl,QX,O,QP,M,Sg,Yx⟩:=hrel;obtain ⟨e0,e1,-⟩:=aL Sg;by_cases E:k<a.length
  ·have Rt:(k:Int)<(a.length:Int):=Qa
   have RA:(0:Int)<=(k:Int):=Qa;obtain ⟨ga,oa,rfl,-,-⟩:=HAa.out k E;obtain ⟨gb,ob,rfl,-,-⟩:=HAb.out k (bC Hl E);have Z:=lh (HCa.out ga oa rfl k E);have HcB:=lh (HCb.out gb ob rfl k (bC Hl E));have hx:=Hsa.at k;have hy:=Hsb.at k;have Vl:D.take (k+1)=D.take k ++ [a.getD k 0-b.getD k 0]:=by
    have h1:=HN.out k E;rw [UJ (bC XI E)]
    congr 2
    rw [Pe (bC XI E)] at h1;injection h1
   have Up:(D.take k).length=k:=by rw [Po,XI.out];omega
   obtain ⟨ra,VK,rfl,-⟩:=QX.ints.open;rw [Up] at QX O |-
   generalize a.getD k 0=x at *
   generalize b.getD k 0=y at *
   have hw:IntKind.i64.wrap (x-y)=x-y:=Qe;obtain ⟨q,hq⟩:=bu (x-y)
   have Xe:IntKind.i64.wrap (x-y)=q:=hw.trans hq.symm;rw [<- hq] at Vl;have UF:∀ z∈[q],i7 .i64 z:=by simp only [i5,n7,i7];omega
   have JdJ:=lh (fun (W:World)=>aU (k:=.i64) (w:=W) (t:=3) (l:=[q]) rfl Qj UF 1 rfl rfl);have Hby:=lh (show ((D.take k).length+[q].length)*8<=140737488355328 by rw [Up];simp;omega);have Ra:Hid ((D.take k ++ [q]).length=k+1):=lh (by rw [Pn,Up];rfl);have Hnx:=lh Vl;have HFx:Hid (bj w.heap.size (.slice ra k VK)):=lh (fun g hg=>by have:=O.out g hg;have:=V.out;omega);clear UF Vl Up hx hy hw hq;have Sj:=lh E;clear E;go_wp2_with fail;refine (cZ _ _ _).mono ?_;rintro e I ⟨rfl,F⟩;have ca:=(QP.q F).cell Z Qb;have cb:=(QP.q F).cell HcB Qb;have J:=lh F;clear F e0 e1;go_upto_region 6 with (fail)
   refine Tf (S:=(fun w'=>w'.cell? ⟨ga,oa+k,none⟩=some (.int .i64 x)/\w'.cell? ⟨gb,ob+k,none⟩=some (.int .i64 y))) Qc ?_ (fun hHeld=>?_)
   ·exact ⟨ca,cb⟩
   refine tk 0 22 ?_;refine tk 1 23 ?_;refine tk 2 24 ?_;refine tk 3 25 ?_;refine tk 4 26 ?_;refine tk 5 27 ?_;refine tk 6 28 ?_;refine tk 7 29 ?_;refine tk 8 30 ?_;refine tk 9 31 ?_;refine j6 10 32 fun K hK=>?_
   go_simp;refine ko hK ⟨(ae.new I (.cells #[q] 3)).cell ca Qb,(ae.new I (.cells #[q] 3)).cell cb Qb⟩ fun hHeld=>?_;clear hK K
   refine j6 11 33 fun K hK=>?_
   refine ck rfl (.tmp 22) (.tmp 32) _ rfl EI (((QX.quiet J).quiet (ae.new I (.cells #[q] 3))).quiet (AY).drew) rfl ((JdJ.out I).quiet (AY).drew) rfl Hby (by have:=M.out;have:=J.size;have:=(ae.new I (.cells #[q] 3)).size;first | exact Pw this (Pm _) | (simp;omega)) (fun v1 w6 QG Rc=>?_);obtain ⟨x1,SV,RZ,_⟩:=QG.ints.open;subst RZ;rw [Ra.out] at QG Rc |-
   have SD:=lh QG;have Sa:=lh Rc;have N:=((QP.q (J.q (ae.new I (.cells #[q] 3)))).drew).acc Rc HFx;have HD6:=lh N;clear QG Rc;refine ko hK ⟨N.cell Z Qb,N.cell HcB.out Qb⟩ fun hHeld=>?_;clear hK K
   refine tk 12 7 ?_;refine Wn Qc ?_ _;go_wp2_with fail;have hb6:=Sa.row O (((J.q (ae.new I (.cells #[q] 3))).drew).row Sg) (j0 V.out);have he6:=Sa.row O (((J.q (ae.new I (.cells #[q] 3))).drew).row Yx) (j0 V.out);have hz6:=Sa.only.size;have hz5:=(ae.new I (.cells #[q] 3)).size;refine ⟨⟨k+1,by have:=Sj.out;omega,Qh,lh (bC Hnx SD),lh (Sa.from_ O ?_),HD6,lh ?_,lh hb6,lh he6⟩,by simp [intOf];have:=Sj.out;omega⟩
   ·exact Pw M (Pw J.size hz5)
   ·exact Pw M (Pw J.size (Pw hz5 hz6))
  ·obtain rfl:k=a.length:=Qa
   have Rt:¬ (a.length:Int)<(a.length:Int):=Qa;rw [YN (by rw [XI.out];exact Pm _)] at QX;go_wp2_with fail;refine (cZ _ _ _).mono ?_;rintro e I ⟨rfl,F⟩;have Rh:=lh (QP.q F);have J:=lh F;have hE4:=F.row Yx;have hB4:=F.row Sg;clear F e0 e1;obtain ⟨e0,e1,-⟩:=aL hB4;obtain ⟨z0,z1,y0,y1,-⟩:=aL hE4;obtain ⟨QK,QV⟩:=aJ (x:=.int .i64 0) (y:=.slice none 0 0) hE4;have RX:¬ B=w.heap.size:=dT V
   have Rx:=(Rh.trans QV (U:=[]) Qb (fun g hg E=>Qd))
   go_upto_region 7 with (fail);refine Tf (S:=(fun w'=>w'.cell? ⟨B,0,none⟩=some (.int .i64 0)/\w'.cell? ⟨B,1,none⟩=some (.slice none 0 0))) Qc ?_ (fun hHeld=>?_)
   ·exact ⟨e0,e1⟩
   refine tk 0 34 ?_;refine tk 1 35 ?_;refine tk 2 4 ?_;refine j9 3 fun K hK=>?_
   go_simp;refine ko hK uj fun hHeld=>?_;clear hK K
   refine Wn Qc ?_ _;go_wp2_with fail;refine TV (aA results149 _ _ w.heap.size _ _ _ _ _ rfl rfl QK underlying39 rfl (aG _ rfl)) rfl (QF.out _ _ ⟨⟨_,rfl,?_⟩,Rx.drew⟩);exact ((((QX.quiet J).only QV (fun g hg hh=>by rw [i5] at hg;subst hg;have:=O.out _ hh;have:=V.out;omega)).quiet (AY).drew).lower (j0 V.out))
theorem Ae {lo hi lo' hi':Nat} {u v:Value} {a b:List Int} {w:World} (ha:aj .i64 lo hi w u a) (hb:aj .i64 lo' hi' w v b) (Y:b.length=a.length) (hm:a.length<=64) (sa:ar a) (sb:ar b):Calls prog 155 #[u,v] w fun e w'=>(e=.returned (.tuple #[.int .i64 (dF a b),.agg #[(),d8]])/\ae [] w w'):=by
 refine aK fun Q QF=>?_
 have HT:=lh (fun (W:World) (o:ae [] w W)=>Ai (ha.quiet o) (hb.quiet o) Y hm sa sb);have I:=lh (fun (k:Nat) (h:k<a.length)=>Bo h Y);have YJ:=lh (uq sa sb);have Sm:Hid (dF (a.take a.length) (b.take a.length)=dF a b):=lh (by rw [YN Qa,YN Qa]);have H0:Hid (dF (a.take 0) (b.take 0)=0):=lh (by simp [dF]);rw [<- Sm.out] at QF;clear Sm;generalize hT:(fun k=>dF (a.take k) (b.take k))=T at *
 have O:∀ k,dF (a.take k) (b.take k)=T k:=fun k=>by rw [<- hT]
 simp only [O] at QF I YJ H0;clear hT O;have Hl:=lh Y;have Hm:=lh hm;have Hsa:=lh sa;have Hsb:=lh sb;obtain ⟨aa,ac,rfl,-,-,J,V⟩:=ha.open;obtain ⟨ba,bc,rfl,-,-,L,Zm⟩:=hb.open;have HAa:=lh J;have HCa:=lh V;have HAb:=lh L;have HCb:=lh Zm;rw [Y] at HT |-
 have hal:(a.length:Int)<=64:=Qa;have QI:=ae.new w (.cells #[(),d8] 39);have Rg:Hid ((w.alloc (.cells #[(),d8] 39)).heap[w.heap.size]?=some (.cells #[(),d8] 39)):=Sd w _;have TF:Hid ((w.alloc (.cells #[(),d8] 39)).heap.size=w.heap.size+1):=lh Qb;have QO:=lh QI;clear ha hb Y hm sa sb J L V Zm QI;go_enter func155,ntmps155;go_wp2_with fail;generalize Rs:World.alloc w _=W1 at *
 clear Rs;refine (HT.out W1 QO).mono ?_;rintro e E ⟨rfl,QN⟩;have QQ:=QN.q (ae.new E (.cells #[(),d8] 39));have Wk:Hid ((E.alloc (.cells #[(),d8] 39)).heap[E.heap.size]?=some (.cells #[(),d8] 39)):=Sd E _;have HE3:=lh (QQ.row Rg);have QW:=lh (QO.q QQ);have UR:Hid (w.heap.size<E.heap.size/\(E.alloc (.cells #[(),d8] 39)).heap.size=E.heap.size+1):=lh ⟨by have:=QN.size;have:=TF.out;omega,Qb⟩;clear QN QQ QO Rg TF;go_wp2_with fail;generalize Tb:World.alloc E _=W3 at *
 clear Tb;generalize E.heap.size=B at *
 go_loopw [8,7] (fun i y wr=>∃ k:Nat,k<=a.length/\i=.int .i64 k/\y=.int .i64 (T k)/\Hid (ae [] w wr)/\Hid (W3.heap.size<=wr.heap.size)/\Hid (wr.heap[B]?=some (.cells #[(),d8] 39))/\Hid (wr.heap[w.heap.size]?=some (.cells #[(),d8] 39))) (fun i _ _=>a.length-(intOf i).toNat)
 case atStart=>exact ⟨0,Qa,rfl,by rw [H0.out],QW,lh (Pm _),Wk,HE3⟩
 case round =>
  obtain ⟨k,hk,rfl,rfl,Z,HZk,Sg,Yx⟩:=hrel;obtain ⟨e0,e1,-⟩:=aL Sg;by_cases F:k<a.length
  ·have Rt:(k:Int)<(a.length:Int):=Qa
   have RA:(0:Int)<=(k:Int):=Qa;obtain ⟨ga,oa,rfl,-,-⟩:=HAa.out k F;obtain ⟨gb,ob,rfl,-,-⟩:=HAb.out k (bC Hl F);have HcA:=lh (HCa.out ga oa rfl k F);have HcB:=lh (HCb.out gb ob rfl k (bC Hl F));have hx:=Hsa.at k;have hy:=Hsb.at k;have ht:=YJ.out k;have HTk:=lh (I.out k F);generalize a.getD k 0=x at *
   generalize b.getD k 0=y at *
   generalize hc:T k=c at *
   obtain ⟨WL,RZ⟩:=hx;obtain ⟨Vo,XW⟩:=hy;obtain ⟨ht0,ht1⟩:=ht;have ht2:c<=100000:=Qa;clear hc ht1;have Sj:=lh F;clear F;go_wp2_with fail;refine (cZ _ _ _).mono ?_;rintro e w4 ⟨rfl,D⟩;have ca:=(Z.q D).cell HcA Qb;have cb:=(Z.q D).cell HcB Qb;have M:=lh D;clear D e0 e1;go_upto_region 6 with (fail)
   go_quiet (fail)
   go_wp2_with fail;exact ⟨⟨k+1,by have:=Sj.out;omega,Qh,by rw [HTk.out];congr 1;omega,lh (Z.q (M.drewN _)),lh (Pw HZk M.size),lh ((M.drewN _).row Sg),lh ((M.drewN _).row Yx)⟩,by simp [intOf];have:=Sj.out;omega⟩
  ·obtain rfl:k=a.length:=Qa
   have Rt:¬ (a.length:Int)<(a.length:Int):=Qa;have Htr:Hid True:=lh trivial;go_wp2_with fail;refine (cZ _ _ _).mono ?_;rintro e w4 ⟨rfl,D⟩;have Rh:=lh (Z.q D);have M:=lh D;have N:=D.row Yx;have hB4:=D.row Sg;clear D e0 e1;obtain ⟨e0,e1,-⟩:=aL hB4;obtain ⟨z0,z1,y0,y1,-⟩:=aL N;obtain ⟨QK,QV⟩:=aJ (x:=.int .i64 0) (y:=.slice none 0 0) N;have RX:¬ B=w.heap.size:=dT UR
   have Rx:=(Rh.trans QV (U:=[]) Qb (fun g hg F=>Qd))
   go_upto_region 7 with (fail);refine Tf (S:=(fun w'=>w'.cell? ⟨B,0,none⟩=some (.int .i64 0)/\w'.cell? ⟨B,1,none⟩=some (.slice none 0 0))) Qc ?_ (fun hHeld=>?_)
   ·exact ⟨e0,e1⟩
   refine tk 0 43 ?_;refine tk 1 44 ?_;refine tk 2 4 ?_;refine j9 3 fun K hK=>?_
   go_simp;refine ko hK uj fun hHeld=>?_;clear hK K
   refine Wn Qc ?_ _;go_wp2_with fail;refine TV (aA results155 _ _ w.heap.size _ _ _ _ _ rfl rfl QK underlying39 rfl (aG _ rfl)) rfl (QF.out _ _ ⟨by first | rfl | trivial,Rx.drew⟩)
end
section
theorem JJ {lo hi:Nat} {pv:Value} {w:World} {f:ah} (D:FrOk f) (h:aj .i64 lo hi w pv f.pix) (x y:Int) (hx:0<=x/\x<f.W) (hy:0<=y/\y<f.H) :
  Calls prog 148 #[.agg #[f.W,f.H,pv],x,y] w fun e w'=>e=.returned (.int .i64 (f.pix.getD (y*f.W+x).toNat 0))/\ae [] w w':=by
 have O:8<=f.W/\f.W<=32:=⟨D.w0,D.w1⟩
 have M:8<=f.H/\f.H<=32:=⟨D.h0,D.h1⟩
 obtain ⟨I,J,i3,i4⟩:=rU O M x y;rw [show min (max y 0) (f.H-1)=y by omega] at I J;rw [show min (max x 0) (f.W-1)=x by omega] at J;have QJ:=D.len;obtain ⟨b,off,cap,rfl,-,-,E⟩:=h.at (i:=(y*f.W+x).toNat) Qa;have Y:=lh (ae.new w (.cells #[f.W,f.H,.slice (some ⟨b,off,none⟩) f.pix.length cap] 24));have SE:=(ae.new w (.cells #[f.W,f.H,.slice (some ⟨b,off,none⟩) f.pix.length cap] 24)).cell E Qb;have Z:=lh (Sd w (.cells #[f.W,f.H,.slice (some ⟨b,off,none⟩) f.pix.length cap] 24));generalize f.pix.getD (y*f.W+x).toNat 0=v at *
 generalize f.pix.length=N at *
 generalize f.W=W at *
 generalize f.H=H at *
 obtain ⟨k,V⟩:∃ k:Nat,(y*W+x).toNat=k:=⟨_,rfl⟩
 have L:y*W+x=(k:Int):=Qa;rw [V] at E SE;obtain ⟨WL,RZ⟩:=hx;obtain ⟨Vo,XW⟩:=hy;obtain ⟨Rs,VZ⟩:=O;obtain ⟨hH1,hH2⟩:=M;have p1:¬ y<0:=Qa;have p2:¬ H-1<y:=Qa;have p3:¬ x<0:=Qa;have p4:¬ W-1<x:=Qa;have a1:IntKind.i64.wrap (H-1)=H-1:=Qe;have a2:IntKind.i64.wrap (W-1)=W-1:=Qe;have F:0<=y*W:=I;have a3:IntKind.i64.wrap (y*W)=y*W:=Qe;have a4:IntKind.i64.wrap (y*W+x)=(k:Int):=by rw [L,Pk];omega
 have q0:(0:Int)<=(k:Int):=Qa;have q1:(k:Int)<(N:Int):=Qa;clear E h D QJ I J i3 i4 V L F;obtain ⟨r0,r1,r2⟩:=ag Z;go_enter func148,ntmps148;go_wp2_with fail;go_ret;exact ⟨rfl,Y.out⟩
theorem JP {lo hi:Nat} {pv:Value} {w:World} {f:ah} (D:FrOk f) (h:aj .i64 lo hi w pv f.pix) (x y:Int) (hx:0<=x/\x+8<=f.W) (hy:0<=y/\y+8<=f.H) :
  Calls prog 91 #[.agg #[f.W,f.H,pv],x,y,.int .i64 8] w fun e w'=>∃ v',e=.returned v'/\f9 .i64 3 w.heap.size w' v' (aP f x y 8)/\ae [] w w':=by
 refine aK fun Q QF=>?_
 obtain ⟨a,cap,rfl,-⟩:=h.open;have N:=ae.new w (sT f a cap);have Rg:=lh (Sd w (sT f a cap));have QO:=lh N;have HI:=lh (h.quiet N);have HM:=lh (fun (W:World) (o:aj .i64 lo hi W (.slice a f.pix.length cap) f.pix)=>by have:=gZ f.W f.H o;rw [show cT ⟨f.W,f.H,f.pix⟩=true from dp.2 D] at this;exact this);have HA:=lh (fun (W:World) (o:aj .i64 lo hi W (.slice a f.pix.length cap) f.pix) (x y:Int) (hx:0<=x/\x<f.W) (hy:0<=y/\y<f.H)=>JJ D o x y hx hy);have YJ:=lh (fun k=>D.sam.at k);have HD:=lh (zI f x y);have hw1:=D.w1;have hh1:=D.h1;obtain ⟨WL,RZ⟩:=hx;obtain ⟨Vo,XW⟩:=hy;have x2:x<=24:=Qa;have y2:y<=24:=Qa;clear h N D;obtain ⟨r0,r1,r2⟩:=ag Rg;go_enter func91,ntmps91;go_wp2_with fail;clear r0 r1 r2;generalize Rs:World.alloc w _=W1 at *
 have UN:Hid (w.heap.size<W1.heap.size):=lh (by rw [<- Rs];simp);clear Rs;refine (HM.out W1 HI).mono ?_;rintro e w2 ⟨rfl,QN⟩;have QT:=lh QN;clear QN HM;go_wp2_with fail;go_loopw [10,9,11] (fun j r _ wr=>∃ (k:Nat),k<=8/\j=.int .i64 k/\Hid (f9 .i64 3 W1.heap.size wr r (ks f x y (k*8)))/\Hid (bj W1.heap.size r)/\Hid (ae [] W1 wr)) (fun j _ _ _=>8-(intOf j).toNat)
 case atStart=>exact ⟨0,Qa,rfl,lh (f9.nil _ _ _ _),lh (bj.nil _),QT⟩
 case round =>
  obtain ⟨k,hk,rfl,O,SU,QP⟩:=hrel;by_cases QH:k<8
  ·have Rt:(k:Int)<8:=Qa
   have RA:(0:Int)<=(k:Int):=Qa;go_wp2_with fail;go_loopw [11,9] (fun i r wr=>∃ (n:Nat),n<=8/\i=.int .i64 n/\Hid (f9 .i64 3 W1.heap.size wr r (ks f x y (k*8+n)))/\Hid (bj W1.heap.size r)/\Hid (ae [] W1 wr)) (fun i _ _=>8-(intOf i).toNat)
   case atStart=>exact ⟨0,Qa,rfl,O,SU,QP⟩
   case round =>
    obtain ⟨n,hn,rfl,F,L,E⟩:=hrel;by_cases M:n<8
    ·have Z:(n:Int)<8:=Qa
     have Xz:(0:Int)<=(n:Int):=Qa;have Sy:=lh (vZ f x y (j:=k) M);have HC:=lh (fun W o=>HA.out W o (x+(n:Int)) (y+(k:Int)) Qa Qa);have QS:=YJ.out ((y+(k:Int))*f.W+(x+(n:Int))).toNat;generalize f.pix.getD ((y+(k:Int))*f.W+(x+(n:Int))).toNat 0=hv at *
     have UF:∀ z∈[hv],i7 .i64 z:=by simp only [i5,n7,i7];omega
     have RI:=lh (fun (W:World)=>aU (k:=.i64) (w:=W) (t:=3) (l:=[hv]) rfl Qj UF 1 rfl rfl);have TU:=lh (show ((ks f x y (k*8+n)).length+[hv].length)*8<=140737488355328 by rw [kI];simp;omega);have Ra:Hid ((ks f x y (k*8+n) ++ [hv]).length=k*8+n+1):=lh (by rw [Pn,kI];rfl);obtain ⟨ra,VK,rfl,-⟩:=F.ints.open;rw [kI] at F L |-
     obtain ⟨r0,r1,r2⟩:=ag (E.row Rg);have Tg:=lh (HI.quiet E);clear UF QS;go_wp2_with fail;refine (HC.out _ Tg).mono ?_;rintro e w3 ⟨rfl,J⟩;have QW:=lh J;have Ui:=lh (F.quiet J);have Tn:=lh (fun (o:Obj)=>(show W1.heap.size<=(w3.alloc o).heap.size by have:=E.size;have:=J.size;simp;omega));clear J
     go_wp2_with (first
      | (at_builtin;refine au rfl (.tmp 49) (.tmp 58) _ rfl EI (Ui.quiet (BS)) rfl (RI.out _) rfl TU (Tn.out _) (fun v1 w4 I V=>?_);obtain ⟨x1,SV,RZ,_⟩:=I.ints.open;subst RZ;rw [Ra.out] at I V |-;have SD:=lh I;have Sa:=lh V;clear I V)
      | fail)
     refine ⟨⟨n+1,Qa,Qh,lh ?_,lh (Sa.from_ L (Tn.out _)),lh (((E.q QW).q (BS)).acc Sa L)⟩,Qf⟩;rw [<- Nat.add_assoc,Sy.out];exact SD
    ·obtain rfl:n=8:=Qa
     have Z:¬ ((8:Nat):Int)<8:=Qa;have Y:Hid (ks f x y (k*8+8)=ks f x y ((k+1)*8)):=lh (by rw [show (k+1)*8=k*8+8 by omega]);rw [Y.out] at F;go_wp2_with fail;exact ⟨⟨k+1,Qa,Qh,F,L,E⟩,Qf⟩
  ·obtain rfl:k=8:=Qa
   have Rt:¬ ((8:Nat):Int)<8:=Qa;have Y:Hid (ks f x y (8*8)=aP f x y 8):=HD;rw [Y.out] at O;go_wp2_with fail;exact QF.out _ _ ⟨_,rfl,O.lower (Nat.le_of_lt UN),QO.q QP.out⟩
end
end Go.Proofs.YthcafdfdglfabaaGreatDoor
