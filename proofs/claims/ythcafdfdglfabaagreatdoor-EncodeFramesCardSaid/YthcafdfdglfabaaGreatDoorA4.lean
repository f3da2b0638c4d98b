/- Joined texts: DRkL, DRkG. Conditions: each part names its own. -/
import Derived.Test.YthcafdfdglfabaaGreatDoorW7
namespace Go.Proofs.YthcafdfdglfabaaGreatDoor
open Go.RowKit
set_option linter.unusedVariables false
set_option linter.unusedSimpArgs false
set_option maxRecDepth 100000
set_option maxHeartbeats 16000000
section
theorem rR {p:Prop} (h:p:=by
 exact ⟨Nd.cell e0 (by rw [mSg];exact OT),Nd.cell e1 (by rw [mSg];exact OT)⟩):p:=h
theorem zS (c:Int) (n:Nat) (hn:n<=15) (hc:-16777216<=c/\c<=16777216) (w:World):Calls Tryz.prog 207 #[c,n] w fun e w'=>(e=.returned (.tuple #[.int .i64 (fz n c),.agg #[(),JEu]])/\ae [] w w'):=by
 refine aN fun Q MM=>?_
 have hs:=pm hn;have HL:Hid (fz n c=if c<0 then -((bh n / 2-c) / bh n) else (c+bh n / 2) / bh n):=lh rfl;have MP:=ae.new w (.cells #[(),JEu] 39);have Nq:Hid ((w.alloc (.cells #[(),JEu] 39)).heap[w.heap.size]?=some (.cells #[(),JEu] 39 (0,0))):=lh (heap_alloc_new w _);have MT:=lh MP;have HS:=lh (fun W=>lM n hn W);clear MP hn;generalize bh n=s at *
 generalize fz n c=R at *
 obtain ⟨s0,s1⟩:=hs;obtain ⟨c0,c1⟩:=hc;have n1:¬ c < -16777216:=Mf;have n2:¬ (16777216:Int)<c:=Mf;go_enter Tryz.func207,Tryz.ntmps207;go_wp2_with fail;have PO:Hid ((w.alloc (.cells #[(),JEu] 39)).heap.size=w.heap.size+1):=lh Mg;generalize NB:World.alloc w _=W1 at *
 clear NB;go_at_call 206;refine (HS.out W1).mono ?_;rintro e w2 ⟨rfl,MV⟩;have Nb:=MV.q (ae.new w2 (.cells #[(),JEu] 39));have Px:Hid ((w2.alloc (.cells #[(),JEu] 39)).heap[w2.heap.size]?=some (.cells #[(),JEu] 39 (0,0))):=lh (heap_alloc_new w2 _);have Nq:=lh (Nb.row Nq);have Nf:=lh (MT.q Nb);have Hne:Hid (¬ w2.heap.size=w.heap.size):=lh (by have:=MV.size;have:=PO.out;omega);clear MV Nb;go_wp2_with fail;generalize PZ:World.alloc w2 _=W3 at *
 clear PZ;obtain ⟨B2,hB2⟩:∃ z,z=w2.heap.size:=⟨_,rfl⟩
 rw [<- hB2] at Px Hne |-
 clear hB2;go_at_call 37;refine (cK _ _ _).mono ?_;rintro e w4 ⟨rfl,Ng⟩;have NI:=lh (Nf.q Ng);have JiQ:=lh (Ng.row Px);have JcS:=lh (Ng.row Nq);obtain ⟨e0,e1,-⟩:=aJ JiQ;obtain ⟨z0,z1,y0,y1,-⟩:=aJ JcS;clear Ng;obtain ⟨MS,Nd⟩:=aH (x:=.int .i64 0) (y:=.slice none 0 0) JcS;have OT:=Hne.out;have NQ:=(NI.trans Nd (U:=[]) Mg (fun g hg MO=>Mj))
 have t1:s.tdiv 2=s / 2:=Int.tdiv_eq_ediv_of_nonneg Mf;have n3:¬ s=0:=Mf;obtain ⟨h2,hh2⟩:∃ z,z=s / 2:=⟨_,rfl⟩
 rw [<- hh2] at t1 HL;have b2:0<=h2/\h2<=192:=Mf;clear hh2;obtain ⟨b0,b1⟩:=b2;have a0:IntKind.i64.wrap h2=h2:=Mi;by_cases Xc:c<0
 ·rw [if_pos Xc] at HL
  have Tn:-c+h2=h2-c:=Mf;have t2:(-c+h2).tdiv s=(h2-c) / s:=by rw [Tn];exact Int.tdiv_eq_ediv_of_nonneg Mf
  have hb:=oU (a:=h2-c) (s:=s) Mf Mf s0;have HB:=lh hb;have a4:IntKind.i64.wrap (-c)=-c:=Mi;have a1:IntKind.i64.wrap (-c+h2)=-c+h2:=Mi;generalize (h2-c) / s=q at *
  have a2:IntKind.i64.wrap q=q:=by rw [Ll];have:=HB.out;omega
  have a3:IntKind.i64.wrap (-q)=-q:=by rw [Ll];have:=HB.out;omega
  clear hb Tn;go_upto_region 5 with (fail)
  refine wp_region_held_drew (S:=(fun w'=>w'.cell? ⟨B2,0,none⟩=some (.int .i64 0)/\w'.cell? ⟨B2,1,none⟩=some (.slice none 0 0))) Mh ?_ (fun hHeld=>?_)
  ·exact ⟨e0,e1⟩
  refine tk 0 27 ?_;refine tk 1 28 ?_;refine tk 2 29 ?_;refine tk 3 30 ?_;refine tk 4 31 ?_;refine tk 5 32 ?_;refine tk 6 33 ?_;refine tk 7 34 ?_;refine tk 8 35 ?_;refine tk 9 4 ?_;refine rdy (rdn 10 (fun K hK=>?_) .nil);go_simp;refine hK.out _ _ ?_ (fun hHeld=>?_)
  ·exact rR
  clear hK K
  try simp only [Act.put,Lg,Lj,Lk]
  refine wpAnyH_done Mh ?_ _;go_wp2_with fail;exact bodyPost_ret (v:=.tuple #[.int .i64 (-q),.agg #[(),JEu]]) (aA Tryz.results207 _ _ w.heap.size _ _ _ _ _ rfl rfl MS Tryz.underlying39 rfl (aR _ rfl)) rfl (MM.out _ _ ⟨by rw [HL.out],NQ.drew⟩)
 ·rw [if_neg Xc] at HL
  have t2:(c+h2).tdiv s=(c+h2) / s:=Int.tdiv_eq_ediv_of_nonneg Mf;have hb:=oU (a:=c+h2) (s:=s) Mf Mf s0;have HB:=lh hb;have a1:IntKind.i64.wrap (c+h2)=c+h2:=Mi;generalize (c+h2) / s=q at *
  have a2:IntKind.i64.wrap q=q:=by rw [Ll];have:=HB.out;omega
  clear hb;go_upto_region 6 with (fail)
  refine wp_region_held_drew (S:=(fun w'=>w'.cell? ⟨B2,0,none⟩=some (.int .i64 0)/\w'.cell? ⟨B2,1,none⟩=some (.slice none 0 0))) Mh ?_ (fun hHeld=>?_)
  ·exact ⟨e0,e1⟩
  refine tk 0 36 ?_;refine tk 1 37 ?_;refine tk 2 38 ?_;refine tk 3 39 ?_;refine tk 4 40 ?_;refine tk 5 41 ?_;refine tk 6 42 ?_;refine tk 7 4 ?_;refine rdy (rdn 8 (fun K hK=>?_) .nil);go_simp;refine hK.out _ _ ?_ (fun hHeld=>?_)
  ·exact rR
  clear hK K
  try simp only [Act.put,Lg,Lj,Lk]
  refine wpAnyH_done Mh ?_ _;go_wp2_with fail;exact bodyPost_ret (v:=.tuple #[.int .i64 (q),.agg #[(),JEu]]) (aA Tryz.results207 _ _ w.heap.size _ _ _ _ _ rfl rfl MS Tryz.underlying39 rfl (aR _ rfl)) rfl (MM.out _ _ ⟨by rw [HL.out],NQ.drew⟩)
theorem pI {lo hi:Nat} {v:Value} {l:List Int} {w:World} (h:ah .i64 lo hi w v l) (hl:l.length<=64) (Nj:∀ x∈l,-16777216<=x/\x<=16777216) (n:Nat) (hn:n<=15):Calls Tryz.prog 151 #[v,n] w fun e w'=>((∃ v',e=.returned (.tuple #[v',.agg #[(),JEu]])/\Own .i64 3 w.heap.size w' v' (l.map (fz n)))/\ae [] w w'):=by
 refine aN fun Q MM=>?_
 obtain ⟨la,Nn,rfl,-,-,Pd,MZ⟩:=h.open;have Sp:=lh Pd;have NX:=lh MZ;have MP:=ae.new w (.cells #[(),JEu] 39);have Nq:Hid ((w.alloc (.cells #[(),JEu] 39)).heap[w.heap.size]?=some (.cells #[(),JEu] 39 (0,0))):=lh (heap_alloc_new w _);have PO:Hid ((w.alloc (.cells #[(),JEu] 39)).heap.size=w.heap.size+1):=lh Mg;have MT:=lh MP;have HS:=lh (fun W=>lM n hn W);have HV:=lh (fun (x:Int) (hx:-16777216<=x/\x<=16777216) (W:World)=>zS x n hn hx W);have HLb:=lh (fun (x:Int) (hx:-16777216<=x/\x<=16777216)=>Bp hn hx);have HD:Hid (l.map (fz n)=l.map (fz n)):=lh rfl;obtain ⟨LD,hLD⟩:∃ z:Int->Int,z=fz n:=⟨_,rfl⟩
 rw [<- hLD] at HV HD HLb MM;clear hLD;have UI:=lh Nj;clear h Pd MZ MP hn Nj HD;generalize bh n=st at *
 go_enter Tryz.func151,Tryz.ntmps151;go_wp2_with fail;generalize NB:World.alloc w _=W1 at *
 clear NB;go_at_call 206;refine (HS.out W1).mono ?_;rintro e w2 ⟨rfl,MV⟩;have Nb:=MV.q (ae.new w2 (.cells #[(),JEu] 39));have SJ:Hid ((w2.alloc (.cells #[(),JEu] 39)).heap[w2.heap.size]?=some (.cells #[(),JEu] 39 (0,0))):=lh (heap_alloc_new w2 _);have OG:=lh (Nb.row Nq);have Nf:=lh (MT.q Nb);have QM:Hid (w.heap.size<w2.heap.size/\(w2.alloc (.cells #[(),JEu] 39)).heap.size=w2.heap.size+1):=lh ⟨by have:=MV.size;have:=PO.out;omega,Mg⟩;clear MV Nb MT Nq PO;go_wp2_with fail;generalize PZ:World.alloc w2 _=W3 at *
 clear PZ;generalize w2.heap.size=B at *
 go_loopw [9,8,10,11] (fun i y _ _ wr=>∃ k:Nat,k<=l.length/\i=.int .i64 k/\Hid (Own .i64 3 W3.heap.size wr y ((l.take k).map LD))/\Hid (bB W3.heap.size y)/\Hid (ae [] w wr)/\Hid (W3.heap.size<=wr.heap.size)/\Hid (wr.heap[B]?=some (.cells #[(),JEu] 39 (0,0)))/\Hid (wr.heap[w.heap.size]?=some (.cells #[(),JEu] 39 (0,0)))) (fun i _ _ _ _=>l.length-(intOf i).toNat)
 case atStart=>exact ⟨0,Mf,rfl,lh (Own.nil _ _ _ _),lh (bB.nil _),Nf,lh (Lm _),SJ,OG⟩
 case round =>
  obtain ⟨k,hk,rfl,Nc,OO,MW,HZk,Oi,WK⟩:=hrel;obtain ⟨e0,e1,-⟩:=aJ Oi;by_cases MO:k<l.length
  ·have Ny:(k:Int)<(l.length:Int):=Mf
   have NU:(0:Int)<=(k:Int):=Mf;obtain ⟨b,off,rfl,_,_⟩:=Sp.out k MO;have hx:-16777216<=l.getD k 0/\l.getD k 0<=16777216:=UI.out _ (by rw [Le,Lf MO];exact LM _);have Sq:Hid ((l.take (k+1)).map LD=(l.take k).map LD ++ [LD (l.getD k 0)]):=lh (by
    rw [List.take_succ_eq_append_getElem MO,LS,Le,Lf MO];rfl)
   have Hc:=lh (NX.out b off rfl k MO);generalize l.getD k 0=x at *
   have hxs:=HLb.out x hx;simp only [InK] at hxs;have HVx:=lh (HV.out x hx);obtain ⟨y0x,Sr⟩:∃ z,z=LD x:=⟨_,rfl⟩
   rw [<- Sr] at Sq HVx hxs;clear Sr;have MX:∀ y∈[y0x],InK .i64 y:=by simp only [mSg,forall_eq,InK];omega
   have Oa:=lh (fun (W:World)=>bg (k:=.i64) (w:=W) (t:=3) (l:=[y0x]) rfl Mo MX 1 rfl rfl);have Qj:=lh (show (((l.take k).map LD).length+[y0x].length)*8<=140737488355328 by simp;omega);have Ni:=lh (show (((l.take k).map LD) ++ [y0x]).length=k+1 by simp;omega);obtain ⟨ra,RT,rfl,-⟩:=Nc.ints.open;have hlk:((l.take k).map LD).length=k:=Mq;rw [hlk] at Nc OO |-
   have Hx:=lh hx;clear MX hlk hx hxs;go_wp2_with fail;go_at_call 37;refine (cK _ _ _).mono ?_;rintro e w4 ⟨rfl,Ng⟩;have hc:=(MW.q Ng).cell Hc Mg;have Vp:=lh Ng;clear Ng e0 e1;go_wp2_with fail;go_at_call 207;refine (HVx.out _).mono ?_;rintro e w5 ⟨rfl,NF⟩;have TN:=Vp.q NF;have Nz:=lh (MW.q TN);have Sx:=lh (Nc.quiet TN);have Tj:=(ae.new w5 (.cells #[(),JEu] 39)).q (ae.new _ (.cells #[.int .i64 (y0x)] 3));have Xs:=lh ((TN.q Tj).row Oi);have HE5:=lh ((TN.q Tj).row WK);have H11:=lh ((ae.new (w5.alloc (.cells #[(),JEu] 39)) (.cells #[.int .i64 (y0x)] 3)).row (heap_alloc_new w5 (.cells #[(),JEu] 39)));have Hnb:Hid (¬ w5.heap.size∈(Value.slice ra k RT).ownBlock.toList):=lh (fun hm=>by have:=(Sx.at w5.heap.size Mu).2;omega);have Jcv:Hid (B<W3.heap.size):=lh (by have:=QM.out;omega);have Jcz:Hid (w.heap.size<W3.heap.size):=lh (by have:=QM.out;omega);have HN5:=lh Tj;have PG:=lh (show W3.heap.size<=((w5.alloc (.cells #[(),JEu] 39)).alloc (.cells #[.int .i64 (y0x)] 3)).heap.size by have:=HZk.out;have:=TN.size;have:=Tj.size;omega);have Vg:=Oa.out (w5.alloc (.cells #[(),JEu] 39));rw [World.size_alloc] at Vg;have Jdo:=lh Vg;clear NF TN hc Tj Vg
   go_wp2_with (first
    | (at_builtin;refine aw rfl (.tmp 36) (.tmp 38) _ rfl EI (Sx.quiet ((ae.new w5 (.cells #[(),JEu] 39)).q (ae.new _ _))) rfl Jdo rfl Qj PG (fun v1 w6 MN Nu=>?_);obtain ⟨x1,OW,OB,_⟩:=MN.ints.open;subst OB;rw [Ni.out] at MN Nu |-;have Oy:=lh MN;have Od:=lh Nu;have Jeb:=Nu.only.rowAt H11 Hnb;have Xj:=Nu.row OO Xs Jcv;have Xk:=Nu.row OO HE5 Jcz;have HB6:=lh Xj;have HE6:=lh Xk;obtain ⟨q0,q1,-⟩:=aJ Jeb;obtain ⟨n0,n1,m0,m1,-⟩:=aJ Xj;clear MN Nu Jeb Xj Xk)
    | fail)
   obtain ⟨MS,Nd⟩:=aH (x:=.int .i64 0) (y:=.slice none 0 0) HB6;have hfr:=Od.from_ OO PG;have hz6:=Od.only.size;refine ⟨⟨k+1,Mf,Mm,lh ?_,lh hfr,lh ?_,lh ?_,lh MS,lh (Nd.rowAt HE6 (by rw [mSg];have:=QM.out;omega))⟩,Mk⟩
   ·rw [Sq.out]
    exact Oy.only Nd (fun g hg hh=>by rw [mSg] at hg;subst hg;have:=hfr _ hh;have:=Jcv.out;omega)
   ·exact ((Nz.q HN5).trans Od.only (U:=[]) Mg (fun g hg MO=>by have:=OO.out g Mt;have:=Jcz.out;omega)).trans Nd (U:=[]) Mg (fun g hg MO=>by rw [mSg] at hg;have:=QM.out;omega)
   ·exact Lz (Lz PG hz6) Nd.size
  ·obtain rfl:k=l.length:=Mf
   have Ny:¬ (l.length:Int)<(l.length:Int):=Mf;rw [List.take_length] at Nc;go_wp2_with fail;go_at_call 37;refine (cK _ _ _).mono ?_;rintro e w4 ⟨rfl,Ng⟩;have XZ:=lh (Nc.quiet Ng);have NI:=lh (MW.q Ng);have HE4:=lh (Ng.row WK);have Zc:=lh (Ng.row Oi);clear Ng e0 e1;obtain ⟨e0,e1,-⟩:=aJ Zc;go_wp2_with fail;go_at_call 37;refine (cK _ _ _).mono ?_;rintro e w5 ⟨rfl,NF⟩;have Sx:=lh (XZ.quiet NF);have Nz:=lh (NI.q NF);have HE5:=lh (NF.row HE4);have Xs:=lh (NF.row Zc);clear NF e0 e1;obtain ⟨e0,e1,-⟩:=aJ Xs;obtain ⟨z0,z1,y0,y1,-⟩:=aJ HE5;go_wp2_with fail;obtain ⟨MS,Nd⟩:=aH (x:=.int .i64 0) (y:=.slice none 0 0) HE5;have OT:¬ B=w.heap.size:=by have:=QM.out;omega
   have NQ:=(Nz.trans Nd (U:=[]) Mg (fun g hg MO=>Mj))
   refine wp_region_held_drew (S:=(fun w'=>w'.cell? ⟨B,0,none⟩=some (.int .i64 0)/\w'.cell? ⟨B,1,none⟩=some (.slice none 0 0))) Mh ?_ (fun hHeld=>?_)
   ·exact ⟨e0,e1⟩
   refine tk 0 45 ?_;refine tk 1 46 ?_;refine tk 2 4 ?_;refine rdy (rdn 3 (fun K hK=>?_) .nil);go_simp;refine hK.out _ _ ?_ (fun hHeld=>?_)
   ·exact rR
   clear hK K
   try simp only [Act.put,Lg,Lj,Lk]
   refine wpAnyH_done Mh ?_ _;go_wp2_with fail;refine bodyPost_ret (aA Tryz.results151 _ _ w.heap.size _ _ _ _ _ rfl rfl MS Tryz.underlying39 rfl (aR _ rfl)) rfl (MM.out _ _ ⟨⟨_,rfl,?_⟩,NQ.drew⟩);exact ((Sx.only Nd (fun g hg hh=>by rw [mSg] at hg;subst hg;have:=OO.out _ hh;have:=QM.out;omega)).quiet (ae.refl _ _).drew).lower (by have:=QM.out;omega)
theorem yw {l:List Int} (h:au l):aX l (-1048576) 1048576=true:=by
 unfold aX;rw [List.all_eq_true];intro x hx;have:=h x hx;rw [decide_eq_true_eq];omega
theorem xy {lo hi lo' hi':Nat} {u v:Value} {a b:List Int} {w:World} (ha:ah .i64 lo hi w u a) (hb:ah .i64 lo' hi' w v b) (hl:b.length=a.length) (hm:a.length<=64) (sa:au a) (sb:au b):Calls Tryz.prog 203 #[u,v] w fun e w'=>(e=.returned (.agg #[(),JEu])/\ae [] w w'):=by
 refine aN fun Q MM=>?_
 have HWa:=lh (fun (W:World) (o:ae [] w W)=>bS (-1048576) 1048576 (ha.quiet o));have HWb:=lh (fun (W:World) (o:ae [] w W)=>bS (-1048576) 1048576 (hb.quiet o));rw [yw sa] at HWa;rw [yw sb] at HWb;obtain ⟨aa,ac,rfl,-⟩:=ha.open;obtain ⟨ba,bc,rfl,-⟩:=hb.open;rw [hl] at HWb |-
 have MT:=lh (ae.new w (.cells #[(),JEu] 39));have Nq:=lh (heap_alloc_new w (.cells #[(),JEu] 39));clear ha hb hl hm sa sb;go_enter Tryz.func203,Tryz.ntmps203;go_wp2_with fail;generalize NB:World.alloc w _=W1 at *
 clear NB;go_at_call 61;refine (HWa.out _ MT).mono ?_;rintro e w2 ⟨rfl,hw2⟩;subst hw2;go_wp2_with fail;go_at_call 61;refine (HWb.out _ MT).mono ?_;rintro e w2 ⟨rfl,hw2⟩;subst hw2;obtain ⟨z0,z1,y0,y1,-⟩:=aJ Nq;go_wp2_with fail;obtain ⟨MS,Nd⟩:=aH (x:=.int .i64 0) (y:=.slice none 0 0) Nq;exact bodyPost_ret (v:=.agg #[(),JEu]) (results_cell_row Tryz.results203 _ _ w.heap.size _ _ _ _ rfl MS Tryz.underlying39 rfl (aR _ rfl)) rfl (MM.out _ _ ⟨rfl,MT.trans Nd Mg (fun g hg MO=>Mj)⟩)
theorem xx {lo hi lo' hi':Nat} {u v:Value} {a b:List Int} {w:World} (ha:ah .i64 lo hi w u a) (hb:ah .i64 lo' hi' w v b) (hl:b.length=a.length) (hm:a.length<=64) (sa:au a) (sb:au b):Calls Tryz.prog 149 #[u,v] w fun e w'=>((∃ v',e=.returned (.tuple #[v',.agg #[(),JEu]])/\Own .i64 3 w.heap.size w' v' (dH a b))/\ae [] w w'):=by
 refine aN fun Q MM=>?_
 have HT:=lh (fun (W:World) (o:ae [] w W)=>xy (ha.quiet o) (hb.quiet o) hl hm sa sb);have HN:=lh (fun (k:Nat) (h:k<a.length)=>CF h hl);have TU:Hid ((dH a b).length=a.length):=lh (fe rfl hl);generalize dH a b=D at *
 have Hl:=lh hl;have Hm:=lh hm;have Hsa:=lh sa;have Hsb:=lh sb;obtain ⟨aa,ac,rfl,-,-,JdA,hca⟩:=ha.open;obtain ⟨ba,bc,rfl,-,-,JdB,Zn⟩:=hb.open;have HAa:=lh JdA;have HCa:=lh hca;have HAb:=lh JdB;have HCb:=lh Zn;rw [hl] at HT |-
 have hal:(a.length:Int)<=64:=Mf;have MP:=ae.new w (.cells #[(),JEu] 39);have Nq:Hid ((w.alloc (.cells #[(),JEu] 39)).heap[w.heap.size]?=some (.cells #[(),JEu] 39 (0,0))):=lh (heap_alloc_new w _);have PO:Hid ((w.alloc (.cells #[(),JEu] 39)).heap.size=w.heap.size+1):=lh Mg;have MT:=lh MP;clear ha hb hl hm sa sb JdA JdB hca Zn MP;go_enter Tryz.func149,Tryz.ntmps149;go_wp2_with fail;generalize NB:World.alloc w _=W1 at *
 clear NB;go_at_call 203;refine (HT.out W1 MT).mono ?_;rintro e w2 ⟨rfl,MV⟩;have Nb:=MV.q (ae.new w2 (.cells #[(),JEu] 39));have SJ:Hid ((w2.alloc (.cells #[(),JEu] 39)).heap[w2.heap.size]?=some (.cells #[(),JEu] 39 (0,0))):=lh (heap_alloc_new w2 _);have OG:=lh (Nb.row Nq);have Nf:=lh (MT.q Nb);have QM:Hid (w.heap.size<w2.heap.size/\(w2.alloc (.cells #[(),JEu] 39)).heap.size=w2.heap.size+1):=lh ⟨by have:=MV.size;have:=PO.out;omega,Mg⟩;clear MV Nb MT Nq PO;go_wp2_with fail;generalize PZ:World.alloc w2 _=W3 at *
 clear PZ;generalize w2.heap.size=B at *
 go_loopw [8,7] (fun i y wr=>∃ k:Nat,k<=a.length/\i=.int .i64 k/\Hid (Own .i64 3 W3.heap.size wr y (D.take k))/\Hid (bB W3.heap.size y)/\Hid (ae [] w wr)/\Hid (W3.heap.size<=wr.heap.size)/\Hid (wr.heap[B]?=some (.cells #[(),JEu] 39 (0,0)))/\Hid (wr.heap[w.heap.size]?=some (.cells #[(),JEu] 39 (0,0)))) (fun i _ _=>a.length-(intOf i).toNat)
 case atStart=>exact ⟨0,Mf,rfl,lh (Own.nil _ _ _ _),lh (bB.nil _),Nf,lh (Lm _),SJ,OG⟩
 case round =>
  obtain ⟨k,hk,rfl,Nc,OO,MW,HZk,Oi,WK⟩:=hrel;obtain ⟨e0,e1,-⟩:=aJ Oi;by_cases MO:k<a.length
  ·have Ny:(k:Int)<(a.length:Int):=Mf
   have NU:(0:Int)<=(k:Int):=Mf;obtain ⟨ga,oa,rfl,-,-⟩:=HAa.out k MO;obtain ⟨gb,ob,rfl,-,-⟩:=HAb.out k (by rw [Hl.out];exact MO);have HcA:=lh (HCa.out ga oa rfl k MO);have HcB:=lh (HCb.out gb ob rfl k (by rw [Hl.out];exact MO));have hx:=Hsa.at k;have hy:=Hsb.at k;have Rl:D.take (k+1)=D.take k ++ [a.getD k 0-b.getD k 0]:=by
    have h1:=HN.out k MO;rw [List.take_succ_eq_append_getElem (by rw [TU.out];exact MO)]
    congr 2
    rw [Lf (by rw [TU.out];exact MO)] at h1;injection h1
   have SN:(D.take k).length=k:=by rw [Lp,TU.out];omega
   obtain ⟨ra,RT,rfl,-⟩:=Nc.ints.open;rw [SN] at Nc OO |-
   generalize a.getD k 0=x at *
   generalize b.getD k 0=y at *
   have hw:IntKind.i64.wrap (x-y)=x-y:=Mi;obtain ⟨q,hq⟩:∃ z,z=x-y:=⟨_,rfl⟩
   have Tn:IntKind.i64.wrap (x-y)=q:=hw.trans hq.symm;rw [<- hq] at Rl;have QF:∀ z∈[q],InK .i64 z:=by simp only [mSg,forall_eq,InK];omega
   have Jaf:=lh (fun (W:World)=>bg (k:=.i64) (w:=W) (t:=3) (l:=[q]) rfl Mo QF 1 rfl rfl);have Hby:=lh (show ((D.take k).length+[q].length)*8<=140737488355328 by rw [SN];simp;omega);have Ni:Hid ((D.take k ++ [q]).length=k+1):=lh (by rw [Ln,SN];rfl);have Hnx:=lh Rl;have HFx:Hid (bB w.heap.size (.slice ra k RT)):=lh (fun g hg=>by have:=OO.out g hg;have:=QM.out;omega);clear QF Rl SN hx hy hw hq;have Oq:=lh MO;clear MO;go_wp2_with fail;go_at_call 37;refine (cK _ _ _).mono ?_;rintro e w4 ⟨rfl,Ng⟩;have ca:=(MW.q Ng).cell HcA Mg;have cb:=(MW.q Ng).cell HcB Mg;have Vp:=lh Ng;clear Ng e0 e1;go_upto_region 6 with (fail)
   refine wp_region_held_drew (S:=(fun w'=>w'.cell? ⟨ga,oa+k,none⟩=some (.int .i64 x)/\w'.cell? ⟨gb,ob+k,none⟩=some (.int .i64 y))) Mh ?_ (fun hHeld=>?_)
   ·exact ⟨ca,cb⟩
   refine tk 0 22 ?_;refine tk 1 23 ?_;refine tk 2 24 ?_;refine tk 3 25 ?_;refine tk 4 26 ?_;refine tk 5 27 ?_;refine tk 6 28 ?_;refine tk 7 29 ?_;refine tk 8 30 ?_;refine tk 9 31 ?_;refine rdy (rdc 10 32 (fun K hK=>?_) .nil);go_simp;refine hK.out _ _ ?_ (fun hHeld=>?_)
   ·exact ⟨(ae.new w4 (.cells #[q] 3)).cell ca Mg,(ae.new w4 (.cells #[q] 3)).cell cb Mg⟩
   clear hK K
   try simp only [Act.put,Lg,Lj,Lk]
   refine rdy (rdc 11 33 (fun K hK=>?_) .nil);refine ce rfl (.tmp 22) (.tmp 32) _ rfl EI (((Nc.quiet Vp).quiet (ae.new w4 (.cells #[q] 3))).quiet (ae.refl _ _).drew) rfl ((Jaf.out w4).quiet (ae.refl _ _).drew) rfl Hby (by have:=HZk.out;have:=Vp.size;have:=(ae.new w4 (.cells #[q] 3)).size;first | exact Lz this (Lm _) | (simp;omega)) (fun v1 w6 MN Nu=>?_);obtain ⟨x1,OW,OB,_⟩:=MN.ints.open;subst OB;rw [Ni.out] at MN Nu |-
   have Oy:=lh MN;have Od:=lh Nu;have hd6:=((MW.q (Vp.q (ae.new w4 (.cells #[q] 3)))).drew).acc Nu HFx;have HD6:=lh hd6;clear MN Nu;refine hK.out _ _ ?_ (fun hHeld=>?_)
   ·exact ⟨hd6.cell HcA Mg,hd6.cell HcB.out Mg⟩
   clear hK K
   try simp only [Act.put,Lg,Lj,Lk]
   refine tk 12 7 ?_;refine wpAnyH_done Mh ?_ _;go_wp2_with fail;have hb6:=Od.row OO (((Vp.q (ae.new w4 (.cells #[q] 3))).drew).row Oi) (by have:=QM.out;omega);have he6:=Od.row OO (((Vp.q (ae.new w4 (.cells #[q] 3))).drew).row WK) (by have:=QM.out;omega);have hz6:=Od.only.size;have hz5:=(ae.new w4 (.cells #[q] 3)).size;refine ⟨⟨k+1,by have:=Oq.out;omega,Mm,lh (by rw [Hnx.out];exact Oy),lh (Od.from_ OO ?_),HD6,lh ?_,lh hb6,lh he6⟩,by simp [intOf];have:=Oq.out;omega⟩
   ·exact Lz HZk (Lz Vp.size hz5)
   ·exact Lz HZk (Lz Vp.size (Lz hz5 hz6))
  ·obtain rfl:k=a.length:=Mf
   have Ny:¬ (a.length:Int)<(a.length:Int):=Mf;rw [List.take_of_length_le (by rw [TU.out];exact Lm _)] at Nc;go_wp2_with fail;go_at_call 37;refine (cK _ _ _).mono ?_;rintro e w4 ⟨rfl,Ng⟩;have NI:=lh (MW.q Ng);have Vp:=lh Ng;have hE4:=Ng.row WK;have hB4:=Ng.row Oi;clear Ng e0 e1;obtain ⟨e0,e1,-⟩:=aJ hB4;obtain ⟨z0,z1,y0,y1,-⟩:=aJ hE4;obtain ⟨MS,Nd⟩:=aH (x:=.int .i64 0) (y:=.slice none 0 0) hE4;have OT:¬ B=w.heap.size:=by have:=QM.out;omega
   have NQ:=(NI.trans Nd (U:=[]) Mg (fun g hg MO=>Mj))
   go_upto_region 7 with (fail);refine wp_region_held_drew (S:=(fun w'=>w'.cell? ⟨B,0,none⟩=some (.int .i64 0)/\w'.cell? ⟨B,1,none⟩=some (.slice none 0 0))) Mh ?_ (fun hHeld=>?_)
   ·exact ⟨e0,e1⟩
   refine tk 0 34 ?_;refine tk 1 35 ?_;refine tk 2 4 ?_;refine rdy (rdn 3 (fun K hK=>?_) .nil);go_simp;refine hK.out _ _ ?_ (fun hHeld=>?_)
   ·exact rR
   clear hK K
   try simp only [Act.put,Lg,Lj,Lk]
   refine wpAnyH_done Mh ?_ _;go_wp2_with fail;refine bodyPost_ret (aA Tryz.results149 _ _ w.heap.size _ _ _ _ _ rfl rfl MS Tryz.underlying39 rfl (aR _ rfl)) rfl (MM.out _ _ ⟨⟨_,rfl,?_⟩,NQ.drew⟩);exact ((((Nc.quiet Vp).only Nd (fun g hg hh=>by rw [mSg] at hg;subst hg;have:=OO.out _ hh;have:=QM.out;omega)).quiet (ae.refl _ _).drew).lower (by have:=QM.out;omega))
theorem xt {lo hi lo' hi':Nat} {u v:Value} {a b:List Int} {w:World} (ha:ah .i64 lo hi w u a) (hb:ah .i64 lo' hi' w v b) (hl:b.length=a.length) (hm:a.length<=64) (sa:au a) (sb:au b):Calls Tryz.prog 155 #[u,v] w fun e w'=>(e=.returned (.tuple #[.int .i64 (dl a b),.agg #[(),JEu]])/\ae [] w w'):=by
 refine aN fun Q MM=>?_
 have HT:=lh (fun (W:World) (o:ae [] w W)=>xy (ha.quiet o) (hb.quiet o) hl hm sa sb);have Ws:=lh (fun (k:Nat) (h:k<a.length)=>yu h hl);have VI:=lh (rX sa sb);have Pm:Hid (dl (a.take a.length) (b.take a.length)=dl a b):=lh (by rw [List.take_of_length_le Mf,List.take_of_length_le Mf]);have H0:Hid (dl (a.take 0) (b.take 0)=0):=lh (by simp [dl]);rw [<- Pm.out] at MM;clear Pm;generalize hT:(fun k=>dl (a.take k) (b.take k))=T at *
 have hTk:∀ k,dl (a.take k) (b.take k)=T k:=fun k=>by rw [<- hT]
 simp only [hTk] at MM Ws VI H0;clear hT hTk;have Hl:=lh hl;have Hm:=lh hm;have Hsa:=lh sa;have Hsb:=lh sb;obtain ⟨aa,ac,rfl,-,-,JdA,hca⟩:=ha.open;obtain ⟨ba,bc,rfl,-,-,JdB,Zn⟩:=hb.open;have HAa:=lh JdA;have HCa:=lh hca;have HAb:=lh JdB;have HCb:=lh Zn;rw [hl] at HT |-
 have hal:(a.length:Int)<=64:=Mf;have MP:=ae.new w (.cells #[(),JEu] 39);have Nq:Hid ((w.alloc (.cells #[(),JEu] 39)).heap[w.heap.size]?=some (.cells #[(),JEu] 39 (0,0))):=lh (heap_alloc_new w _);have PO:Hid ((w.alloc (.cells #[(),JEu] 39)).heap.size=w.heap.size+1):=lh Mg;have MT:=lh MP;clear ha hb hl hm sa sb JdA JdB hca Zn MP;go_enter Tryz.func155,Tryz.ntmps155;go_wp2_with fail;generalize NB:World.alloc w _=W1 at *
 clear NB;go_at_call 203;refine (HT.out W1 MT).mono ?_;rintro e w2 ⟨rfl,MV⟩;have Nb:=MV.q (ae.new w2 (.cells #[(),JEu] 39));have SJ:Hid ((w2.alloc (.cells #[(),JEu] 39)).heap[w2.heap.size]?=some (.cells #[(),JEu] 39 (0,0))):=lh (heap_alloc_new w2 _);have OG:=lh (Nb.row Nq);have Nf:=lh (MT.q Nb);have QM:Hid (w.heap.size<w2.heap.size/\(w2.alloc (.cells #[(),JEu] 39)).heap.size=w2.heap.size+1):=lh ⟨by have:=MV.size;have:=PO.out;omega,Mg⟩;clear MV Nb MT Nq PO;go_wp2_with fail;generalize PZ:World.alloc w2 _=W3 at *
 clear PZ;generalize w2.heap.size=B at *
 go_loopw [8,7] (fun i y wr=>∃ k:Nat,k<=a.length/\i=.int .i64 k/\y=.int .i64 (T k)/\Hid (ae [] w wr)/\Hid (W3.heap.size<=wr.heap.size)/\Hid (wr.heap[B]?=some (.cells #[(),JEu] 39 (0,0)))/\Hid (wr.heap[w.heap.size]?=some (.cells #[(),JEu] 39 (0,0)))) (fun i _ _=>a.length-(intOf i).toNat)
 case atStart=>exact ⟨0,Mf,rfl,by rw [H0.out],Nf,lh (Lm _),SJ,OG⟩
 case round =>
  obtain ⟨k,hk,rfl,rfl,MW,HZk,Oi,WK⟩:=hrel;obtain ⟨e0,e1,-⟩:=aJ Oi;by_cases MO:k<a.length
  ·have Ny:(k:Int)<(a.length:Int):=Mf
   have NU:(0:Int)<=(k:Int):=Mf;obtain ⟨ga,oa,rfl,-,-⟩:=HAa.out k MO;obtain ⟨gb,ob,rfl,-,-⟩:=HAb.out k (by rw [Hl.out];exact MO);have HcA:=lh (HCa.out ga oa rfl k MO);have HcB:=lh (HCb.out gb ob rfl k (by rw [Hl.out];exact MO));have hx:=Hsa.at k;have hy:=Hsb.at k;have ht:=VI.out k;have HTk:=lh (Ws.out k MO);generalize a.getD k 0=x at *
   generalize b.getD k 0=y at *
   generalize hc:T k=c at *
   obtain ⟨Ue,OB⟩:=hx;obtain ⟨Sr,YX⟩:=hy;obtain ⟨ht0,ht1⟩:=ht;have ht2:c<=100000:=Mf;clear hc ht1;have Oq:=lh MO;clear MO;go_wp2_with fail;go_at_call 37;refine (cK _ _ _).mono ?_;rintro e w4 ⟨rfl,Ng⟩;have ca:=(MW.q Ng).cell HcA Mg;have cb:=(MW.q Ng).cell HcB Mg;have Vp:=lh Ng;clear Ng e0 e1;go_upto_region 6 with (fail)
   go_quiet (fail)
   go_wp2_with fail;exact ⟨⟨k+1,by have:=Oq.out;omega,Mm,by rw [HTk.out];congr 1;omega,lh (MW.q (Vp.drewN _)),lh (Lz HZk Vp.size),lh ((Vp.drewN _).row Oi),lh ((Vp.drewN _).row WK)⟩,by simp [intOf];have:=Oq.out;omega⟩
  ·obtain rfl:k=a.length:=Mf
   have Ny:¬ (a.length:Int)<(a.length:Int):=Mf;have Htr:Hid True:=lh trivial;go_wp2_with fail;go_at_call 37;refine (cK _ _ _).mono ?_;rintro e w4 ⟨rfl,Ng⟩;have NI:=lh (MW.q Ng);have Vp:=lh Ng;have hE4:=Ng.row WK;have hB4:=Ng.row Oi;clear Ng e0 e1;obtain ⟨e0,e1,-⟩:=aJ hB4;obtain ⟨z0,z1,y0,y1,-⟩:=aJ hE4;obtain ⟨MS,Nd⟩:=aH (x:=.int .i64 0) (y:=.slice none 0 0) hE4;have OT:¬ B=w.heap.size:=by have:=QM.out;omega
   have NQ:=(NI.trans Nd (U:=[]) Mg (fun g hg MO=>Mj))
   go_upto_region 7 with (fail);refine wp_region_held_drew (S:=(fun w'=>w'.cell? ⟨B,0,none⟩=some (.int .i64 0)/\w'.cell? ⟨B,1,none⟩=some (.slice none 0 0))) Mh ?_ (fun hHeld=>?_)
   ·exact ⟨e0,e1⟩
   refine tk 0 43 ?_;refine tk 1 44 ?_;refine tk 2 4 ?_;refine rdy (rdn 3 (fun K hK=>?_) .nil);go_simp;refine hK.out _ _ ?_ (fun hHeld=>?_)
   ·exact rR
   clear hK K
   try simp only [Act.put,Lg,Lj,Lk]
   refine wpAnyH_done Mh ?_ _;go_wp2_with fail;refine bodyPost_ret (aA Tryz.results155 _ _ w.heap.size _ _ _ _ _ rfl rfl MS Tryz.underlying39 rfl (aR _ rfl)) rfl (MM.out _ _ ⟨by first | rfl | trivial,NQ.drew⟩)
end
section
theorem Fu {lo hi:Nat} {pv:Value} {w:World} {f:ai} (MU:FrOk f) (h:ah .i64 lo hi w pv f.pix) (x y:Int) (hx:0<=x/\x<f.W) (hy:0<=y/\y<f.H) :
  Calls Tryz.prog 148 #[.agg #[f.W,f.H,pv],x,y] w fun e w'=>e=.returned (.int .i64 (f.pix.getD (y*f.W+x).toNat 0))/\ae [] w w':=by
 have hW:8<=f.W/\f.W<=32:=⟨MU.w0,MU.w1⟩
 have hH:8<=f.H/\f.H<=32:=⟨MU.h0,MU.h1⟩
 obtain ⟨i1,i2,i3,i4⟩:=qh hW hH x y;rw [show min (max y 0) (f.H-1)=y by omega] at i1 i2;rw [show min (max x 0) (f.W-1)=x by omega] at i2;have MR:=MU.len;obtain ⟨b,off,cap,rfl,-,-,hc⟩:=h.at (i:=(y*f.W+x).toNat) Mf;have HQ:=lh (ae.new w (.cells #[f.W,f.H,.slice (some ⟨b,off,none⟩) f.pix.length cap] 24));have QZ:=(ae.new w (.cells #[f.W,f.H,.slice (some ⟨b,off,none⟩) f.pix.length cap] 24)).cell hc Mg;have HR:=lh (heap_alloc_new w (.cells #[f.W,f.H,.slice (some ⟨b,off,none⟩) f.pix.length cap] 24));generalize f.pix.getD (y*f.W+x).toNat 0=v at *
 generalize f.pix.length=N at *
 generalize f.W=W at *
 generalize f.H=H at *
 obtain ⟨k,hk⟩:∃ k:Nat,(y*W+x).toNat=k:=⟨_,rfl⟩
 have NK:y*W+x=(k:Int):=Mf;rw [hk] at hc QZ;obtain ⟨Ue,OB⟩:=hx;obtain ⟨Sr,YX⟩:=hy;obtain ⟨NB,Tg⟩:=hW;obtain ⟨hH1,hH2⟩:=hH;have p1:¬ y<0:=Mf;have p2:¬ H-1<y:=Mf;have p3:¬ x<0:=Mf;have p4:¬ W-1<x:=Mf;have a1:IntKind.i64.wrap (H-1)=H-1:=Mi;have a2:IntKind.i64.wrap (W-1)=W-1:=Mi;have YL:0<=y*W:=i1;have a3:IntKind.i64.wrap (y*W)=y*W:=Mi;have a4:IntKind.i64.wrap (y*W+x)=(k:Int):=by rw [NK,Ll];omega
 have q0:(0:Int)<=(k:Int):=Mf;have q1:(k:Int)<(N:Int):=Mf;clear hc h MU MR i1 i2 i3 i4 hk NK YL;obtain ⟨r0,r1,r2⟩:=ag HR;go_enter Tryz.func148,Tryz.ntmps148;go_wp2_with fail;go_ret;exact ⟨rfl,HQ.out⟩
theorem FA {lo hi:Nat} {pv:Value} {w:World} {f:ai} (MU:FrOk f) (h:ah .i64 lo hi w pv f.pix) (x y:Int) (hx:0<=x/\x+8<=f.W) (hy:0<=y/\y+8<=f.H) :
  Calls Tryz.prog 91 #[.agg #[f.W,f.H,pv],x,y,.int .i64 8] w fun e w'=>∃ v',e=.returned v'/\Own .i64 3 w.heap.size w' v' (aO f x y 8)/\ae [] w w':=by
 refine aN fun Q MM=>?_
 obtain ⟨a,cap,rfl,-⟩:=h.open;have MP:=ae.new w (.cells #[f.W,f.H,.slice a f.pix.length cap] 24);have Nq:=lh (heap_alloc_new w (.cells #[f.W,f.H,.slice a f.pix.length cap] 24));have MT:=lh MP;have HI:=lh (h.quiet MP);have HM:=lh (fun (W:World) (o:ah .i64 lo hi W (.slice a f.pix.length cap) f.pix)=>by have:=gU f.W f.H o;rw [show dV ⟨f.W,f.H,f.pix⟩=true from dL.2 MU] at this;exact this);have HA:=lh (fun (W:World) (o:ah .i64 lo hi W (.slice a f.pix.length cap) f.pix) (x y:Int) (hx:0<=x/\x<f.W) (hy:0<=y/\y<f.H)=>Fu MU o x y hx hy);have VI:=lh (fun k=>MU.sam.at k);have HD:=lh (wT f x y);have hw1:=MU.w1;have Rb:=MU.h1;obtain ⟨Ue,OB⟩:=hx;obtain ⟨Sr,YX⟩:=hy;have x2:x<=24:=Mf;have y2:y<=24:=Mf;clear h MP MU;obtain ⟨r0,r1,r2⟩:=ag Nq;go_enter Tryz.func91,Tryz.ntmps91;go_wp2_with fail;clear r0 r1 r2;generalize NB:World.alloc w _=W1 at *
 have Sh:Hid (w.heap.size<W1.heap.size):=lh (by rw [<- NB];simp);clear NB;go_at_call 60;refine (HM.out W1 HI).mono ?_;rintro e w2 ⟨rfl,MV⟩;have Na:=lh MV;clear MV HM;go_wp2_with fail;go_loopw [10,9,11] (fun j r _ wr=>∃ (k:Nat),k<=8/\j=.int .i64 k/\Hid (Own .i64 3 W1.heap.size wr r (jo f x y (k*8)))/\Hid (bB W1.heap.size r)/\Hid (ae [] W1 wr)) (fun j _ _ _=>8-(intOf j).toNat)
 case atStart=>exact ⟨0,Mf,rfl,lh (Own.nil _ _ _ _),lh (bB.nil _),Na⟩
 case round =>
  obtain ⟨k,hk,rfl,Nc,OO,MW⟩:=hrel;by_cases MO:k<8
  ·have Ny:(k:Int)<8:=Mf
   have NU:(0:Int)<=(k:Int):=Mf;go_wp2_with fail;go_loopw [11,9] (fun i r wr=>∃ (n:Nat),n<=8/\i=.int .i64 n/\Hid (Own .i64 3 W1.heap.size wr r (jo f x y (k*8+n)))/\Hid (bB W1.heap.size r)/\Hid (ae [] W1 wr)) (fun i _ _=>8-(intOf i).toNat)
   case atStart=>exact ⟨0,Mf,rfl,Nc,OO,MW⟩
   case round =>
    obtain ⟨n,hn,rfl,PS,RB,Oh⟩:=hrel;by_cases YO:n<8
    ·have XH:(n:Int)<8:=Mf
     have Uu:(0:Int)<=(n:Int):=Mf;have Ox:=lh (tJ f x y (j:=k) YO);have HC:=lh (fun W o=>HA.out W o (x+(n:Int)) (y+(k:Int)) Mf Mf);have MX:=VI.out ((y+(k:Int))*f.W+(x+(n:Int))).toNat;generalize f.pix.getD ((y+(k:Int))*f.W+(x+(n:Int))).toNat 0=hv at *
     have QF:∀ z∈[hv],InK .i64 z:=by simp only [mSg,forall_eq,InK];omega
     have Oa:=lh (fun (W:World)=>bg (k:=.i64) (w:=W) (t:=3) (l:=[hv]) rfl Mo QF 1 rfl rfl);have Qj:=lh (show ((jo f x y (k*8+n)).length+[hv].length)*8<=140737488355328 by rw [jC];simp;omega);have Ni:Hid ((jo f x y (k*8+n) ++ [hv]).length=k*8+n+1):=lh (by rw [Ln,jC];rfl);obtain ⟨ra,RT,rfl,-⟩:=PS.ints.open;rw [jC] at PS RB |-
     obtain ⟨r0,r1,r2⟩:=ag (Oh.row Nq);have PX:=lh (HI.quiet Oh);clear QF MX;go_wp2_with fail;go_at_call 148;refine (HC.out _ PX).mono ?_;rintro e w3 ⟨rfl,Nb⟩;have Nf:=lh Nb;have Ql:=lh (PS.quiet Nb);have PG:=lh (fun (o:Obj)=>(show W1.heap.size<=(w3.alloc o).heap.size by have:=Oh.size;have:=Nb.size;simp;omega));clear Nb
     go_wp2_with (first
      | (at_builtin;refine aw rfl (.tmp 49) (.tmp 58) _ rfl EI (Ql.quiet (ae.new _ _)) rfl (Oa.out _) rfl Qj (PG.out _) (fun v1 w4 MN Nu=>?_);obtain ⟨x1,OW,OB,_⟩:=MN.ints.open;subst OB;rw [Ni.out] at MN Nu |-;have Oy:=lh MN;have Od:=lh Nu;clear MN Nu)
      | fail)
     refine ⟨⟨n+1,Mf,Mm,lh ?_,lh (Od.from_ RB (PG.out _)),lh (((Oh.q Nf).q (ae.new _ _)).acc Od RB)⟩,Mk⟩;rw [<- Nat.add_assoc,Ox.out];exact Oy
    ·obtain rfl:n=8:=Mf
     have XH:¬ ((8:Nat):Int)<8:=Mf;have Ur:Hid (jo f x y (k*8+8)=jo f x y ((k+1)*8)):=lh (by rw [show (k+1)*8=k*8+8 by omega]);rw [Ur.out] at PS;go_wp2_with fail;exact ⟨⟨k+1,Mf,Mm,PS,RB,Oh⟩,Mk⟩
  ·obtain rfl:k=8:=Mf
   have Ny:¬ ((8:Nat):Int)<8:=Mf;have Ur:Hid (jo f x y (8*8)=aO f x y 8):=HD;rw [Ur.out] at Nc;go_wp2_with fail;exact MM.out _ _ ⟨_,rfl,Nc.lower (Nat.le_of_lt Sh),MT.q MW.out⟩
end
end Go.Proofs.YthcafdfdglfabaaGreatDoor
