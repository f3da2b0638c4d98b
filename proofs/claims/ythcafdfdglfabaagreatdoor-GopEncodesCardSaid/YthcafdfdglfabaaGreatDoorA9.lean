/- kinref21.square: how a square is coded. Conditions: frames that may be, of alike sides, a place in them, a quantiser and a reach that may be. -/
import Derived.Test.YthcafdfdglfabaaGreatDoorA7
namespace Go.Proofs.YthcafdfdglfabaaGreatDoor
open Tryz
open Go.RowKit
set_option linter.unusedVariables false
set_option linter.unusedSimpArgs false
set_option maxRecDepth 100000
set_option maxHeartbeats 16000000
theorem GF (cur:ah) (b:List Int) (x y q:Int) (D:j4×Int):jg cur b x y q D=(dZ (dZ D ⟨2,(aI cur b x y 8).1,[0,0,0,0],0,0,fV cur b x y 8 q,[[],[],[],[]]⟩ (4*(aI cur b x y 8).2+8)) ⟨3,0,(fp cur b x y q).1,0,0,[],(fp cur b x y q).2.1⟩ (fp cur b x y q).2.2).1:=rfl
def mr (O:Nat) (W:World) (s:j4):Prop:=∃ lv vs,W.heap[O]?=some (.cells (j1 s.kind s.mode s.modes s.vx s.vy lv vs).toArray 91)/\ep (O+1) W.heap.size W lv vs s.large s.small/\s.modes.length=4
theorem mr.quiet {O:Nat} {W D:World} {s:j4} (h:mr O W s) (o:ae [] W D):mr O D s:=by
 obtain ⟨lv,vs,hr,hi,E⟩:=h;exact ⟨lv,vs,o.row hr,hi.grown o Qb,E⟩
theorem mr.store {O:Nat} {W D:World} {s:j4} {lv:Value} {vs:List Value} (hr:D.heap[O]?=some (.cells (j1 s.kind s.mode s.modes s.vx s.vy lv vs).toArray 91)) (o:ae [O] W D) (hi:ep (O+1) W.heap.size W lv vs s.large s.small) (E:s.modes.length=4):mr O D s :=
 ⟨lv,vs,hr,hi.grown o (fun g hg=>Qd),E⟩
section
theorem EW {p:Prop} (h:p:=by
 have z1:=VU.size;have z2:=UQ.out;exact ⟨h3.large.mono Qa z1,h3.len,fun i hi=>(h3.small i hi).mono Qa z1⟩):p:=h
theorem EX {p:Prop} (h:p:=by
 have h3:=Zw.only VU (fun g hg=>by rw [i5] at hg;have:=UQ.out;exact .inl Qa);exact EW):p:=h
theorem JT {q r lo hi Wi Uq lo3 hi3:Nat} {sv cv pv:Value} {src cur prev:ah} {w:World} (key:Bool) (hs:FrOk src) (hc:FrOk cur) (hp:key=false->FrOk prev/\prev.W=src.W/\prev.H=src.H) (hW:cur.W=src.W) (hH:cur.H=src.H) (is:aj .i64 lo hi w sv src.pix) (ic:aj .i64 Wi Uq w cv cur.pix) (ip:aj .i64 lo3 hi3 w pv prev.pix) (x y:Int) (hx:0<=x/\x+8<=src.W) (hy:0<=y/\y+8<=src.H) (hq:q<=15) (hr:r<=7) (hhi:hi3<=w.heap.size) (JBa:Uq<=w.heap.size) :
  Calls prog 40 #[.agg #[src.W,src.H,sv],.agg #[cur.W,cur.H,cv],.agg #[prev.W,prev.H,pv],.bool key,x,y,q,r] w fun e w'=>(∃ lv vs,e=.returned (.agg (j1 (aT src prev key q r cur x y).kind (aT src prev key q r cur x y).mode (aT src prev key q r cur x y).modes (aT src prev key q r cur x y).vx (aT src prev key q r cur x y).vy lv vs).toArray)/\(aT src prev key q r cur x y).modes.length=4/\ep w.heap.size w'.heap.size w' lv vs (aT src prev key q r cur x y).large (aT src prev key q r cur x y).small/\ae [] w w'):=by
 refine aK fun Q QF=>?_
 have JgD:=lh (fun (W:World) (o:ae [] w W)=>JP hs (is.quiet o) x y hx hy);have RP:(aP src x y 8).length=64:=nw src x y 8;have sb:=pD hs.sam x y 8;have HBl:Hid ((aP src x y 8).length=64):=lh RP;have Ru:=hs.w1;have Rz:=hs.h1;have Jdb:=lh (fun (hk:key=false) (W:World) (o:ae [] w W) (vx vy:Int) (h1:-15<=vx/\vx<=15) (h2:-15<=vy/\vy<=15)=>iw (hp hk).1 (ip.quiet o) x y vx vy Qa Qa h1 h2);have Yv:=lh (fun (vx vy:Int)=>(aF prev x y 8 vx vy:(aq prev x y 8 vx vy).length=64));have Uh:=lh (fun (hk:key=false) (W:World) (l1 h1 l2 h2:Nat) (u v:Value) (vx vy:Int) (i1:aj .i64 l1 h1 W u (aP src x y 8)) (i2:aj .i64 l2 h2 W v (aq prev x y 8 vx vy))=>wl i1 i2 RP (aF prev x y 8 vx vy) sb (cR (hp hk).1.sam x y 8 vx vy) q hq);have Vj:=lh (fun (hk:key=false) (vx vy:Int)=>((lA (n:=8) (q:=q) (.inr rfl) RP (aF prev x y 8 vx vy) sb (cR (hp hk).1.sam x y 8 vx vy) hq).1:(bB (aP src x y 8) (aq prev x y 8 vx vy) q).length=64));have Jha:=lh (fun (hk:key=false) (W:World) (o:ae [] w W) (l1 h1:Nat) (u:Value) (i1:aj .i64 l1 h1 W u (aP src x y 8)) (g:h1<=W.heap.size)=>Ag (r:=r) (hp hk).1 (ip.quiet o) i1 RP sb x y (j0 ((hp hk).2.1)) (j0 ((hp hk).2.2)) hr (j0 o.size) g);have Jhb:=lh (pg prev (aP src x y 8) x y hr);have WN:=lh (fun (hk:key=false) (W:World) (l1 h1 l2 h2:Nat) (u v:Value) (vx vy:Int) (g1:-15<=vx/\vx<=15) (g2:-15<=vy/\vy<=15) (i1:aj .i64 l1 h1 W u (aq prev x y 8 vx vy)) (i2:aj .i64 l2 h2 W v (aP src x y 8))=>nA i1 i2 (dn aF RP) (by rw [aF];exact Pm _) (cR (hp hk).1.sam x y 8 vx vy) sb g1 g2);have htl:(dA cur x y 8).length=8:=cV cur x y 8;have Th:(cd cur x y 8).length=8:=ju cur x y 8;have Wf:=jr hc.sam x y 8;have TG:=hZ hc.sam x y 8;have Uo:=eZ hc.sam (x-1) (y-1);have HEd:=lh (fun (W:World) (o:ae [] w W)=>oL (f:=cur) hc (ic.quiet o) x y 8 (.inr rfl) hx.1 Qa hy.1 Qa);have HBe:=lh (fun (W:World) (l1 h1 l2 h2 l3 h3:Nat) (v0 v1 v2:Value) (i0:aj .i64 l3 h3 W v0 (aP src x y 8)) (i1:aj .i64 l1 h1 W v1 (dA cur x y 8)) (i2:aj .i64 l2 h2 W v2 (cd cur x y 8))=>wd (n:=8) (.inr rfl) i0 i1 i2 RP htl Th sb Wf TG Uo)
 rw [show lR (aP src x y 8) (dA cur x y 8) (cd cur x y 8) (aB cur (x-1) (y-1))=aI cur (aP src x y 8) x y 8 from rfl] at HBe;have Tn:=ni hc.sam sb x y (n:=8) (.inr rfl) RP;have hbm:=js cur (aP src x y 8) x y 8;have Yb:=lh (fun (W:World) (l1 h1 l2 h2:Nat) (v1 v2:Value) (i1:aj .i64 l1 h1 W v1 (dA cur x y 8)) (i2:aj .i64 l2 h2 W v2 (cd cur x y 8))=>kw i1 i2 htl Th Wf TG Uo (mode:=((aI cur (aP src x y 8) x y 8).1:Int)) Qa);rw [show bi ((aI cur (aP src x y 8) x y 8).1:Int) (dA cur x y 8) (cd cur x y 8) (aB cur (x-1) (y-1))=fO cur x y 8 (aI cur (aP src x y 8) x y 8).1 from rfl] at Yb;have Vd:(fO cur x y 8 (aI cur (aP src x y 8) x y 8).1).length=64:=(iR hc.sam x y (n:=8) Qa _).1;have hps:ar (fO cur x y 8 (aI cur (aP src x y 8) x y 8).1):=(iR hc.sam x y (n:=8) Qa _).2;have UL:Hid ((fO cur x y 8 (aI cur (aP src x y 8) x y 8).1).length=64):=lh Vd;have JgK:=lh (fun (W:World) (l1 h1 l2 h2:Nat) (u v:Value) (i1:aj .i64 l1 h1 W u (aP src x y 8)) (i2:aj .i64 l2 h2 W v (fO cur x y 8 (aI cur (aP src x y 8) x y 8).1))=>wl i1 i2 RP Vd sb hps q hq);rw [show bB (aP src x y 8) (fO cur x y 8 (aI cur (aP src x y 8) x y 8).1) q=fV cur (aP src x y 8) x y 8 q from rfl] at JgK;have WP:Hid ((fV cur (aP src x y 8) x y 8 q).length=64):=lh (iD (n:=8) (q:=q) (.inr rfl) hc.sam RP sb x y hq).1;have JgC:=lh (fun (W:World) (o:ae [] w W) (l1 h1:Nat) (u:Value) (i1:aj .i64 l1 h1 W u (aP src x y 8))=>Dj (q:=q) hc (ic.quiet o) (j0 o.size) i1 RP sb x y hx.1 Qa hy.1 Qa hq);have HCh:Hid (aT src prev key q r cur x y=if key then jg cur (aP src x y 8) x y q (r6,-1) else if rG prev (aP src x y 8) x y q then r6 else jg cur (aP src x y 8) x y q (je prev (aP src x y 8) x y q r)):=lh rfl;have Jcf:Hid (rG prev (aP src x y 8) x y q=cN (bB (aP src x y 8) (aq prev x y 8 0 0) q)):=lh rfl;have JbU:Hid (je prev (aP src x y 8) x y q r=(⟨1,0,[0,0,0,0],(aY prev (aP src x y 8) x y r).vx,(aY prev (aP src x y 8) x y r).vy,bB (aP src x y 8) (aq prev x y 8 (aY prev (aP src x y 8) x y r).vx (aY prev (aP src x y 8) x y r).vy) q,[[],[],[],[]]⟩,eA (aq prev x y 8 (aY prev (aP src x y 8) x y r).vx (aY prev (aP src x y 8) x y r).vy) (aP src x y 8) (aY prev (aP src x y 8) x y r).vx (aY prev (aP src x y 8) x y r).vy)):=lh rfl
 obtain ⟨sa,sc,rfl,-⟩:=is.open;obtain ⟨ca,cc,rfl,-⟩:=ic.open;obtain ⟨pa,pc,rfl,-⟩:=ip.open;obtain ⟨CH,hCH⟩:=bu (aT src prev key q r cur x y)
 rw [<- hCH] at HCh QF;generalize aP src x y 8=b at *
 have hkn:key=false\/key=true:=by cases key <;> simp
 clear is ic ip hs hc hp hx hy hq hr RP sb hCH Ru Rz hW hH htl Th Wf TG Uo Vd hps hhi JBa;have Rh:Hid (ae [] w ((((w.alloc (sT src sa sc)).alloc (sT cur ca cc)).alloc (sT prev pa pc)).alloc (.cells xT 91))):=lh ((((ae.new w _).alloc _).alloc _).alloc _);have Sp:Hid (((((w.alloc (sT src sa sc)).alloc (sT cur ca cc)).alloc (sT prev pa pc)).alloc (.cells xT 91)).heap[w.heap.size]?=some (.cells (sT src sa sc) 24)):=lh ((((ae.new (w.alloc _) _).alloc _).alloc _).row (Sd w _));have SK:Hid (((((w.alloc (sT src sa sc)).alloc (sT cur ca cc)).alloc (sT prev pa pc)).alloc (.cells xT 91)).heap[w.heap.size+1]?=some (.cells (sT cur ca cc) 24)):=lh (((ae.new ((w.alloc _).alloc _) _).alloc _).row (ak Qb));have Tj:Hid (((((w.alloc (sT src sa sc)).alloc (sT cur ca cc)).alloc (sT prev pa pc)).alloc (.cells xT 91)).heap[w.heap.size+1+1]?=some (.cells (sT prev pa pc) 24)):=lh ((ae.new (((w.alloc _).alloc _).alloc _) _).row (ak Qb));have HRt:Hid (((((w.alloc (sT src sa sc)).alloc (sT cur ca cc)).alloc (sT prev pa pc)).alloc (.cells xT 91)).heap[w.heap.size+1+1+1]?=some (.cells (j1 0 0 [0,0,0,0] 0 0 ai [ai,ai,ai,ai]).toArray 91)):=ak Qb
 have WT:Hid (((((w.alloc (sT src sa sc)).alloc (sT cur ca cc)).alloc (sT prev pa pc)).alloc (.cells xT 91)).heap.size=w.heap.size+1+1+1+1):=lh Qb;obtain ⟨a0,a1,a2⟩:=ag Sp;go_enter func40,ntmps40;go_wp2_with fail;generalize XO:World.alloc (World.alloc (World.alloc (World.alloc w _) _) _) _=W4 at *
 clear XO a0 a1 a2;refine (JgD.out W4 Rh).mono ?_;rintro e N ⟨bv,rfl,hb5,RF⟩;obtain ⟨gb,bc,rfl,hgb,JoW⟩:=hb5.form (eC HBl);rw [HBl.out] at hb5 |-
 have Zu:=lh hb5.ints;have Rk:=lh RF;clear hb5 RF hgb JoW JgD;have HS0:Hid ((N.alloc (.cells xT 91)).heap[N.heap.size]?=some (.cells (j1 0 0 [0,0,0,0] 0 0 ai [ai,ai,ai,ai]).toArray 91)):=Sd N _;have HIz:=lh (eE (k:=0) (mo:=0) (ms:=[0,0,0,0]) (vx:=0) (vy:=0) (lv:=ai) (vs:=[ai,ai,ai,ai]) rfl rfl);have HOz:=lh (eh (k:=0) (mo:=0) (ms:=[0,0,0,0]) (vx:=0) (vy:=0) (lv:=ai) rfl jK);have RT:=lh underlying91;have HS7:Hid (((N.alloc (.cells xT 91)).setRow N.heap.size xT).heap[N.heap.size]?=some (.cells (j1 0 0 [0,0,0,0] 0 0 ai [ai,ai,ai,ai]).toArray 91)):=m7 _ N.heap.size _ xT _ _ HS0;have ho7:=ae.setRow (S:=[N.heap.size]) (ae.refl _ (N.alloc (.cells xT 91))) (g:=N.heap.size) (fun _=>Qb) xT;have VS:Hid (ae [] N ((N.alloc (.cells xT 91)).setRow N.heap.size xT)):=lh ((ae.new N _).trans ho7 (U:=[]) Qb (fun g hg QH=>Qd));have HZ8:Hid (((N.alloc (.cells xT 91)).setRow N.heap.size xT).heap.size=N.heap.size+1):=lh (by simp [World.setRow]);have Tc:Hid (mr N.heap.size ((N.alloc (.cells xT 91)).setRow N.heap.size xT) r6):=lh ⟨ai,[ai,ai,ai,ai],HS7.out,⟨aj.nil _ _ _ _,rfl,fun i hi=>by
  match i,hi with
  | 0,_=>exact aj.nil _ _ _ _
  | 1,_=>exact aj.nil _ _ _ _
  | 2,_=>exact aj.nil _ _ _ _
  | 3,_=>exact aj.nil _ _ _ _⟩,rfl⟩
 clear ho7 HS7;go_upto_if 39 with (first
  | (refine am rfl (.tmp 18) (.tmp 37) 91 rfl rfl rfl HS0 HIz rfl HOz ?_)
  | fail)
 clear HS0;generalize hW8:World.setRow _ _ _=W8 at *
 clear hW8;have Wj:=lh (Zu.quiet VS);have TL:=lh ((Rh.q Rk).q VS);have UQ:Hid (w.heap.size+1+1+1+1<=N.heap.size):=lh (l6 Rk.size WT.out);obtain ⟨BQ,hBQ⟩:=bu N.heap.size
 rw [<- hBQ] at Tc Wj HZ8 UQ |-
 have Jfn:=lh ((Rk.q VS).row Sp);have Yd:=lh ((Rk.q VS).row SK);have Ye:=lh ((Rk.q VS).row Tj);have Yf:=lh ((Rk.q VS).row HRt);clear Zu Rk VS Sp SK Tj HRt WT hBQ;go_cut [19] (fun s19 wx=>∃ (rr:j4×Int),s19=.int .i64 rr.2/\Hid (mr BQ wx rr.1)/\Hid (CH=jg cur b x y q rr)/\Hid (ae [BQ] W8 wx))
 case first =>
  rcases hkn with rfl | rfl
  ·have HCf:Hid (CH=if rG prev b x y q then r6 else jg cur b x y q (je prev b x y q r)):=lh (by rw [HCh.out];simp)
   rw [Jcf.out] at HCf;obtain ⟨p0,p1,p2⟩:=ag Ye;go_wp2_with fail;refine (Jdb.out (by first | rfl | trivial) W8 TL 0 0 Qa Qa).mono ?_;rintro e w9 ⟨v9,rfl,Vc,SR⟩;obtain ⟨g9,c9,rfl,-,-⟩:=Vc.form (eC Yv);rw [Yv.out] at Vc |-
   have HO9:=lh Vc;have SP:=lh SR;clear Vc SR p0 p1 p2;go_wp2_with fail;refine (Uh.out (by first | rfl | trivial) w9 _ _ _ _ _ _ 0 0 (Wj.quiet SP) HO9.ints).mono ?_;rintro e VQ ⟨⟨v10,rfl,VG⟩,UI⟩;have Xk:=Vj.out (by first | rfl | trivial) 0 0;obtain ⟨L0,hL0⟩:=bu (bB b (aq prev x y 8 0 0) q)
   rw [<- hL0] at VG Xk HCf;obtain ⟨g10,c10,rfl,-,-⟩:=VG.form Qa;rw [Xk] at VG |-
   have Ur:=lh VG;have Sr:=lh (SP.q UI);clear VG UI Xk hL0;go_wp2_with fail;have JfH:=qL Ur.ints;have UV:Hid (L0.length=64):=lh (by have h:=Ur.ints.open;obtain ⟨_,_,h1,-⟩:=h;injection h1 with _ h2 _;exact h2.symm)
   try rw [UV.out] at JfH
   refine JfH.mono ?_;rintro e Uy ⟨rfl,rfl⟩;clear JfH;cases hz:cN L0 with
   | true =>
    have Yq:CH=r6:=by rw [HCf.out,hz];rfl
    rw [Yq] at QF;obtain ⟨lv0,vs0,JcD,Yi,-⟩:=Tc.quiet Sr;have Vy:=lh JcD;have Jdh:=lh Yi;have Jdv:=lh (Sr.row Yf);have HQf:=lh (TL.q Sr);clear JcD Yi hz Yq;have M:=lh (eE (k:=0) (mo:=0) (ms:=[0,0,0,0]) (vx:=0) (vy:=0) (lv:=lv0) (vs:=vs0) rfl Jdh.len);have HO0:=lh (eh (k:=0) (mo:=0) (ms:=[0,0,0,0]) (vx:=0) (vy:=0) (lv:=lv0) (vs:=vs0) Jdh.one.1 Jdh.one.2);have Yg:=lh (dD (k:=0) (mo:=0) (ms:=[0,0,0,0]) (vx:=0) (vy:=0) (lv:=ai) (vs:=[ai,ai,ai,ai]) (k':=0) (mo':=0) (ms':=[0,0,0,0]) (vx':=0) (vy':=0) (lv':=lv0) (vs':=vs0) rfl rfl rfl Jdh.len);have Vv:=lh (m7 VQ (w.heap.size+1+1+1) _ (j1 0 0 [0,0,0,0] 0 0 lv0 vs0).toArray _ _ Jdv);have VU:=lh (ae.setRow (S:=[w.heap.size+1+1+1]) (ae.refl _ VQ) (g:=w.heap.size+1+1+1) (fun _=>Qb) (j1 0 0 [0,0,0,0] 0 0 lv0 vs0).toArray)
    go_wp2_with (first
     | (refine az rfl (.tmp 18) 91 rfl rfl Vy RT rfl M ?_)
     | (refine am rfl (.tmp 16) (.tmp 49) 91 rfl rfl rfl Jdv M Yg HO0 ?_)
     | fail)
    refine TV (v:=.agg (j1 0 0 [0,0,0,0] 0 0 lv0 vs0).toArray) (results_cell_row results40 _ _ (w.heap.size+1+1+1) _ _ _ _ rfl Vv RT rfl M) rfl (QF.out _ _ ⟨lv0,vs0,rfl,rfl,?_,?_⟩)
    ·have h3:=Jdh.only VU (fun g hg=>by rw [i5] at hg;have:=UQ.out;exact .inl Qa)
     exact EW
    ·exact (HQf.trans VU (U:=[]) Qb (fun g hg QH=>Qd))
   | false =>
    have Uz:Hid (CH=jg cur b x y q (je prev b x y q r)):=lh (by rw [HCf.out,hz];simp);clear hz HCf;have HSe:=lh (Jha.out (by first | rfl | trivial) VQ (TL.q Sr) _ _ _ (Wj.quiet Sr) (l6 Sr.size HZ8.out));generalize aY prev b x y r=SS at *
    obtain ⟨V,Y,SC⟩:=SS;obtain ⟨o1,o2,o3,o4⟩:=Jhb.out;simp only at o1 o2 o3 o4 HSe JbU;obtain ⟨p0,p1,p2⟩:=ag (Sr.row Ye);go_wp2_with fail;refine HSe.mono ?_;rintro e w12 ⟨rfl,Zd⟩;have Ss:=lh (Sr.q Zd);clear Zd HSe p0 p1 p2;have RY:=lh ((ae.new w12 (.cells #[V,Y] 73)).alloc (.cells #[(),d8] 39));have HRv:Hid (((w12.alloc (.cells #[V,Y] 73)).alloc (.cells #[(),d8] 39)).heap[w12.heap.size]?=some (.cells #[V,Y] 73)):=lh ((BS).row (Sd w12 _));obtain ⟨p0,p1,p2⟩:=ag ((Ss.q RY).row Ye);obtain ⟨v0,v1,-⟩:=aL HRv;go_wp2_with fail;generalize JhB:World.alloc (World.alloc w12 _) _=W13 at *
    clear JhB p0 p1 p2 v0 v1;have VR:=lh (Ss.q RY);have HVb:Hid (W8.heap.size<=w12.heap.size):=lh Ss.size;generalize w12.heap.size=VB at *
    clear RY;refine (Jdb.out (by first | rfl | trivial) W13 (TL.q VR) V Y ⟨o1,o2⟩ ⟨o3,o4⟩).mono ?_;rintro e D ⟨v14,rfl,ZN,Ve⟩;obtain ⟨g14,c14,rfl,-,-⟩:=ZN.form (eC Yv);rw [Yv.out] at ZN |-
    have Xn:=lh ZN.ints;have WR:=lh (VR.q Ve);have YC:=lh (Ve.row HRv);clear ZN Ve HRv;obtain ⟨v0,v1,-⟩:=aL YC;go_wp2_with fail;refine (WN.out (by first | rfl | trivial) D _ _ _ _ _ _ V Y ⟨o1,o2⟩ ⟨o3,o4⟩ Xn (Wj.quiet WR)).mono ?_;rintro e w15 ⟨rfl,XA⟩;have SH:=lh (WR.q XA);have JgF:=lh (Xn.quiet XA);have JgX:=lh (XA.row YC);clear XA YC Xn v0 v1;obtain ⟨v0,v1,-⟩:=aL JgX;have HLm:=lh (Vj.out (by first | rfl | trivial) V Y);generalize hcm:eA (aq prev x y 8 V Y) b V Y=CM at *
    go_wp2_with fail;have HVn:Hid (VB∉[BQ]):=lh (by have:=HVb.out;have:=HZ8.out;rw [i5];omega);refine Tf (S:=(fun w'=>w'.cell? ⟨VB,0,none⟩=some (.int .i64 V)/\w'.cell? ⟨VB,1,none⟩=some (.int .i64 Y))) Qc ?_ (fun hHeld=>?_)
    ·exact ⟨v0,v1⟩
    refine tk 0 71 ?_;refine tk 1 72 ?_;refine tk 2 73 ?_;refine tk 3 74 ?_;refine j6 4 75 fun K hK=>?_
    go_simp;refine (Uh.out (by first | rfl | trivial) _ _ _ _ _ _ _ V Y (Wj.quiet SH.drew) (JgF.quiet (ae.refl [] _).drew)).mono ?_;rintro e w16 ⟨⟨v16,rfl,ZO⟩,ZR⟩;obtain ⟨g16,c16,rfl,-,-⟩:=ZO.form (eC HLm);rw [HLm.out] at ZO |-
    have YV:=(ae.refl [] w15).drew.q ZR;have Jnq:=lh ZO;have Jcb:=lh (SH.q YV);obtain ⟨I,J,F,YZ,ZL⟩:=Tc.quiet Jcb;clear ZO ZR;refine ko hK ⟨YV.cell v0 Qb,YV.cell v1 Qb⟩ fun hHeld=>?_;clear hK K
    refine tk 5 76 ?_;refine j9 6 fun K hK=>?_
    refine aM (.tmp 18) (.tmp 76) 91 rfl (g:=BQ) (c':=(j1 1 0 [0,0,0,0] V Y (.slice g16 64 c16) [ai,ai,ai,ai]).toArray) rfl rfl F (eE (k:=1) (mo:=0) (ms:=[0,0,0,0]) (vx:=V) (vy:=Y) (lv:=.slice g16 64 c16) (vs:=[ai,ai,ai,ai]) rfl rfl) (dD (k:=r6.kind) (mo:=r6.mode) (ms:=r6.modes) (vx:=r6.vx) (vy:=r6.vy) (lv:=I) (vs:=J) (k':=1) (mo':=0) (ms':=[0,0,0,0]) (vx':=V) (vy':=Y) (lv':=.slice g16 64 c16) (vs':=[ai,ai,ai,ai]) ZL YZ.len rfl rfl) (eh (k:=1) (mo:=0) (ms:=[0,0,0,0]) (vx:=V) (vy:=Y) (lv:=.slice g16 64 c16) (vs:=[ai,ai,ai,ai]) rfl jK) (fun w17 ZT Jvj=>?_);have Jcu:ep (BQ+1) w16.heap.size w16 (.slice g16 64 c16) [ai,ai,ai,ai] (bB b (aq prev x y 8 V Y) q) [[],[],[],[]]:=⟨Jnq.ints.mono (by have:=SH.size;have:=HZ8.out;simp only [show w15.drew.heap.size=w15.heap.size from rfl];omega) (Pm _),rfl,fun i hi=>by
     match i,hi with
     | 0,_=>exact aj.nil _ _ _ _
     | 1,_=>exact aj.nil _ _ _ _
     | 2,_=>exact aj.nil _ _ _ _
     | 3,_=>exact aj.nil _ _ _ _⟩
    have JmO:Hid (mr BQ w17 ⟨1,0,[0,0,0,0],V,Y,bB b (aq prev x y 8 V Y) q,[[],[],[],[]]⟩):=mr.store Jvj ZT Jcu rfl;have JnJ:=lh ZT;have e0:=ZT.cell (YV.cell v0 Qb) HVn;have e1:=ZT.cell (YV.cell v1 Qb) HVn;clear Jvj ZT Jcu F YZ ZL;refine ko hK ⟨e0,e1⟩ fun hHeld=>?_;clear hK K
    refine Wn Qc ?_ _;go_wp2_with fail;go_meet;refine ⟨je prev b x y q r,by rw [JbU.out],lh ?_,Uz,lh ((Jcb.mono (U:=[BQ]) Qb).trans JnJ (fun _ h _=>h) (fun _ h _=>h))⟩;rw [JbU.out];exact JmO
  ·go_wp2_with fail
   go_meet;exact ⟨(r6,-1),rfl,Tc,lh (by rw [HCh.out];simp),lh (AY)⟩
 case rest =>
  obtain ⟨rr,rfl,HBc,XG,HQc⟩:=hcut;obtain ⟨W9,hW9⟩:=bu wc
  subst hW9;rw [GF] at XG;have SP:Hid (ae [] w W9):=TL.trans HQc (U:=[]) Qb (fun g hg QH=>by have:=UQ.out;rw [i5] at hg;omega);have HI9:=lh (Wj.only HQc (fun g hg=>Qd));have HK:Hid (w.heap.size+1∉[BQ]/\w.heap.size+1+1+1∉[BQ]):=lh (by have:=UQ.out;simp only [i5];omega);have Jce:=lh (HQc.rowAt Yd HK.1);have Zy:=lh (HQc.rowAt Yf HK.2);have hz9:=HQc.size;have HZ9:Hid (BQ+1<=W9.heap.size):=lh (j0 HZ8.out);clear hz9 HQc Yd Yf TL Tc Wj Jfn Ye JbU Jcf Jdb Uh Vj Jha Jhb WN HCh Yv;obtain ⟨bs0,bs1⟩:=Tn;have JyK:=UL;obtain ⟨BA,hBA⟩:=bu (aI cur b x y 8)
  rw [<- hBA] at HBe XG bs0 bs1 Yb UL JgK hbm;obtain ⟨bm,bs⟩:=BA;simp only at HBe XG bs0 bs1 Yb UL JgK hbm;generalize fV cur b x y 8 q=L at *
  generalize fO cur x y 8 bm=PD at *
  have e1:IntKind.i64.wrap (4*bs)=4*bs:=Qe;have e2:IntKind.i64.wrap (4*bs+8)=4*bs+8:=Qe;obtain ⟨rs,rc⟩:=rr;simp only at XG HBc |-
  obtain ⟨c0,c1,c2⟩:=ag Jce;clear hBA JyK;go_wp2_with fail;refine (HEd.out W9 SP).mono ?_;rintro e VQ ⟨tv,lfv,rfl,hot,Xl,UI⟩;generalize dA cur x y 8=TP at *
  generalize cd cur x y 8=LF at *
  generalize aB cur (x-1) (y-1)=CR at *
  obtain ⟨gt,ct,htf,-⟩:=hot.ints.open;obtain ⟨gl,cl,hlf,-⟩:=Xl.ints.open;subst htf;subst hlf;generalize TP.length=tn at *
  generalize LF.length=ln at *
  have JnI:=lh hot.ints;have Jna:=lh Xl.ints;have Sr:=lh UI;clear hot Xl UI c0 c1 c2 HEd;go_wp2_with fail;refine (HBe.out VQ _ _ _ _ _ _ _ _ _ (HI9.quiet Sr) JnI Jna).mono ?_;rintro e Uy ⟨rfl,Xc⟩;have Z:=lh ((Sr.q Xc).q (ae.new Uy (.cells #[(),d8] 39)));have JnS:=lh (Xc.q (ae.new Uy (.cells #[(),d8] 39)));clear Xc HBe;go_upto_region 13 with (fail)
  generalize World.alloc Uy _=W12 at *
  have JsG:=lh (JnI.quiet JnS);have Jdd:=lh (Jna.quiet JnS);clear JnI Jna JnS Sr;go_cut [102] (fun JBY wx=>∃ t:Bool,JBY=.bool t/\Hid (t=decide (rc<0\/4*bs+8<rc))/\wx=W12)
  case first =>
   by_cases Vg:rc<0
   ·go_wp2_with fail
    go_meet;exact ⟨true,by first | rfl | simp [Vg],lh (by simp [Vg]),rfl⟩
   ·by_cases Tt:4*bs+8<rc
    ·go_wp2_with fail
     go_meet;exact ⟨true,by first | rfl | simp [Vg,Tt],lh (by simp [Vg,Tt]),rfl⟩
    ·go_wp2_with fail
     go_meet;exact ⟨false,by first | rfl | simp [Vg,Tt],lh (by simp [Vg,Tt]),rfl⟩
  case rest =>
   obtain ⟨t,rfl,HTd,rfl⟩:=hcut;have Jgt:=lh (HBc.quiet Z);have Ss:=lh (SP.q Z);have JgE:=lh (HI9.quiet Z);have Jlx:=lh (Z.row Jce);have Jly:=lh (Z.row Zy);have JnT:Hid (BQ+1<=wc.heap.size):=Pw HZ9 Z.size;clear HBc HI9 Jce Zy HZ9 Z SP;go_upto_if 102 with (fail)
   go_cut [19] (fun s19 wx=>∃ (r2:j4×Int),s19=.int .i64 r2.2/\0<=r2.2/\Hid (mr BQ wx r2.1)/\Hid (r2=dZ (rs,rc) ⟨2,bm,[0,0,0,0],0,0,L,[[],[],[],[]]⟩ (4*bs+8))/\Hid (ae [BQ] wc wx))
   case first =>
    cases t with
    | false =>
     have hno:¬ (rc<0\/4*bs+8<rc):=by intro h;have:=HTd.out;rw [decide_eq_true h] at this;exact absurd this Qb
     have HNo:=lh hno;have Vg:0<=rc:=Qa;clear hno;go_wp2_with fail;go_meet;exact ⟨(rs,rc),rfl,Vg,Jgt,lh (by unfold dZ;rw [if_neg HNo.out]),lh (AY)⟩
    | true =>
     have Jzp:Hid (rc<0\/4*bs+8<rc):=lh (A2 HTd.symm);go_wp2_with fail;refine (Yb.out wc _ _ _ _ _ _ JsG Jdd).mono ?_;rintro e D ⟨⟨JKp,rfl,hop⟩,Ve⟩;obtain ⟨gp,cp,rfl,-,-⟩:=hop.form (eC UL);rw [UL.out] at hop |-
     have O:=ae.new D (.cells #[(),d8] 39);have SH:=lh (Ve.q O);have JyH:=lh (hop.ints.quiet O);clear hop Ve O;go_wp2_with fail;generalize World.alloc D _=W15 at *
     refine (JgK.out W15 _ _ _ _ _ _ (JgE.quiet SH) JyH).mono ?_;rintro e w16 ⟨⟨v16,rfl,Xl⟩,ZR⟩;obtain ⟨gL,cL,rfl,-,-⟩:=Xl.form (eC WP);rw [WP.out] at Xl |-
     have JbS:=lh Xl.ints;have Jcb:=lh (SH.q ZR);have JxW:Hid (BQ+1<=W15.heap.size):=Pw JnT SH.size;obtain ⟨I,J,F,YZ,ZL⟩:=Jgt.quiet Jcb;have HRo:=lh F;have YE:=lh (dD (k:=rs.kind) (mo:=rs.mode) (ms:=rs.modes) (vx:=rs.vx) (vy:=rs.vy) (lv:=I) (vs:=J) (k':=2) (mo':=(bm:Int)) (ms':=[0,0,0,0]) (vx':=0) (vy':=0) (lv':=.slice gL 64 cL) (vs':=[ai,ai,ai,ai]) ZL YZ.len rfl rfl);have Xo:=lh (eE (k:=2) (mo:=(bm:Int)) (ms:=[0,0,0,0]) (vx:=0) (vy:=0) (lv:=.slice gL 64 cL) (vs:=[ai,ai,ai,ai]) rfl rfl);have Zx:=lh (eh (k:=2) (mo:=(bm:Int)) (ms:=[0,0,0,0]) (vx:=0) (vy:=0) (lv:=.slice gL 64 cL) (vs:=[ai,ai,ai,ai]) rfl jK);have HRn:Hid ((w16.setRow BQ (j1 2 (bm:Int) [0,0,0,0] 0 0 (.slice gL 64 cL) [ai,ai,ai,ai]).toArray).heap[BQ]?=some (.cells (j1 2 (bm:Int) [0,0,0,0] 0 0 (.slice gL 64 cL) [ai,ai,ai,ai]).toArray 91)):=m7 w16 BQ _ _ _ _ F;have VU:=lh (ae.setRow (S:=[BQ]) (ae.refl _ w16) (g:=BQ) (fun _=>Qb) (j1 2 (bm:Int) [0,0,0,0] 0 0 (.slice gL 64 cL) [ai,ai,ai,ai]).toArray);clear Xl ZR F YZ ZL
     go_wp2_with (first | (refine am rfl (.tmp 18) (.tmp 119) 91 rfl rfl rfl HRo Xo YE Zx ?_) | fail)
     go_meet;refine ⟨(⟨2,bm,[0,0,0,0],0,0,L,[[],[],[],[]]⟩,4*bs+8),rfl,by simp only;omega,lh (mr.store HRn VU ?_ rfl),lh (by unfold dZ;rw [if_pos Jzp.out]),lh ((Jcb.mono (U:=[BQ]) Qb).trans VU (fun _ h _=>h) (fun _ h _=>h))⟩;refine ⟨JbS.mono JxW (Pm _),rfl,fun i hi=>?_⟩
     match i,hi with
     | 0,_=>exact aj.nil _ _ _ _
     | 1,_=>exact aj.nil _ _ _ _
     | 2,_=>exact aj.nil _ _ _ _
     | 3,_=>exact aj.nil _ _ _ _
   case rest =>
    obtain ⟨r2,rfl,UT,Si,SQ,QT⟩:=hcut;obtain ⟨W13,JhB⟩:=bu wc
    subst JhB;rw [<- SQ.out] at XG;have VR:Hid (ae [] w W13):=Ss.trans QT (U:=[]) Qb (fun g hg QH=>by have:=UQ.out;rw [i5] at hg;omega);have Jne:=lh (JgE.only QT (fun g hg=>Qd));have Jsp:=lh (QT.rowAt Jlx HK.1);have Jlz:=lh (QT.rowAt Jly HK.2);have ZA:Hid (BQ+1<=W13.heap.size):=Pw JnT QT.size;have HFo:=lh (JgC.out W13 VR _ _ _ Jne);clear SQ QT HTd JsG Jdd JgE Jlx Jly Yb JgK WP UL Jgt JnT Ss JgC;generalize fp cur b x y q=FE at *
    obtain ⟨ms,ls,cost⟩:=FE;simp only at HFo XG;obtain ⟨E,k2⟩:=r2;simp only at UT Si XG |-
    obtain ⟨c0,c1,c2⟩:=ag Jsp;go_wp2_with fail;refine HFo.mono ?_;rintro e D ⟨vs,rfl,RQ,Jap,Ve⟩;have Tv:=lh RQ;have Wo:Hid ((D.alloc (.cells xT 91)).heap[D.heap.size]?=some (.cells (j1 0 0 [0,0,0,0] 0 0 ai [ai,ai,ai,ai]).toArray 91)):=Sd D _;have O:ae [] D ((D.alloc (.cells xT 91)).setRow D.heap.size (j1 3 0 ms 0 0 ai vs).toArray):=(ae.new D _).trans (ae.setRow (S:=[D.heap.size]) (ae.refl _ (D.alloc (.cells xT 91))) (g:=D.heap.size) (fun _=>Qb) (j1 3 0 ms 0 0 ai vs).toArray) (U:=[]) Qb (fun g hg QH=>Qd);have JxQ:Hid (((D.alloc (.cells xT 91)).setRow D.heap.size (j1 3 0 ms 0 0 ai vs).toArray).heap[D.heap.size]?=some (.cells (j1 3 0 ms 0 0 ai vs).toArray 91)):=m7 _ D.heap.size _ (j1 3 0 ms 0 0 ai vs).toArray _ _ Wo;have JrF:Hid (ep (BQ+1) ((D.alloc (.cells xT 91)).setRow D.heap.size (j1 3 0 ms 0 0 ai vs).toArray).heap.size ((D.alloc (.cells xT 91)).setRow D.heap.size (j1 3 0 ms 0 0 ai vs).toArray) ai vs [] ls):=lh (by
     have h3:=Jap.only O Qb;have z1:=O.size;have z2:=ZA.out;exact ⟨h3.large.mono z2 z1,h3.len,fun i hi=>(h3.small i hi).mono z2 z1⟩)
    have SH:=lh (Ve.q O);have Jhd:=lh (dD (k:=0) (mo:=0) (ms:=[0,0,0,0]) (vx:=0) (vy:=0) (lv:=ai) (vs:=[ai,ai,ai,ai]) (k':=3) (mo':=0) (ms':=ms) (vx':=0) (vy':=0) (lv':=ai) (vs':=vs) rfl rfl RQ Jap.len);have HI4:=lh (eE (k:=3) (mo:=0) (ms:=ms) (vx:=0) (vy:=0) (lv:=ai) (vs:=vs) RQ Jap.len);have Yo:=lh (eh (k:=3) (mo:=0) (ms:=ms) (vx:=0) (vy:=0) (lv:=ai) (vs:=vs) rfl Jap.one.2);have HLe:=lh Jap.len;clear RQ Jap Ve O HFo c0 c1 c2;by_cases QH:cost<k2
    ·have HC3:Hid (CH=⟨3,0,ms,0,0,[],ls⟩):=lh (by rw [XG.out];unfold dZ;rw [if_pos (.inr QH)])
     rw [HC3.out] at QF;obtain ⟨I,J,F,YZ,ZL⟩:=Si.quiet SH;have HRo:=lh F;have YE:=lh (dD (k:=E.kind) (mo:=E.mode) (ms:=E.modes) (vx:=E.vx) (vy:=E.vy) (lv:=I) (vs:=J) (k':=3) (mo':=0) (ms':=ms) (vx':=0) (vy':=0) (lv':=ai) (vs':=vs) ZL YZ.len Tv HLe);have HRn:Hid ((((D.alloc (.cells xT 91)).setRow D.heap.size (j1 3 0 ms 0 0 ai vs).toArray).setRow BQ (j1 3 0 ms 0 0 ai vs).toArray).heap[BQ]?=some (.cells (j1 3 0 ms 0 0 ai vs).toArray 91)):=m7 ((D.alloc (.cells xT 91)).setRow D.heap.size (j1 3 0 ms 0 0 ai vs).toArray) BQ _ _ _ _ F;have JkN:=ae.setRow (S:=[BQ]) (ae.refl _ ((D.alloc (.cells xT 91)).setRow D.heap.size (j1 3 0 ms 0 0 ai vs).toArray)) (g:=BQ) (fun _=>Qb) (j1 3 0 ms 0 0 ai vs).toArray;have Zw:=lh (JrF.grown JkN (fun g hg=>Qd));have JgW:=lh (JkN.rowAt (SH.row Jlz) HK.2);have HQN:Hid (ae [] w (((D.alloc (.cells xT 91)).setRow D.heap.size (j1 3 0 ms 0 0 ai vs).toArray).setRow BQ (j1 3 0 ms 0 0 ai vs).toArray)):=lh ((VR.q SH).trans JkN (U:=[]) Qb (fun g hg QH=>by have:=UQ.out;rw [i5] at hg;omega));clear F YZ ZL JkN;have M:=lh (eE (k:=3) (mo:=0) (ms:=ms) (vx:=0) (vy:=0) (lv:=ai) (vs:=vs) Tv Zw.len);have HO0:=lh (eh (k:=3) (mo:=0) (ms:=ms) (vx:=0) (vy:=0) (lv:=ai) (vs:=vs) Zw.one.1 Zw.one.2);have Yg:=lh (dD (k:=0) (mo:=0) (ms:=[0,0,0,0]) (vx:=0) (vy:=0) (lv:=ai) (vs:=[ai,ai,ai,ai]) (k':=3) (mo':=0) (ms':=ms) (vx':=0) (vy':=0) (lv':=ai) (vs':=vs) rfl rfl Tv Zw.len);have Vv:=lh (m7 (((D.alloc (.cells xT 91)).setRow D.heap.size (j1 3 0 ms 0 0 ai vs).toArray).setRow BQ (j1 3 0 ms 0 0 ai vs).toArray) (w.heap.size+1+1+1) _ (j1 3 0 ms 0 0 ai vs).toArray _ _ JgW);have VU:=lh (ae.setRow (S:=[w.heap.size+1+1+1]) (ae.refl _ (((D.alloc (.cells xT 91)).setRow D.heap.size (j1 3 0 ms 0 0 ai vs).toArray).setRow BQ (j1 3 0 ms 0 0 ai vs).toArray)) (g:=w.heap.size+1+1+1) (fun _=>Qb) (j1 3 0 ms 0 0 ai vs).toArray)
     go_wp2_with (first
      | (refine am rfl (.tmp 31) (.tmp 127) 91 rfl rfl rfl Wo HI4 Jhd Yo ?_)
      | (refine az rfl (.tmp 31) 91 rfl rfl JxQ RT rfl HI4 ?_)
      | (refine am rfl (.tmp 18) (.tmp 132) 91 rfl rfl rfl HRo HI4 YE Yo ?_)
      | (refine az rfl (.tmp 18) 91 rfl rfl HRn RT rfl M ?_)
      | (refine am rfl (.tmp 16) (.tmp 133) 91 rfl rfl rfl JgW M Yg HO0 ?_)
      | fail)
     refine TV (v:=.agg (j1 3 0 ms 0 0 ai vs).toArray) (results_cell_row results40 _ _ (w.heap.size+1+1+1) _ _ _ _ rfl Vv RT rfl M) rfl (QF.out _ _ ⟨ai,vs,rfl,Tv.out,?_,?_⟩)
     ·exact EX
     ·exact (HQN.trans VU (U:=[]) Qb (fun g hg QH=>Qd))
    ·have HC3:Hid (CH=E):=lh (by rw [XG.out];unfold dZ;rw [if_neg (by simp only;omega)])
     rw [HC3.out] at QF;obtain ⟨I,J,F,YZ,ZL⟩:=Si.quiet SH;have HRo:=lh F;have Zw:=lh YZ;have HMo:=lh ZL;have JgW:=lh (SH.row Jlz);have HQN:=lh (VR.q SH);clear F YZ ZL;have M:=lh (eE (k:=E.kind) (mo:=E.mode) (ms:=E.modes) (vx:=E.vx) (vy:=E.vy) (lv:=I) (vs:=J) HMo Zw.len);have HO0:=lh (eh (k:=E.kind) (mo:=E.mode) (ms:=E.modes) (vx:=E.vx) (vy:=E.vy) (lv:=I) (vs:=J) Zw.one.1 Zw.one.2);have Yg:=lh (dD (k:=0) (mo:=0) (ms:=[0,0,0,0]) (vx:=0) (vy:=0) (lv:=ai) (vs:=[ai,ai,ai,ai]) (k':=E.kind) (mo':=E.mode) (ms':=E.modes) (vx':=E.vx) (vy':=E.vy) (lv':=I) (vs':=J) rfl rfl HMo Zw.len);have Vv:=lh (m7 ((D.alloc (.cells xT 91)).setRow D.heap.size (j1 3 0 ms 0 0 ai vs).toArray) (w.heap.size+1+1+1) _ (j1 E.kind E.mode E.modes E.vx E.vy I J).toArray _ _ JgW);have VU:=lh (ae.setRow (S:=[w.heap.size+1+1+1]) (ae.refl _ ((D.alloc (.cells xT 91)).setRow D.heap.size (j1 3 0 ms 0 0 ai vs).toArray)) (g:=w.heap.size+1+1+1) (fun _=>Qb) (j1 E.kind E.mode E.modes E.vx E.vy I J).toArray)
     go_wp2_with (first
      | (refine am rfl (.tmp 31) (.tmp 127) 91 rfl rfl rfl Wo HI4 Jhd Yo ?_)
      | (refine az rfl (.tmp 18) 91 rfl rfl HRo RT rfl M ?_)
      | (refine am rfl (.tmp 16) (.tmp 133) 91 rfl rfl rfl JgW M Yg HO0 ?_)
      | fail)
     refine TV (v:=.agg (j1 E.kind E.mode E.modes E.vx E.vy I J).toArray) (results_cell_row results40 _ _ (w.heap.size+1+1+1) _ _ _ _ rfl Vv RT rfl M) rfl (QF.out _ _ ⟨I,J,rfl,HMo.out,?_,?_⟩)
     ·exact EX
     ·exact (HQN.trans VU (U:=[]) Qb (fun g hg QH=>Qd))
end
end Go.Proofs.YthcafdfdglfabaaGreatDoor
