/- kinref21.square: how a square is coded. Conditions: frames that may be, of alike sides, a place in them, a quantiser and a reach that may be. -/
import Derived.Test.YthcafdfdglfabaaGreatDoorA7
namespace Go.Proofs.YthcafdfdglfabaaGreatDoor
open Go.RowKit
set_option linter.unusedVariables false
set_option linter.unusedSimpArgs false
set_option maxRecDepth 100000
set_option maxHeartbeats 16000000
theorem DA (cur:ai) (b:List Int) (x y q:Int) (rr:SqD×Int):ik cur b x y q rr=(dK (dK rr ⟨2,(aG cur b x y 8).1,[0,0,0,0],0,0,fp cur b x y 8 q,[[],[],[],[]]⟩ (4*(aG cur b x y 8).2+8)) ⟨3,0,(ew cur b x y q).1,0,0,[],(ew cur b x y q).2.1⟩ (ew cur b x y q).2.2).1:=rfl
def kK (O:Nat) (W:World) (s:SqD):Prop:=∃ lv vs,W.heap[O]?=some (.cells (sqL s.kind s.mode s.modes s.vx s.vy lv vs).toArray 91 (0,0))/\dU (O+1) W.heap.size W lv vs s.large s.small/\s.modes.length=4
theorem kK.quiet {O:Nat} {W W':World} {s:SqD} (h:kK O W s) (o:ae [] W W'):kK O W' s:=by
 obtain ⟨lv,vs,hr,hi,hm⟩:=h;exact ⟨lv,vs,o.row hr,hi.grown o Mg,hm⟩
theorem kK.store {O:Nat} {W W':World} {s:SqD} {lv:Value} {vs:List Value} (hr:W'.heap[O]?=some (.cells (sqL s.kind s.mode s.modes s.vx s.vy lv vs).toArray 91 (0,0))) (o:ae [O] W W') (hi:dU (O+1) W.heap.size W lv vs s.large s.small) (hm:s.modes.length=4):kK O W' s :=
 ⟨lv,vs,hr,hi.grown o (fun g hg=>Mj),hm⟩
section
theorem BI {p:Prop} (h:p:=by
 have z1:=Sg.size;have z2:=SK.out;exact ⟨h3.large.mono Mf z1,h3.len,fun i hi=>(h3.small i hi).mono Mf z1⟩):p:=h
theorem BJ {p:Prop} (h:p:=by
 have h3:=Vx.only Sg (fun g hg=>by rw [mSg] at hg;have:=SK.out;exact .inl Mf);exact BI):p:=h
theorem FH {q r lo hi TQ RK lo3 XF:Nat} {sv cv pv:Value} {src cur prev:ai} {w:World} (key:Bool) (hs:FrOk src) (hc:FrOk cur) (hp:key=false->FrOk prev/\prev.W=src.W/\prev.H=src.H) (hW:cur.W=src.W) (hH:cur.H=src.H) (is:ah .i64 lo hi w sv src.pix) (ic:ah .i64 TQ RK w cv cur.pix) (ip:ah .i64 lo3 XF w pv prev.pix) (x y:Int) (hx:0<=x/\x+8<=src.W) (hy:0<=y/\y+8<=src.H) (hq:q<=15) (hr:r<=7) (Ww:XF<=w.heap.size) (Juk:RK<=w.heap.size) :
  Calls Tryz.prog 40 #[.agg #[src.W,src.H,sv],.agg #[cur.W,cur.H,cv],.agg #[prev.W,prev.H,pv],.bool key,x,y,q,r] w fun e w'=>(∃ lv vs,e=.returned (.agg (sqL (aI src prev key q r cur x y).kind (aI src prev key q r cur x y).mode (aI src prev key q r cur x y).modes (aI src prev key q r cur x y).vx (aI src prev key q r cur x y).vy lv vs).toArray)/\(aI src prev key q r cur x y).modes.length=4/\dU w.heap.size w'.heap.size w' lv vs (aI src prev key q r cur x y).large (aI src prev key q r cur x y).small/\ae [] w w'):=by
 refine aN fun Q MM=>?_
 have JcC:=lh (fun (W:World) (o:ae [] w W)=>FA hs (is.quiet o) x y hx hy);have NS:(aO src x y 8).length=64:=lC src x y 8;have sb:=nP hs.sam x y 8;have HBl:Hid ((aO src x y 8).length=64):=lh NS;have NC:=hs.w1;have NE:=hs.h1;have Zv:=lh (fun (hk:key=false) (W:World) (o:ae [] w W) (vx vy:Int) (h1:-15<=vx/\vx<=15) (h2:-15<=vy/\vy<=15)=>gG (hp hk).1 (ip.quiet o) x y vx vy Mf Mf h1 h2);have Ux:=lh (fun (vx vy:Int)=>(aD prev x y 8 vx vy:(ar prev x y 8 vx vy).length=64));have Qk:=lh (fun (hk:key=false) (W:World) (l1 h1 l2 h2:Nat) (u v:Value) (vx vy:Int) (i1:ah .i64 l1 h1 W u (aO src x y 8)) (i2:ah .i64 l2 h2 W v (ar prev x y 8 vx vy))=>tP i1 i2 NS (aD prev x y 8 vx vy) sb (cD (hp hk).1.sam x y 8 vx vy) q hq);have Qw:=lh (fun (hk:key=false) (vx vy:Int)=>((kf (n:=8) (q:=q) (.inr rfl) NS (aD prev x y 8 vx vy) sb (cD (hp hk).1.sam x y 8 vx vy) hq).1:(bA (aO src x y 8) (ar prev x y 8 vx vy) q).length=64));have JcY:=lh (fun (hk:key=false) (W:World) (o:ae [] w W) (l1 h1:Nat) (u:Value) (i1:ah .i64 l1 h1 W u (aO src x y 8)) (g:h1<=W.heap.size)=>xw (r:=r) (hp hk).1 (ip.quiet o) i1 NS sb x y (by have:=(hp hk).2.1;omega) (by have:=(hp hk).2.2;omega) hr (by have:=o.size;omega) g);have JcZ:=lh (nu prev (aO src x y 8) x y hr);have SQ:=lh (fun (hk:key=false) (W:World) (l1 h1 l2 h2:Nat) (u v:Value) (vx vy:Int) (g1:-15<=vx/\vx<=15) (g2:-15<=vy/\vy<=15) (i1:ah .i64 l1 h1 W u (ar prev x y 8 vx vy)) (i2:ah .i64 l2 h2 W v (aO src x y 8))=>lF i1 i2 (by rw [aD];exact NS) (by rw [aD];exact Lm _) (cD (hp hk).1.sam x y 8 vx vy) sb g1 g2);have Xp:(cZ cur x y 8).length=8:=cH cur x y 8;have Qn:(bU cur x y 8).length=8:=iA cur x y 8;have Sl:=ix hc.sam x y 8;have PQ:=fX hc.sam x y 8;have TI:=eo hc.sam (x-1) (y-1);have HEd:=lh (fun (W:World) (o:ae [] w W)=>mY (f:=cur) hc (ic.quiet o) x y 8 (.inr rfl) hx.1 Mf hy.1 Mf);have HBe:=lh (fun (W:World) (l1 h1 l2 h2 l3 h3:Nat) (v0 v1 v2:Value) (i0:ah .i64 l3 h3 W v0 (aO src x y 8)) (i1:ah .i64 l1 h1 W v1 (cZ cur x y 8)) (i2:ah .i64 l2 h2 W v2 (bU cur x y 8))=>tM (n:=8) (.inr rfl) i0 i1 i2 NS Xp Qn sb Sl PQ TI)
 rw [show ku (aO src x y 8) (cZ cur x y 8) (bU cur x y 8) (aB cur (x-1) (y-1))=aG cur (aO src x y 8) x y 8 from rfl] at HBe;have PG:=ly hc.sam sb x y (n:=8) (.inr rfl) NS;have hbm:=iy cur (aO src x y 8) x y 8;have Ug:=lh (fun (W:World) (l1 h1 l2 h2:Nat) (v1 v2:Value) (i1:ah .i64 l1 h1 W v1 (cZ cur x y 8)) (i2:ah .i64 l2 h2 W v2 (bU cur x y 8))=>jr i1 i2 Xp Qn Sl PQ TI (mode:=((aG cur (aO src x y 8) x y 8).1:Int)) Mf);rw [show bj ((aG cur (aO src x y 8) x y 8).1:Int) (cZ cur x y 8) (bU cur x y 8) (aB cur (x-1) (y-1))=eR cur x y 8 (aG cur (aO src x y 8) x y 8).1 from rfl] at Ug;have SH:(eR cur x y 8 (aG cur (aO src x y 8) x y 8).1).length=64:=(gW hc.sam x y (n:=8) Mf _).1;have hps:au (eR cur x y 8 (aG cur (aO src x y 8) x y 8).1):=(gW hc.sam x y (n:=8) Mf _).2;have QK:Hid ((eR cur x y 8 (aG cur (aO src x y 8) x y 8).1).length=64):=lh SH;have JcK:=lh (fun (W:World) (l1 h1 l2 h2:Nat) (u v:Value) (i1:ah .i64 l1 h1 W u (aO src x y 8)) (i2:ah .i64 l2 h2 W v (eR cur x y 8 (aG cur (aO src x y 8) x y 8).1))=>tP i1 i2 NS SH sb hps q hq);rw [show bA (aO src x y 8) (eR cur x y 8 (aG cur (aO src x y 8) x y 8).1) q=fp cur (aO src x y 8) x y 8 q from rfl] at JcK;have ST:Hid ((fp cur (aO src x y 8) x y 8 q).length=64):=lh (gK (n:=8) (q:=q) (.inr rfl) hc.sam NS sb x y hq).1;have JcB:=lh (fun (W:World) (o:ae [] w W) (l1 h1:Nat) (u:Value) (i1:ah .i64 l1 h1 W u (aO src x y 8))=>zT (q:=q) hc (ic.quiet o) (by have:=o.size;omega) i1 NS sb x y hx.1 Mf hy.1 Mf hq);have HCh:Hid (aI src prev key q r cur x y=if key then ik cur (aO src x y 8) x y q (sq0,-1) else if pS prev (aO src x y 8) x y q then sq0 else ik cur (aO src x y 8) x y q (ij prev (aO src x y 8) x y q r)):=lh rfl;have Yp:Hid (pS prev (aO src x y 8) x y q=cB (bA (aO src x y 8) (ar prev x y 8 0 0) q)):=lh rfl;have XW:Hid (ij prev (aO src x y 8) x y q r=(⟨1,0,[0,0,0,0],(aZ prev (aO src x y 8) x y r).vx,(aZ prev (aO src x y 8) x y r).vy,bA (aO src x y 8) (ar prev x y 8 (aZ prev (aO src x y 8) x y r).vx (aZ prev (aO src x y 8) x y r).vy) q,[[],[],[],[]]⟩,dX (ar prev x y 8 (aZ prev (aO src x y 8) x y r).vx (aZ prev (aO src x y 8) x y r).vy) (aO src x y 8) (aZ prev (aO src x y 8) x y r).vx (aZ prev (aO src x y 8) x y r).vy)):=lh rfl
 obtain ⟨sa,sc,rfl,-⟩:=is.open;obtain ⟨ca,cc,rfl,-⟩:=ic.open;obtain ⟨pa,pc,rfl,-⟩:=ip.open;obtain ⟨CH,hCH⟩:∃ z,z=aI src prev key q r cur x y:=⟨_,rfl⟩
 rw [<- hCH] at HCh MM;generalize aO src x y 8=b at *
 have hkn:key=false\/key=true:=by cases key <;> simp
 clear is ic ip hs hc hp hx hy hq hr NS sb hCH NC NE hW hH Xp Qn Sl PQ TI SH hps Ww Juk;have NI:Hid (ae [] w ((((w.alloc (.cells #[src.W,src.H,.slice sa src.pix.length sc] 24)).alloc (.cells #[cur.W,cur.H,.slice ca cur.pix.length cc] 24)).alloc (.cells #[prev.W,prev.H,.slice pa prev.pix.length pc] 24)).alloc (.cells #[(),(),(),(),(),(),(),(),JEu,JEu,JEu,JEu,JEu] 91))):=lh ((((ae.new w _).alloc _).alloc _).alloc _);have Ou:Hid (((((w.alloc (.cells #[src.W,src.H,.slice sa src.pix.length sc] 24)).alloc (.cells #[cur.W,cur.H,.slice ca cur.pix.length cc] 24)).alloc (.cells #[prev.W,prev.H,.slice pa prev.pix.length pc] 24)).alloc (.cells #[(),(),(),(),(),(),(),(),JEu,JEu,JEu,JEu,JEu] 91)).heap[w.heap.size]?=some (.cells #[src.W,src.H,.slice sa src.pix.length sc] 24 (0,0))):=lh ((((ae.new (w.alloc _) _).alloc _).alloc _).row (heap_alloc_new w _));have OE:Hid (((((w.alloc (.cells #[src.W,src.H,.slice sa src.pix.length sc] 24)).alloc (.cells #[cur.W,cur.H,.slice ca cur.pix.length cc] 24)).alloc (.cells #[prev.W,prev.H,.slice pa prev.pix.length pc] 24)).alloc (.cells #[(),(),(),(),(),(),(),(),JEu,JEu,JEu,JEu,JEu] 91)).heap[w.heap.size+1]?=some (.cells #[cur.W,cur.H,.slice ca cur.pix.length cc] 24 (0,0))):=lh (((ae.new ((w.alloc _).alloc _) _).alloc _).row (ak Mg));have Pl:Hid (((((w.alloc (.cells #[src.W,src.H,.slice sa src.pix.length sc] 24)).alloc (.cells #[cur.W,cur.H,.slice ca cur.pix.length cc] 24)).alloc (.cells #[prev.W,prev.H,.slice pa prev.pix.length pc] 24)).alloc (.cells #[(),(),(),(),(),(),(),(),JEu,JEu,JEu,JEu,JEu] 91)).heap[w.heap.size+1+1]?=some (.cells #[prev.W,prev.H,.slice pa prev.pix.length pc] 24 (0,0))):=lh ((ae.new (((w.alloc _).alloc _).alloc _) _).row (ak Mg));have Zh:Hid (((((w.alloc (.cells #[src.W,src.H,.slice sa src.pix.length sc] 24)).alloc (.cells #[cur.W,cur.H,.slice ca cur.pix.length cc] 24)).alloc (.cells #[prev.W,prev.H,.slice pa prev.pix.length pc] 24)).alloc (.cells #[(),(),(),(),(),(),(),(),JEu,JEu,JEu,JEu,JEu] 91)).heap[w.heap.size+1+1+1]?=some (.cells (sqL 0 0 [0,0,0,0] 0 0 aj [aj,aj,aj,aj]).toArray 91 (0,0))):=lh (ak Mg)
 have Xz:Hid (((((w.alloc (.cells #[src.W,src.H,.slice sa src.pix.length sc] 24)).alloc (.cells #[cur.W,cur.H,.slice ca cur.pix.length cc] 24)).alloc (.cells #[prev.W,prev.H,.slice pa prev.pix.length pc] 24)).alloc (.cells #[(),(),(),(),(),(),(),(),JEu,JEu,JEu,JEu,JEu] 91)).heap.size=w.heap.size+1+1+1+1):=lh Mg;obtain ⟨a0,a1,a2⟩:=ag Ou;go_enter Tryz.func40,Tryz.ntmps40;go_wp2_with fail;generalize hW4:World.alloc (World.alloc (World.alloc (World.alloc w _) _) _) _=W4 at *
 clear hW4 a0 a1 a2;go_at_call 91;refine (JcC.out W4 NI).mono ?_;rintro e w5 ⟨bv,rfl,hb5,NF⟩;obtain ⟨gb,bc,rfl,hgb,Jkc⟩:=hb5.form (by rw [HBl.out];omega);rw [HBl.out] at hb5 |-
 have Xs:=lh hb5.ints;have Nz:=lh NF;clear hb5 NF hgb Jkc JcC;have Zi:Hid ((w5.alloc (.cells #[(),(),(),(),(),(),(),(),JEu,JEu,JEu,JEu,JEu] 91)).heap[w5.heap.size]?=some (.cells (sqL 0 0 [0,0,0,0] 0 0 aj [aj,aj,aj,aj]).toArray 91 (0,0))):=lh (heap_alloc_new w5 _);have HIz:=lh (dY (k:=0) (mo:=0) (ms:=[0,0,0,0]) (vx:=0) (vy:=0) (lv:=aj) (vs:=[aj,aj,aj,aj]) rfl rfl);have HOz:=lh (dO (k:=0) (mo:=0) (ms:=[0,0,0,0]) (vx:=0) (vy:=0) (lv:=aj) rfl iP);have NY:=lh Tryz.underlying91;have HS7:Hid (((w5.alloc (.cells #[(),(),(),(),(),(),(),(),JEu,JEu,JEu,JEu,JEu] 91)).setRow w5.heap.size #[(),(),(),(),(),(),(),(),JEu,JEu,JEu,JEu,JEu]).heap[w5.heap.size]?=some (.cells (sqL 0 0 [0,0,0,0] 0 0 aj [aj,aj,aj,aj]).toArray 91 (0,0))):=lh (setRow_heap _ w5.heap.size _ #[(),(),(),(),(),(),(),(),JEu,JEu,JEu,JEu,JEu] _ _ Zi);have Zs:=ae.setRow (S:=[w5.heap.size]) (ae.refl _ (w5.alloc (.cells #[(),(),(),(),(),(),(),(),JEu,JEu,JEu,JEu,JEu] 91))) (g:=w5.heap.size) (fun _=>Mg) #[(),(),(),(),(),(),(),(),JEu,JEu,JEu,JEu,JEu];have QQ:Hid (ae [] w5 ((w5.alloc (.cells #[(),(),(),(),(),(),(),(),JEu,JEu,JEu,JEu,JEu] 91)).setRow w5.heap.size #[(),(),(),(),(),(),(),(),JEu,JEu,JEu,JEu,JEu])):=lh ((ae.new w5 _).trans Zs (U:=[]) Mg (fun g hg MO=>Mj));have ZU:Hid (((w5.alloc (.cells #[(),(),(),(),(),(),(),(),JEu,JEu,JEu,JEu,JEu] 91)).setRow w5.heap.size #[(),(),(),(),(),(),(),(),JEu,JEu,JEu,JEu,JEu]).heap.size=w5.heap.size+1):=lh (by simp [World.setRow]);have OY:Hid (kK w5.heap.size ((w5.alloc (.cells #[(),(),(),(),(),(),(),(),JEu,JEu,JEu,JEu,JEu] 91)).setRow w5.heap.size #[(),(),(),(),(),(),(),(),JEu,JEu,JEu,JEu,JEu]) sq0):=lh ⟨aj,[aj,aj,aj,aj],HS7.out,⟨ah.nil _ _ _ _,rfl,fun i hi=>by
  match i,hi with
  | 0,_=>exact ah.nil _ _ _ _
  | 1,_=>exact ah.nil _ _ _ _
  | 2,_=>exact ah.nil _ _ _ _
  | 3,_=>exact ah.nil _ _ _ _⟩,rfl⟩
 clear Zs HS7;go_upto_if 39 with (first
  | (refine aq rfl (.tmp 18) (.tmp 37) 91 rfl rfl rfl Zi HIz rfl HOz ?_)
  | fail)
 clear Zi;generalize hW8:World.setRow _ _ _=W8 at *
 clear hW8;have Sn:=lh (Xs.quiet QQ);have RU:=lh ((NI.q Nz).q QQ);have SK:Hid (w.heap.size+1+1+1+1<=w5.heap.size):=lh (by have:=Nz.size;have:=Xz.out;omega);obtain ⟨BQ,hBQ⟩:∃ z,z=w5.heap.size:=⟨_,rfl⟩
 rw [<- hBQ] at OY Sn ZU SK |-
 have Jbu:=lh ((Nz.q QQ).row Ou);have Ui:=lh ((Nz.q QQ).row OE);have Uj:=lh ((Nz.q QQ).row Pl);have Uk:=lh ((Nz.q QQ).row Zh);clear Xs Nz QQ Ou OE Pl Zh Xz hBQ;go_cut [19] (fun s19 wx=>∃ (rr:SqD×Int),s19=.int .i64 rr.2/\Hid (kK BQ wx rr.1)/\Hid (CH=ik cur b x y q rr)/\Hid (ae [BQ] W8 wx))
 case first =>
  rcases hkn with rfl | rfl
  ·have Zx:Hid (CH=if pS prev b x y q then sq0 else ik cur b x y q (ij prev b x y q r)):=lh (by rw [HCh.out];simp)
   rw [Yp.out] at Zx;obtain ⟨p0,p1,p2⟩:=ag Uj;go_wp2_with fail;go_at_call 94;refine (Zv.out (by first | rfl | trivial) W8 RU 0 0 Mf Mf).mono ?_;rintro e w9 ⟨v9,rfl,Oc,Rm⟩;obtain ⟨g9,c9,rfl,-,-⟩:=Oc.form (by rw [Ux.out];omega);rw [Ux.out] at Oc |-
   have HO9:=lh Oc;have Ph:=lh Rm;clear Oc Rm p0 p1 p2;go_wp2_with fail;go_at_call 93;refine (Qk.out (by first | rfl | trivial) w9 _ _ _ _ _ _ 0 0 (Sn.quiet Ph) HO9.ints).mono ?_;rintro e Sa ⟨⟨Zu,rfl,RP⟩,QI⟩;have WC:=Qw.out (by first | rfl | trivial) 0 0;obtain ⟨L0,hL0⟩:∃ z,z=bA b (ar prev x y 8 0 0) q:=⟨_,rfl⟩
   rw [<- hL0] at RP WC Zx;obtain ⟨g10,c10,rfl,-,-⟩:=RP.form Mf;rw [WC] at RP |-
   have Qo:=lh RP;have NJ:=lh (Ph.q QI);clear RP QI WC hL0;go_wp2_with fail;have JbQ:=oY Qo.ints;have QO:Hid (L0.length=64):=lh (by have h:=Qo.ints.open;obtain ⟨_,_,h1,-⟩:=h;injection h1 with _ h2 _;exact h2.symm)
   try rw [QO.out] at JbQ
   go_at_call 92;refine JbQ.mono ?_;rintro e Qt ⟨rfl,rfl⟩;clear JbQ;cases hz:cB L0 with
   | true =>
    have UW:CH=sq0:=by rw [Zx.out,hz];rfl
    rw [UW] at MM;obtain ⟨XK,WJ,YS,Um,-⟩:=OY.quiet NJ;have RI:=lh YS;have ZA:=lh Um;have ZP:=lh (NJ.row Uk);have HQf:=lh (RU.q NJ);clear YS Um hz UW;have WM:=lh (dY (k:=0) (mo:=0) (ms:=[0,0,0,0]) (vx:=0) (vy:=0) (lv:=XK) (vs:=WJ) rfl ZA.len);have ZI:=lh (dO (k:=0) (mo:=0) (ms:=[0,0,0,0]) (vx:=0) (vy:=0) (lv:=XK) (vs:=WJ) ZA.one.1 ZA.one.2);have Ul:=lh (dh (k:=0) (mo:=0) (ms:=[0,0,0,0]) (vx:=0) (vy:=0) (lv:=aj) (vs:=[aj,aj,aj,aj]) (k':=0) (mo':=0) (ms':=[0,0,0,0]) (vx':=0) (vy':=0) (lv':=XK) (vs':=WJ) rfl rfl rfl ZA.len);have RB:=lh (setRow_heap Sa (w.heap.size+1+1+1) _ (sqL 0 0 [0,0,0,0] 0 0 XK WJ).toArray _ _ ZP);have Sg:=lh (ae.setRow (S:=[w.heap.size+1+1+1]) (ae.refl _ Sa) (g:=w.heap.size+1+1+1) (fun _=>Mg) (sqL 0 0 [0,0,0,0] 0 0 XK WJ).toArray)
    go_wp2_with (first
     | (refine az rfl (.tmp 18) 91 rfl rfl RI NY rfl WM ?_)
     | (refine aq rfl (.tmp 16) (.tmp 49) 91 rfl rfl rfl ZP WM Ul ZI ?_)
     | fail)
    refine bodyPost_ret (v:=.agg (sqL 0 0 [0,0,0,0] 0 0 XK WJ).toArray) (results_cell_row Tryz.results40 _ _ (w.heap.size+1+1+1) _ _ _ _ rfl RB NY rfl WM) rfl (MM.out _ _ ⟨XK,WJ,rfl,rfl,?_,?_⟩)
    ·have h3:=ZA.only Sg (fun g hg=>by rw [mSg] at hg;have:=SK.out;exact .inl Mf)
     exact BI
    ·exact (HQf.trans Sg (U:=[]) Mg (fun g hg MO=>Mj))
   | false =>
    have Og:Hid (CH=ik cur b x y q (ij prev b x y q r)):=lh (by rw [Zx.out,hz];simp);clear hz Zx;have HSe:=lh (JcY.out (by first | rfl | trivial) Sa (RU.q NJ) _ _ _ (Sn.quiet NJ) (by have:=NJ.size;have:=ZU.out;omega));generalize aZ prev b x y r=SS at *
    obtain ⟨SX,SY,SC⟩:=SS;obtain ⟨o1,o2,o3,o4⟩:=JcZ.out;simp only at o1 o2 o3 o4 HSe XW;obtain ⟨p0,p1,p2⟩:=ag (NJ.row Uj);go_wp2_with fail;go_at_call 95;refine HSe.mono ?_;rintro e XM ⟨rfl,Vd⟩;have Ov:=lh (NJ.q Vd);clear Vd HSe p0 p1 p2;have Oh:=lh ((ae.new XM (.cells #[SX,SY] 73)).alloc (.cells #[(),JEu] 39));have HRv:Hid (((XM.alloc (.cells #[SX,SY] 73)).alloc (.cells #[(),JEu] 39)).heap[XM.heap.size]?=some (.cells #[SX,SY] 73 (0,0))):=lh ((ae.new _ _).row (heap_alloc_new XM _));obtain ⟨p0,p1,p2⟩:=ag ((Ov.q Oh).row Uj);obtain ⟨v0,v1,-⟩:=aJ HRv;go_wp2_with fail;generalize Jdy:World.alloc (World.alloc XM _) _=W13 at *
    clear Jdy p0 p1 p2 v0 v1;have Sd:=lh (Ov.q Oh);have HVb:Hid (W8.heap.size<=XM.heap.size):=lh Ov.size;generalize XM.heap.size=VB at *
    clear Oh;go_at_call 94;refine (Zv.out (by first | rfl | trivial) W13 (RU.q Sd) SX SY ⟨o1,o2⟩ ⟨o3,o4⟩).mono ?_;rintro e PL ⟨v14,rfl,Wd,QV⟩;obtain ⟨g14,c14,rfl,-,-⟩:=Wd.form (by rw [Ux.out];omega);rw [Ux.out] at Wd |-
    have Tw:=lh Wd.ints;have SU:=lh (Sd.q QV);have UE:=lh (QV.row HRv);clear Wd QV HRv;obtain ⟨v0,v1,-⟩:=aJ UE;go_wp2_with fail;go_at_call 96;refine (SQ.out (by first | rfl | trivial) PL _ _ _ _ _ _ SX SY ⟨o1,o2⟩ ⟨o3,o4⟩ Tw (Sn.quiet SU)).mono ?_;rintro e w15 ⟨rfl,TM⟩;have OC:=lh (SU.q TM);have JcE:=lh (Tw.quiet TM);have JcW:=lh (TM.row UE);clear TM UE Tw v0 v1;obtain ⟨v0,v1,-⟩:=aJ JcW;have HLm:=lh (Qw.out (by first | rfl | trivial) SX SY);generalize hcm:dX (ar prev x y 8 SX SY) b SX SY=CM at *
    go_wp2_with fail;have HVn:Hid (VB∉[BQ]):=lh (by have:=HVb.out;have:=ZU.out;rw [mSg];omega);refine wp_region_held_drew (S:=(fun w'=>w'.cell? ⟨VB,0,none⟩=some (.int .i64 SX)/\w'.cell? ⟨VB,1,none⟩=some (.int .i64 SY))) Mh ?_ (fun hHeld=>?_)
    ·exact ⟨v0,v1⟩
    refine tk 0 71 ?_;refine tk 1 72 ?_;refine tk 2 73 ?_;refine tk 3 74 ?_;refine rdy (rdc 4 75 (fun K hK=>?_) .nil);go_simp;go_at_call 93;refine (Qk.out (by first | rfl | trivial) _ _ _ _ _ _ _ SX SY (Sn.quiet OC.drew) (JcE.quiet (ae.refl [] _).drew)).mono ?_;rintro e w16 ⟨⟨v16,rfl,We⟩,Wh⟩;obtain ⟨g16,c16,rfl,-,-⟩:=We.form (by rw [HLm.out];omega);rw [HLm.out] at We |-
    have UX:=(ae.refl [] w15).drew.q Wh;have JiH:=lh We;have Yh:=lh (OC.q UX);obtain ⟨lvo,vso,hro,Va,VY⟩:=OY.quiet Yh;clear We Wh;refine hK.out _ _ ?_ (fun hHeld=>?_)
    ·exact ⟨UX.cell v0 Mg,UX.cell v1 Mg⟩
    clear hK K
    try simp only [Act.put,Lg,Lj,Lk]
    refine tk 5 76 ?_;refine rdy (rdn 6 (fun K hK=>?_) .nil);refine aL (.tmp 18) (.tmp 76) 91 rfl (g:=BQ) (c':=(sqL 1 0 [0,0,0,0] SX SY (.slice (some ⟨g16,0,none⟩) 64 c16) [aj,aj,aj,aj]).toArray) rfl rfl hro (dY (k:=1) (mo:=0) (ms:=[0,0,0,0]) (vx:=SX) (vy:=SY) (lv:=.slice (some ⟨g16,0,none⟩) 64 c16) (vs:=[aj,aj,aj,aj]) rfl rfl) (dh (k:=sq0.kind) (mo:=sq0.mode) (ms:=sq0.modes) (vx:=sq0.vx) (vy:=sq0.vy) (lv:=lvo) (vs:=vso) (k':=1) (mo':=0) (ms':=[0,0,0,0]) (vx':=SX) (vy':=SY) (lv':=.slice (some ⟨g16,0,none⟩) 64 c16) (vs':=[aj,aj,aj,aj]) VY Va.len rfl rfl) (dO (k:=1) (mo:=0) (ms:=[0,0,0,0]) (vx:=SX) (vy:=SY) (lv:=.slice (some ⟨g16,0,none⟩) 64 c16) (vs:=[aj,aj,aj,aj]) rfl iP) (fun w17 Wi JpI=>?_);have YI:dU (BQ+1) w16.heap.size w16 (.slice (some ⟨g16,0,none⟩) 64 c16) [aj,aj,aj,aj] (bA b (ar prev x y 8 SX SY) q) [[],[],[],[]]:=⟨JiH.ints.mono (by have:=OC.size;have:=ZU.out;simp only [show w15.drew.heap.size=w15.heap.size from rfl];omega) (Lm _),rfl,fun i hi=>by
     match i,hi with
     | 0,_=>exact ah.nil _ _ _ _
     | 1,_=>exact ah.nil _ _ _ _
     | 2,_=>exact ah.nil _ _ _ _
     | 3,_=>exact ah.nil _ _ _ _⟩
    have Jij:Hid (kK BQ w17 ⟨1,0,[0,0,0,0],SX,SY,bA b (ar prev x y 8 SX SY) q,[[],[],[],[]]⟩):=lh (kK.store JpI Wi YI rfl);have JiX:=lh Wi;have e0:=Wi.cell (UX.cell v0 Mg) HVn;have e1:=Wi.cell (UX.cell v1 Mg) HVn;clear JpI Wi YI hro Va VY;refine hK.out _ _ ?_ (fun hHeld=>?_)
    ·exact ⟨e0,e1⟩
    clear hK K
    try simp only [Act.put,Lg,Lj,Lk]
    refine wpAnyH_done Mh ?_ _;go_wp2_with fail;go_meet;refine ⟨ij prev b x y q r,by rw [XW.out],lh ?_,Og,lh ((Yh.mono (U:=[BQ]) Mg).trans JiX (fun _ h _=>h) (fun _ h _=>h))⟩;rw [XW.out];exact Jij
  ·go_wp2_with fail
   go_meet;exact ⟨(sq0,-1),rfl,OY,lh (by rw [HCh.out];simp),lh (ae.refl _ _)⟩
 case rest =>
  obtain ⟨rr,rfl,HBc,Vk,Xx⟩:=hcut;obtain ⟨W9,hW9⟩:∃ z,z=wc:=⟨_,rfl⟩
  subst hW9;rw [DA] at Vk;have Ph:Hid (ae [] w W9):=lh (RU.trans Xx (U:=[]) Mg (fun g hg MO=>by have:=SK.out;rw [mSg] at hg;omega));have HI9:=lh (Sn.only Xx (fun g hg=>Mj));have HK:Hid (w.heap.size+1∉[BQ]/\w.heap.size+1+1+1∉[BQ]):=lh (by have:=SK.out;simp only [mSg];omega);have Yn:=lh (Xx.rowAt Ui HK.1);have VA:=lh (Xx.rowAt Uk HK.2);have hz9:=Xx.size;have HZ9:Hid (BQ+1<=W9.heap.size):=lh (by have:=ZU.out;omega);clear hz9 Xx Ui Uk RU OY Sn Jbu Uj XW Yp Zv Qk Qw JcY JcZ SQ HCh Ux;obtain ⟨bs0,bs1⟩:=PG;have Jsn:=QK;obtain ⟨BA,hBA⟩:∃ z,z=aG cur b x y 8:=⟨_,rfl⟩
  rw [<- hBA] at HBe Vk bs0 bs1 Ug QK JcK hbm;obtain ⟨bm,bs⟩:=BA;simp only at HBe Vk bs0 bs1 Ug QK JcK hbm;generalize fp cur b x y 8 q=L at *
  generalize eR cur x y 8 bm=PD at *
  have e1:IntKind.i64.wrap (4*bs)=4*bs:=Mi;have e2:IntKind.i64.wrap (4*bs+8)=4*bs+8:=Mi;obtain ⟨rs,rc⟩:=rr;simp only at Vk HBc |-
  obtain ⟨c0,c1,c2⟩:=ag Yn;clear hBA Jsn;go_wp2_with fail;go_at_call 97;refine (HEd.out W9 Ph).mono ?_;rintro e Sa ⟨tv,lfv,rfl,hot,Tr,QI⟩;generalize cZ cur x y 8=TP at *
  generalize bU cur x y 8=LF at *
  generalize aB cur (x-1) (y-1)=CR at *
  obtain ⟨gt,ct,htf,-⟩:=hot.ints.open;obtain ⟨gl,cl,hlf,-⟩:=Tr.ints.open;subst htf;subst hlf;generalize TP.length=tn at *
  generalize LF.length=ln at *
  have JiW:=lh hot.ints;have Jis:=lh Tr.ints;have NJ:=lh QI;clear hot Tr QI c0 c1 c2 HEd;go_wp2_with fail;go_at_call 98;refine (HBe.out Sa _ _ _ _ _ _ _ _ _ (HI9.quiet NJ) JiW Jis).mono ?_;rintro e Qt ⟨rfl,Tk⟩;have ZT:=lh ((NJ.q Tk).q (ae.new Qt (.cells #[(),JEu] 39)));have Jje:=lh (Tk.q (ae.new Qt (.cells #[(),JEu] 39)));clear Tk HBe;go_upto_region 13 with (fail)
  generalize World.alloc Qt _=W12 at *
  have Jnr:=lh (JiW.quiet Jje);have WL:=lh (Jis.quiet Jje);clear JiW Jis Jje NJ;go_cut [102] (fun Jvf wx=>∃ t:Bool,Jvf=.bool t/\Hid (t=decide (rc<0\/4*bs+8<rc))/\wx=W12)
  case first =>
   by_cases RQ:rc<0
   ·go_wp2_with fail
    go_meet;exact ⟨true,by first | rfl | simp [RQ],lh (by simp [RQ]),rfl⟩
   ·by_cases Pz:4*bs+8<rc
    ·go_wp2_with fail
     go_meet;exact ⟨true,by first | rfl | simp [RQ,Pz],lh (by simp [RQ,Pz]),rfl⟩
    ·go_wp2_with fail
     go_meet;exact ⟨false,by first | rfl | simp [RQ,Pz],lh (by simp [RQ,Pz]),rfl⟩
  case rest =>
   obtain ⟨t,rfl,HTd,rfl⟩:=hcut;have Jcu:=lh (HBc.quiet ZT);have Ov:=lh (Ph.q ZT);have JcD:=lh (HI9.quiet ZT);have Jhf:=lh (ZT.row Yn);have Jhg:=lh (ZT.row VA);have Jjf:Hid (BQ+1<=wc.heap.size):=lh (Lz HZ9 ZT.size);clear HBc HI9 Yn VA HZ9 ZT Ph;go_upto_if 102 with (fail)
   go_cut [19] (fun s19 wx=>∃ (r2:SqD×Int),s19=.int .i64 r2.2/\0<=r2.2/\Hid (kK BQ wx r2.1)/\Hid (r2=dK (rs,rc) ⟨2,bm,[0,0,0,0],0,0,L,[[],[],[],[]]⟩ (4*bs+8))/\Hid (ae [BQ] wc wx))
   case first =>
    cases t with
    | false =>
     have hno:¬ (rc<0\/4*bs+8<rc):=by intro h;have:=HTd.out;rw [decide_eq_true h] at this;exact absurd this Mg
     have XY:=lh hno;have RQ:0<=rc:=Mf;clear hno;go_wp2_with fail;go_meet;exact ⟨(rs,rc),rfl,RQ,Jcu,lh (by unfold dK;rw [if_neg XY.out]),lh (ae.refl _ _)⟩
    | true =>
     have JsP:Hid (rc<0\/4*bs+8<rc):=lh (of_decide_eq_true HTd.symm);go_wp2_with fail;go_at_call 99;refine (Ug.out wc _ _ _ _ _ _ Jnr WL).mono ?_;rintro e PL ⟨⟨JCx,rfl,Xg⟩,QV⟩;obtain ⟨gp,cp,rfl,-,-⟩:=Xg.form (by rw [QK.out];omega);rw [QK.out] at Xg |-
     have YN:=ae.new PL (.cells #[(),JEu] 39);have OC:=lh (QV.q YN);have Jsl:=lh (Xg.ints.quiet YN);clear Xg QV YN;go_wp2_with fail;generalize World.alloc PL _=W15 at *
     go_at_call 93;refine (JcK.out W15 _ _ _ _ _ _ (JcD.quiet OC) Jsl).mono ?_;rintro e w16 ⟨⟨v16,rfl,Tr⟩,Wh⟩;obtain ⟨gL,cL,rfl,-,-⟩:=Tr.form (by rw [ST.out];omega);rw [ST.out] at Tr |-
     have JrW:=lh Tr.ints;have Yh:=lh (OC.q Wh);have JrK:Hid (BQ+1<=W15.heap.size):=lh (Lz Jjf OC.size);obtain ⟨lvo,vso,hro,Va,VY⟩:=Jcu.quiet Yh;have HRo:=lh hro;have VF:=lh (dh (k:=rs.kind) (mo:=rs.mode) (ms:=rs.modes) (vx:=rs.vx) (vy:=rs.vy) (lv:=lvo) (vs:=vso) (k':=2) (mo':=(bm:Int)) (ms':=[0,0,0,0]) (vx':=0) (vy':=0) (lv':=.slice (some ⟨gL,0,none⟩) 64 cL) (vs':=[aj,aj,aj,aj]) VY Va.len rfl rfl);have Tx:=lh (dY (k:=2) (mo:=(bm:Int)) (ms:=[0,0,0,0]) (vx:=0) (vy:=0) (lv:=.slice (some ⟨gL,0,none⟩) 64 cL) (vs:=[aj,aj,aj,aj]) rfl rfl);have Vy:=lh (dO (k:=2) (mo:=(bm:Int)) (ms:=[0,0,0,0]) (vx:=0) (vy:=0) (lv:=.slice (some ⟨gL,0,none⟩) 64 cL) (vs:=[aj,aj,aj,aj]) rfl iP);have HRn:Hid ((w16.setRow BQ (sqL 2 (bm:Int) [0,0,0,0] 0 0 (.slice (some ⟨gL,0,none⟩) 64 cL) [aj,aj,aj,aj]).toArray).heap[BQ]?=some (.cells (sqL 2 (bm:Int) [0,0,0,0] 0 0 (.slice (some ⟨gL,0,none⟩) 64 cL) [aj,aj,aj,aj]).toArray 91 (0,0))):=lh (setRow_heap w16 BQ _ _ _ _ hro);have Sg:=lh (ae.setRow (S:=[BQ]) (ae.refl _ w16) (g:=BQ) (fun _=>Mg) (sqL 2 (bm:Int) [0,0,0,0] 0 0 (.slice (some ⟨gL,0,none⟩) 64 cL) [aj,aj,aj,aj]).toArray);clear Tr Wh hro Va VY
     go_wp2_with (first | (refine aq rfl (.tmp 18) (.tmp 119) 91 rfl rfl rfl HRo Tx VF Vy ?_) | fail)
     go_meet;refine ⟨(⟨2,bm,[0,0,0,0],0,0,L,[[],[],[],[]]⟩,4*bs+8),rfl,by simp only;omega,lh (kK.store HRn Sg ?_ rfl),lh (by unfold dK;rw [if_pos JsP.out]),lh ((Yh.mono (U:=[BQ]) Mg).trans Sg (fun _ h _=>h) (fun _ h _=>h))⟩;refine ⟨JrW.mono JrK (Lm _),rfl,fun i hi=>?_⟩
     match i,hi with
     | 0,_=>exact ah.nil _ _ _ _
     | 1,_=>exact ah.nil _ _ _ _
     | 2,_=>exact ah.nil _ _ _ _
     | 3,_=>exact ah.nil _ _ _ _
   case rest =>
    obtain ⟨r2,rfl,Rn,Oj,Px,Na⟩:=hcut;obtain ⟨W13,Jdy⟩:∃ z,z=wc:=⟨_,rfl⟩
    subst Jdy;rw [<- Px.out] at Vk;have Sd:Hid (ae [] w W13):=lh (Ov.trans Na (U:=[]) Mg (fun g hg MO=>by have:=SK.out;rw [mSg] at hg;omega));have Jix:=lh (JcD.only Na (fun g hg=>Mj));have Jnc:=lh (Na.rowAt Jhf HK.1);have Jhh:=lh (Na.rowAt Jhg HK.2);have VG:Hid (BQ+1<=W13.heap.size):=lh (Lz Jjf Na.size);have HFo:=lh (JcB.out W13 Sd _ _ _ Jix);clear Px Na HTd Jnr WL JcD Jhf Jhg Ug JcK ST QK Jcu Jjf Ov JcB;generalize ew cur b x y q=FE at *
    obtain ⟨ms,ls,cost⟩:=FE;simp only at HFo Vk;obtain ⟨S2,k2⟩:=r2;simp only at Rn Oj Vk |-
    obtain ⟨c0,c1,c2⟩:=ag Jnc;go_wp2_with fail;go_at_call 100;refine HFo.mono ?_;rintro e PL ⟨vs,rfl,NV,Wz,QV⟩;have PA:=lh NV;have SV:Hid ((PL.alloc (.cells #[(),(),(),(),(),(),(),(),JEu,JEu,JEu,JEu,JEu] 91)).heap[PL.heap.size]?=some (.cells (sqL 0 0 [0,0,0,0] 0 0 aj [aj,aj,aj,aj]).toArray 91 (0,0))):=lh (heap_alloc_new PL _);have YN:ae [] PL ((PL.alloc (.cells #[(),(),(),(),(),(),(),(),JEu,JEu,JEu,JEu,JEu] 91)).setRow PL.heap.size (sqL 3 0 ms 0 0 aj vs).toArray):=(ae.new PL _).trans (ae.setRow (S:=[PL.heap.size]) (ae.refl _ (PL.alloc (.cells #[(),(),(),(),(),(),(),(),JEu,JEu,JEu,JEu,JEu] 91))) (g:=PL.heap.size) (fun _=>Mg) (sqL 3 0 ms 0 0 aj vs).toArray) (U:=[]) Mg (fun g hg MO=>Mj);have JrH:Hid (((PL.alloc (.cells #[(),(),(),(),(),(),(),(),JEu,JEu,JEu,JEu,JEu] 91)).setRow PL.heap.size (sqL 3 0 ms 0 0 aj vs).toArray).heap[PL.heap.size]?=some (.cells (sqL 3 0 ms 0 0 aj vs).toArray 91 (0,0))):=lh (setRow_heap _ PL.heap.size _ (sqL 3 0 ms 0 0 aj vs).toArray _ _ SV);have JmA:Hid (dU (BQ+1) ((PL.alloc (.cells #[(),(),(),(),(),(),(),(),JEu,JEu,JEu,JEu,JEu] 91)).setRow PL.heap.size (sqL 3 0 ms 0 0 aj vs).toArray).heap.size ((PL.alloc (.cells #[(),(),(),(),(),(),(),(),JEu,JEu,JEu,JEu,JEu] 91)).setRow PL.heap.size (sqL 3 0 ms 0 0 aj vs).toArray) aj vs [] ls):=lh (by
     have h3:=Wz.only YN Mg;have z1:=YN.size;have z2:=VG.out;exact ⟨h3.large.mono z2 z1,h3.len,fun i hi=>(h3.small i hi).mono z2 z1⟩)
    have OC:=lh (QV.q YN);have Jdb:=lh (dh (k:=0) (mo:=0) (ms:=[0,0,0,0]) (vx:=0) (vy:=0) (lv:=aj) (vs:=[aj,aj,aj,aj]) (k':=3) (mo':=0) (ms':=ms) (vx':=0) (vy':=0) (lv':=aj) (vs':=vs) rfl rfl NV Wz.len);have HI4:=lh (dY (k:=3) (mo:=0) (ms:=ms) (vx:=0) (vy:=0) (lv:=aj) (vs:=vs) NV Wz.len);have XZ:=lh (dO (k:=3) (mo:=0) (ms:=ms) (vx:=0) (vy:=0) (lv:=aj) (vs:=vs) rfl Wz.one.2);have Zg:=lh Wz.len;clear NV Wz QV YN HFo c0 c1 c2;by_cases MO:cost<k2
    ·have OM:Hid (CH=⟨3,0,ms,0,0,[],ls⟩):=lh (by rw [Vk.out];unfold dK;rw [if_pos (.inr MO)])
     rw [OM.out] at MM;obtain ⟨lvo,vso,hro,Va,VY⟩:=Oj.quiet OC;have HRo:=lh hro;have VF:=lh (dh (k:=S2.kind) (mo:=S2.mode) (ms:=S2.modes) (vx:=S2.vx) (vy:=S2.vy) (lv:=lvo) (vs:=vso) (k':=3) (mo':=0) (ms':=ms) (vx':=0) (vy':=0) (lv':=aj) (vs':=vs) VY Va.len PA Zg);have HRn:Hid ((((PL.alloc (.cells #[(),(),(),(),(),(),(),(),JEu,JEu,JEu,JEu,JEu] 91)).setRow PL.heap.size (sqL 3 0 ms 0 0 aj vs).toArray).setRow BQ (sqL 3 0 ms 0 0 aj vs).toArray).heap[BQ]?=some (.cells (sqL 3 0 ms 0 0 aj vs).toArray 91 (0,0))):=lh (setRow_heap ((PL.alloc (.cells #[(),(),(),(),(),(),(),(),JEu,JEu,JEu,JEu,JEu] 91)).setRow PL.heap.size (sqL 3 0 ms 0 0 aj vs).toArray) BQ _ _ _ _ hro);have JgA:=ae.setRow (S:=[BQ]) (ae.refl _ ((PL.alloc (.cells #[(),(),(),(),(),(),(),(),JEu,JEu,JEu,JEu,JEu] 91)).setRow PL.heap.size (sqL 3 0 ms 0 0 aj vs).toArray)) (g:=BQ) (fun _=>Mg) (sqL 3 0 ms 0 0 aj vs).toArray;have Vx:=lh (JmA.grown JgA (fun g hg=>Mj));have JcV:=lh (JgA.rowAt (OC.row Jhh) HK.2);have HQN:Hid (ae [] w (((PL.alloc (.cells #[(),(),(),(),(),(),(),(),JEu,JEu,JEu,JEu,JEu] 91)).setRow PL.heap.size (sqL 3 0 ms 0 0 aj vs).toArray).setRow BQ (sqL 3 0 ms 0 0 aj vs).toArray)):=lh ((Sd.q OC).trans JgA (U:=[]) Mg (fun g hg MO=>by have:=SK.out;rw [mSg] at hg;omega));clear hro Va VY JgA;have WM:=lh (dY (k:=3) (mo:=0) (ms:=ms) (vx:=0) (vy:=0) (lv:=aj) (vs:=vs) PA Vx.len);have ZI:=lh (dO (k:=3) (mo:=0) (ms:=ms) (vx:=0) (vy:=0) (lv:=aj) (vs:=vs) Vx.one.1 Vx.one.2);have Ul:=lh (dh (k:=0) (mo:=0) (ms:=[0,0,0,0]) (vx:=0) (vy:=0) (lv:=aj) (vs:=[aj,aj,aj,aj]) (k':=3) (mo':=0) (ms':=ms) (vx':=0) (vy':=0) (lv':=aj) (vs':=vs) rfl rfl PA Vx.len);have RB:=lh (setRow_heap (((PL.alloc (.cells #[(),(),(),(),(),(),(),(),JEu,JEu,JEu,JEu,JEu] 91)).setRow PL.heap.size (sqL 3 0 ms 0 0 aj vs).toArray).setRow BQ (sqL 3 0 ms 0 0 aj vs).toArray) (w.heap.size+1+1+1) _ (sqL 3 0 ms 0 0 aj vs).toArray _ _ JcV);have Sg:=lh (ae.setRow (S:=[w.heap.size+1+1+1]) (ae.refl _ (((PL.alloc (.cells #[(),(),(),(),(),(),(),(),JEu,JEu,JEu,JEu,JEu] 91)).setRow PL.heap.size (sqL 3 0 ms 0 0 aj vs).toArray).setRow BQ (sqL 3 0 ms 0 0 aj vs).toArray)) (g:=w.heap.size+1+1+1) (fun _=>Mg) (sqL 3 0 ms 0 0 aj vs).toArray)
     go_wp2_with (first
      | (refine aq rfl (.tmp 31) (.tmp 127) 91 rfl rfl rfl SV HI4 Jdb XZ ?_)
      | (refine az rfl (.tmp 31) 91 rfl rfl JrH NY rfl HI4 ?_)
      | (refine aq rfl (.tmp 18) (.tmp 132) 91 rfl rfl rfl HRo HI4 VF XZ ?_)
      | (refine az rfl (.tmp 18) 91 rfl rfl HRn NY rfl WM ?_)
      | (refine aq rfl (.tmp 16) (.tmp 133) 91 rfl rfl rfl JcV WM Ul ZI ?_)
      | fail)
     refine bodyPost_ret (v:=.agg (sqL 3 0 ms 0 0 aj vs).toArray) (results_cell_row Tryz.results40 _ _ (w.heap.size+1+1+1) _ _ _ _ rfl RB NY rfl WM) rfl (MM.out _ _ ⟨aj,vs,rfl,PA.out,?_,?_⟩)
     ·exact BJ
     ·exact (HQN.trans Sg (U:=[]) Mg (fun g hg MO=>Mj))
    ·have OM:Hid (CH=S2):=lh (by rw [Vk.out];unfold dK;rw [if_neg (by simp only;omega)])
     rw [OM.out] at MM;obtain ⟨lvo,vso,hro,Va,VY⟩:=Oj.quiet OC;have HRo:=lh hro;have Vx:=lh Va;have HMo:=lh VY;have JcV:=lh (OC.row Jhh);have HQN:=lh (Sd.q OC);clear hro Va VY;have WM:=lh (dY (k:=S2.kind) (mo:=S2.mode) (ms:=S2.modes) (vx:=S2.vx) (vy:=S2.vy) (lv:=lvo) (vs:=vso) HMo Vx.len);have ZI:=lh (dO (k:=S2.kind) (mo:=S2.mode) (ms:=S2.modes) (vx:=S2.vx) (vy:=S2.vy) (lv:=lvo) (vs:=vso) Vx.one.1 Vx.one.2);have Ul:=lh (dh (k:=0) (mo:=0) (ms:=[0,0,0,0]) (vx:=0) (vy:=0) (lv:=aj) (vs:=[aj,aj,aj,aj]) (k':=S2.kind) (mo':=S2.mode) (ms':=S2.modes) (vx':=S2.vx) (vy':=S2.vy) (lv':=lvo) (vs':=vso) rfl rfl HMo Vx.len);have RB:=lh (setRow_heap ((PL.alloc (.cells #[(),(),(),(),(),(),(),(),JEu,JEu,JEu,JEu,JEu] 91)).setRow PL.heap.size (sqL 3 0 ms 0 0 aj vs).toArray) (w.heap.size+1+1+1) _ (sqL S2.kind S2.mode S2.modes S2.vx S2.vy lvo vso).toArray _ _ JcV);have Sg:=lh (ae.setRow (S:=[w.heap.size+1+1+1]) (ae.refl _ ((PL.alloc (.cells #[(),(),(),(),(),(),(),(),JEu,JEu,JEu,JEu,JEu] 91)).setRow PL.heap.size (sqL 3 0 ms 0 0 aj vs).toArray)) (g:=w.heap.size+1+1+1) (fun _=>Mg) (sqL S2.kind S2.mode S2.modes S2.vx S2.vy lvo vso).toArray)
     go_wp2_with (first
      | (refine aq rfl (.tmp 31) (.tmp 127) 91 rfl rfl rfl SV HI4 Jdb XZ ?_)
      | (refine az rfl (.tmp 18) 91 rfl rfl HRo NY rfl WM ?_)
      | (refine aq rfl (.tmp 16) (.tmp 133) 91 rfl rfl rfl JcV WM Ul ZI ?_)
      | fail)
     refine bodyPost_ret (v:=.agg (sqL S2.kind S2.mode S2.modes S2.vx S2.vy lvo vso).toArray) (results_cell_row Tryz.results40 _ _ (w.heap.size+1+1+1) _ _ _ _ rfl RB NY rfl WM) rfl (MM.out _ _ ⟨lvo,vso,rfl,HMo.out,?_,?_⟩)
     ·exact BJ
     ·exact (HQN.trans Sg (U:=[]) Mg (fun g hg MO=>Mj))
end
end Go.Proofs.YthcafdfdglfabaaGreatDoor
