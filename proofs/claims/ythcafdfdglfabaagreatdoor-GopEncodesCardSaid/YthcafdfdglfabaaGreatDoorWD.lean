/- Joined texts: ECho, EFrm. Conditions: each part names its own. -/
import Derived.Test.YthcafdfdglfabaaGreatDoorW7
import Derived.Test.YthcafdfdglfabaaGreatDoorW9
namespace Go.Proofs.YthcafdfdglfabaaGreatDoor
open Tryz
open Go.RowKit
set_option linter.unusedVariables false
set_option linter.unusedSimpArgs false
set_option maxRecDepth 100000
set_option maxHeartbeats 16000000
theorem Nv (l:List Int):(!l.any m8)=l.all (· == 0):=by
 unfold m8
 induction l with
 | nil=>rfl
 | cons a l ih=>rw [List.any_cons,List.all_cons,Bool.not_or,ih];congr 1;simp [bne]
theorem LC (cur:ah) (b:List Int) (x y q:Int) (D:j4×Int):jg cur b x y q D=(dZ (dZ D ⟨2,(aI cur b x y 8).1,[0,0,0,0],0,0,fV cur b x y 8 q,[[],[],[],[]]⟩ (4*(aI cur b x y 8).2+8)) ⟨3,0,(fp cur b x y q).1,0,0,[],(fp cur b x y q).2.1⟩ (fp cur b x y q).2.2).1:=rfl
section
theorem Lf {p:Prop} (h:p:=by
 have z1:=VU.size;have z2:=UQ.out;exact ⟨h3.large.mono Qa z1,h3.len,fun i hi=>(h3.small i hi).mono Qa z1⟩):p:=h
theorem Cj {q r lo hi Wi Uq lo3 hi3:Nat} {sv cv pv:Value} {src cur prev:ah} {w:World} (key:Bool) (hs:FrOk src) (hc:FrOk cur) (hp:key=false->FrOk prev/\prev.W=src.W/\prev.H=src.H) (hW:cur.W=src.W) (hH:cur.H=src.H) (is:aj .i64 lo hi w sv src.pix) (ic:aj .i64 Wi Uq w cv cur.pix) (ip:aj .i64 lo3 hi3 w pv prev.pix) (x y:Int) (hx:0<=x/\x+8<=src.W) (hy:0<=y/\y+8<=src.H) (hq:q<=15) (hr:r<=7) (hhi:hi3<=w.heap.size) :
  Calls prog 31 #[.agg #[src.W,src.H,sv],.agg #[cur.W,cur.H,cv],.agg #[prev.W,prev.H,pv],.bool key,x,y,q,r] w fun e w'=>(∃ lv vs,e=.returned (.agg (j1 (aT src prev key q r cur x y).kind (aT src prev key q r cur x y).mode (aT src prev key q r cur x y).modes (aT src prev key q r cur x y).vx (aT src prev key q r cur x y).vy lv vs).toArray)/\(aT src prev key q r cur x y).modes.length=4/\ep w.heap.size w'.heap.size w' lv vs (aT src prev key q r cur x y).large (aT src prev key q r cur x y).small/\ae [] w w'):=by
 refine aK fun Q QF=>?_
 have JgD:=lh (fun (W:World) (o:ae [] w W)=>Ku hs (is.quiet o) x y hx hy);have RP:=nw src x y 8;have sb:=pD hs.sam x y 8;have HBl:Hid ((aP src x y 8).length=64):=lh RP;have Ru:=hs.w1;have Rz:=hs.h1;have Jdb:=lh (fun (hk:key=false) (W:World) (o:ae [] w W) (vx vy:Int) (h1:-15<=vx/\vx<=15) (h2:-15<=vy/\vy<=15)=>oO (hp hk).1 (ip.quiet o) x y vx vy Qa Qa h1 h2);have Yv:=lh (fun (vx vy:Int)=>aF prev x y 8 vx vy);have Uh:=lh (fun (hk:key=false) (W:World) (l1 h1 l2 h2:Nat) (u v:Value) (vx vy:Int) (i1:aj .i64 l1 h1 W u (aP src x y 8)) (i2:aj .i64 l2 h2 W v (aq prev x y 8 vx vy))=>oq (n:=8) (.inr rfl) i1 i2 (by rw [RP]) (by rw [aF]) sb (cR (hp hk).1.sam x y 8 vx vy) q hq);have Vj:=lh (fun (hk:key=false) (vx vy:Int)=>(lA (n:=8) (q:=q) (.inr rfl) RP (aF prev x y 8 vx vy) sb (cR (hp hk).1.sam x y 8 vx vy) hq).1);have JsT:=lh (fun (W:World) (l1 h1:Nat) (v:Value) (l:List Int) (i1:aj .i64 l1 h1 W v l) (hl:l.length<=1000)=>uK i1 Qa);have Jha:=lh (fun (hk:key=false) (W:World) (o:ae [] w W) (l1 h1:Nat) (u:Value) (i1:aj .i64 l1 h1 W u (aP src x y 8)) (g:h1<=W.heap.size)=>Av (r:=r) (hp hk).1 (ip.quiet o) i1 RP sb x y (j0 ((hp hk).2.1)) (j0 ((hp hk).2.2)) hr (j0 o.size) g);have Jhb:=lh (pg prev (aP src x y 8) x y hr);have WN:=lh (fun (hk:key=false) (W:World) (l1 h1 l2 h2:Nat) (u v:Value) (vx vy:Int) (g1:-15<=vx/\vx<=15) (g2:-15<=vy/\vy<=15) (i1:aj .i64 l1 h1 W u (aq prev x y 8 vx vy)) (i2:aj .i64 l2 h2 W v (aP src x y 8))=>qM i1 i2 (by rw [aF]) RP (cR (hp hk).1.sam x y 8 vx vy) sb vx vy g1 g2);have Zx:=lh (fun (W:World) (o:ae [] w W) (l1 h1:Nat) (u:Value) (i1:aj .i64 l1 h1 W u (aP src x y 8))=>Au (n:=8) (q:=q) (.inr rfl) hc (ic.quiet o) i1 RP sb x y hx.1 Qa hy.1 Qa hq);have WP:=lh (iD (n:=8) (q:=q) (.inr rfl) hc.sam RP sb x y hq).1;have Tn:=ni hc.sam sb x y (n:=8) (.inr rfl) RP;have JgC:=lh (fun (W:World) (o:ae [] w W) (l1 h1:Nat) (u:Value) (i1:aj .i64 l1 h1 W u (aP src x y 8))=>GV (q:=q) hc (ic.quiet o) i1 RP sb x y hx.1 Qa hy.1 Qa hq);have HCh:Hid (aT src prev key q r cur x y=if key then jg cur (aP src x y 8) x y q (r6,-1) else if rG prev (aP src x y 8) x y q then r6 else jg cur (aP src x y 8) x y q (je prev (aP src x y 8) x y q r)):=lh rfl
 have Jcf:Hid (rG prev (aP src x y 8) x y q=(bB (aP src x y 8) (aq prev x y 8 0 0) q).all (· == 0)):=lh rfl;have JbU:Hid (je prev (aP src x y 8) x y q r=(⟨1,0,[0,0,0,0],(aY prev (aP src x y 8) x y r).vx,(aY prev (aP src x y 8) x y r).vy,bB (aP src x y 8) (aq prev x y 8 (aY prev (aP src x y 8) x y r).vx (aY prev (aP src x y 8) x y r).vy) q,[[],[],[],[]]⟩,eA (aq prev x y 8 (aY prev (aP src x y 8) x y r).vx (aY prev (aP src x y 8) x y r).vy) (aP src x y 8) (aY prev (aP src x y 8) x y r).vx (aY prev (aP src x y 8) x y r).vy)):=lh rfl;obtain ⟨sa,sc,rfl,-⟩:=is.open;obtain ⟨ca,cc,rfl,-⟩:=ic.open;obtain ⟨pa,pc,rfl,-⟩:=ip.open;obtain ⟨CH,hCH⟩:=bu (aT src prev key q r cur x y)
 rw [<- hCH] at HCh QF;generalize aP src x y 8=b at *
 have hkn:key=false\/key=true:=by cases key <;> simp
 clear is ic ip hs hc hp hx hy hq hr RP sb hCH Ru Rz hW hH;have Rh:Hid (ae [] w ((((w.alloc (sT src sa sc)).alloc (sT cur ca cc)).alloc (sT prev pa pc)).alloc (.cells xT 76))):=lh ((((ae.new w _).alloc _).alloc _).alloc _);have Sp:Hid (((((w.alloc (sT src sa sc)).alloc (sT cur ca cc)).alloc (sT prev pa pc)).alloc (.cells xT 76)).heap[w.heap.size]?=some (.cells (sT src sa sc) 24)):=lh ((((ae.new (w.alloc _) _).alloc _).alloc _).row (Sd w _));have SK:Hid (((((w.alloc (sT src sa sc)).alloc (sT cur ca cc)).alloc (sT prev pa pc)).alloc (.cells xT 76)).heap[w.heap.size+1]?=some (.cells (sT cur ca cc) 24)):=lh (((ae.new ((w.alloc _).alloc _) _).alloc _).row (ak Qb));have Tj:Hid (((((w.alloc (sT src sa sc)).alloc (sT cur ca cc)).alloc (sT prev pa pc)).alloc (.cells xT 76)).heap[w.heap.size+1+1]?=some (.cells (sT prev pa pc) 24)):=lh ((ae.new (((w.alloc _).alloc _).alloc _) _).row (ak Qb));have HRt:Hid (bI (w.heap.size+1+1+1) ((((w.alloc (sT src sa sc)).alloc (sT cur ca cc)).alloc (sT prev pa pc)).alloc (.cells xT 76)) 0 0 [0,0,0,0] 0 0 ai [ai,ai,ai,ai]):=ak Qb
 have WT:Hid (((((w.alloc (sT src sa sc)).alloc (sT cur ca cc)).alloc (sT prev pa pc)).alloc (.cells xT 76)).heap.size=w.heap.size+1+1+1+1):=lh Qb;obtain ⟨a0,a1,a2⟩:=ag Sp;go_enter func31,ntmps31;go_wp2_with fail;generalize XO:World.alloc (World.alloc (World.alloc (World.alloc w _) _) _) _=W4 at *
 clear XO a0 a1 a2;refine (JgD.out W4 Rh).mono ?_;rintro e D ⟨bv,rfl,hb5,RF⟩;obtain ⟨gb,bc,rfl,hgb,JoW⟩:=hb5.form (eC HBl);rw [HBl.out] at hb5 |-
 have Zu:=lh hb5.ints;have Rk:=lh RF;have Jza:=lh (RF.row HRt);clear hb5 RF hgb JoW JgD;have HS0:=lh (Sd D (.cells (j1 0 0 [0,0,0,0] 0 0 ai [ai,ai,ai,ai]).toArray 76));have HIz:=lh (iY (k:=0) (mo:=0) (ms:=[0,0,0,0]) (vx:=0) (vy:=0) (lv:=ai) (vs:=[ai,ai,ai,ai]) rfl rfl);have HOz:=lh (eh (k:=0) (mo:=0) (ms:=[0,0,0,0]) (vx:=0) (vy:=0) (lv:=ai) rfl jK);have RT:=lh underlying76;have hr6:((D.alloc (.cells xT 76)).alloc (.cells #[()] 3)).heap[D.heap.size+1]?=some (.cells #[()] 3):=ak Qb;have hs6:bI D.heap.size ((D.alloc (.cells xT 76)).alloc (.cells #[()] 3)) 0 0 [0,0,0,0] 0 0 ai [ai,ai,ai,ai]:=(BS).row HS0;have ho7:=ae.setRow (S:=[D.heap.size]) (ae.refl _ ((D.alloc (.cells xT 76)).alloc (.cells #[()] 3))) (g:=D.heap.size) (fun _=>Qb) xT;have hs7:bI D.heap.size (((D.alloc (.cells xT 76)).alloc (.cells #[()] 3)).setRow D.heap.size xT) 0 0 [0,0,0,0] 0 0 ai [ai,ai,ai,ai]:=m7 ((D.alloc (.cells xT 76)).alloc (.cells #[()] 3)) D.heap.size _ xT _ _ hs6;have hr7:=ho7.rowAt hr6 Qb;have cL:(((D.alloc (.cells xT 76)).alloc (.cells #[()] 3)).setRow D.heap.size xT).cell? ⟨D.heap.size+1,0,none⟩=some (.int .i64 0):=dx hr7
 have fL:=Sz _ (D.heap.size+1) 0 _ _ hr7;have hr8:=WG _ (D.heap.size+1) 0 _ _ (.int .i64 (-1)) hr7;have UG:ae [D.heap.size+1] (((D.alloc (.cells xT 76)).alloc (.cells #[()] 3)).setRow D.heap.size xT) ((((D.alloc (.cells xT 76)).alloc (.cells #[()] 3)).setRow D.heap.size xT).setCell ⟨D.heap.size+1,0,none⟩ (.int .i64 (-1))):=(AY).setCell Qb _;have Tc:Hid (oC D.heap.size (D.heap.size+1) (D.heap.size+1+1) ((((D.alloc (.cells xT 76)).alloc (.cells #[()] 3)).setRow D.heap.size xT).setCell ⟨D.heap.size+1,0,none⟩ (.int .i64 (-1))) (r6,-1)):=lh ⟨hr8,⟨ai,[ai,ai,ai,ai],UG.rowAt hs7 Qb,⟨aj.nil _ _ _ _,rfl,fun i hi=>by
  match i,hi with
  | 0,_=>exact aj.nil _ _ _ _
  | 1,_=>exact aj.nil _ _ _ _
  | 2,_=>exact aj.nil _ _ _ _
  | 3,_=>exact aj.nil _ _ _ _⟩⟩,rfl,⟨Qa,Qa,Qa⟩⟩
 have VS:Hid (ae [] D ((((D.alloc (.cells xT 76)).alloc (.cells #[()] 3)).setRow D.heap.size xT).setCell ⟨D.heap.size+1,0,none⟩ (.int .i64 (-1)))):=lh ((((ae.new D _).alloc _).trans ho7 (U:=[]) Qb (fun g hg QH=>Qd)).trans UG (U:=[]) Qb (fun g hg QH=>Qd));have HZ8:Hid ((((((D.alloc (.cells xT 76)).alloc (.cells #[()] 3)).setRow D.heap.size xT).setCell ⟨D.heap.size+1,0,none⟩ (.int .i64 (-1)))).heap.size=D.heap.size+1+1):=lh (by simp [World.setCell,World.setRow]);clear hr6 hs6 ho7 hs7 hr7 hr8 UG;go_upto_if 36 with (first
  | (refine am rfl (.tmp 18) (.tmp 33) 76 rfl rfl rfl ((BS).row HS0) HIz rfl HOz ?_)
  | fail)
 clear cL fL HS0;generalize hW8:World.setCell (World.setRow _ _ _) _ _=W8 at *
 clear hW8;have HB8:Hid (aj .i64 D.heap.size D.heap.size D .nilIface []->True):=lh (fun _=>trivial);have Wj:=lh (Zu.quiet VS);have TL:=lh ((Rh.q Rk).q VS);have UQ:Hid (w.heap.size+1+1+1+1<=D.heap.size):=lh (l6 Rk.size WT.out);obtain ⟨BQ,hBQ⟩:=bu D.heap.size
 rw [<- hBQ] at Tc Wj HZ8 UQ |-
 have Jfn:=lh ((Rk.q VS).row Sp);have Yd:=lh ((Rk.q VS).row SK);have Ye:=lh ((Rk.q VS).row Tj);have Yf:=lh ((Rk.q VS).row HRt);clear Zu Rk VS Sp SK Tj HRt Jza WT hBQ HB8;go_cut [] (fun wx=>∃ (rr:j4×Int),Hid (oC BQ (BQ+1) (BQ+1+1) wx rr)/\Hid (CH=jg cur b x y q rr)/\Hid (ae [BQ+1,BQ] W8 wx))
 case first =>
  rcases hkn with rfl | rfl
  ·have HCf:Hid (CH=if rG prev b x y q then r6 else jg cur b x y q (je prev b x y q r)):=lh (by rw [HCh.out];simp)
   rw [Jcf.out,<- Nv] at HCf;obtain ⟨p0,p1,p2⟩:=ag Ye;go_wp2_with fail;refine (Jdb.out (by first | rfl | trivial) W8 TL 0 0 Qa Qa).mono ?_;rintro e w9 ⟨v9,rfl,Vc,SR⟩;obtain ⟨g9,c9,rfl,-,-⟩:=Vc.form (eC Yv);rw [Yv.out] at Vc |-
   have HO9:=lh Vc;have SP:=lh SR;clear Vc SR p0 p1 p2;go_wp2_with fail;refine (Uh.out (by first | rfl | trivial) w9 _ _ _ _ _ _ 0 0 (Wj.quiet SP) HO9.ints).mono ?_;rintro e VQ ⟨v10,rfl,VG,UI⟩;have Xk:=Vj.out (by first | rfl | trivial) 0 0;obtain ⟨L0,hL0⟩:=bu (bB b (aq prev x y 8 0 0) q)
   rw [<- hL0] at VG Xk HCf;obtain ⟨g10,c10,rfl,-,-⟩:=VG.form Qa;rw [Xk] at VG |-
   have Ur:=lh VG;have Sr:=lh (SP.q UI);have Hl0:=lh Xk;clear VG UI Xk hL0;go_wp2_with fail;have JfH:=JsT.out VQ _ _ _ L0 Ur.ints (eC Hl0);rw [show (8*8:Nat)=64 from rfl] at *
   refine JfH.mono ?_;rintro e Uy ⟨rfl,Xc⟩;have V:=lh (Sr.q Xc);clear Xc JfH;cases hz:(!L0.any m8) with
   | true =>
    have Yq:CH=r6:=by rw [HCf.out,hz];rfl
    rw [Yq] at QF;obtain ⟨I,M,JcD,Yi⟩:=(Tc.quiet V).best;have Vy:=lh JcD;have Jdh:=lh Yi;have O:=lh (iY (k:=0) (mo:=0) (ms:=[0,0,0,0]) (vx:=0) (vy:=0) (lv:=I) (vs:=M) rfl Yi.len);have HO0:=lh (eh (k:=0) (mo:=0) (ms:=[0,0,0,0]) (vx:=0) (vy:=0) (lv:=I) (vs:=M) Yi.one.1 Yi.one.2);have Yg:=lh (dD (k:=0) (mo:=0) (ms:=[0,0,0,0]) (vx:=0) (vy:=0) (lv:=ai) (vs:=[ai,ai,ai,ai]) (k':=0) (mo':=0) (ms':=[0,0,0,0]) (vx':=0) (vy':=0) (lv':=I) (vs':=M) rfl rfl rfl Yi.len);have Jdv:=lh (V.row Yf);have Vv:=lh (show bI (w.heap.size+1+1+1) (Uy.setRow (w.heap.size+1+1+1) (j1 0 0 [0,0,0,0] 0 0 I M).toArray) 0 0 [0,0,0,0] 0 0 I M from m7 Uy (w.heap.size+1+1+1) _ _ _ _ Jdv);have VU:=lh (ae.setRow (S:=[w.heap.size+1+1+1]) (ae.refl _ Uy) (g:=w.heap.size+1+1+1) (fun _=>Qb) (j1 0 0 [0,0,0,0] 0 0 I M).toArray);clear JcD Yi hz Yq
    go_wp2_with (first
     | (refine az rfl (.tmp 18) 76 rfl rfl Vy RT rfl O ?_)
     | (refine am rfl (.tmp 16) (.tmp 46) 76 rfl rfl rfl Jdv O Yg HO0 ?_)
     | fail)
    refine TV (v:=.agg (j1 0 0 [0,0,0,0] 0 0 I M).toArray) (results_cell_row results31 _ _ (w.heap.size+1+1+1) _ _ _ _ rfl Vv RT rfl O) rfl (QF.out _ _ ⟨I,M,rfl,rfl,?_,?_⟩)
    ·have h3:=Jdh.only VU (fun g hg=>by rw [i5] at hg;have:=UQ.out;have:=HZ8.out;exact .inl Qa)
     exact Lf
    ·exact (TL.q V).trans VU (U:=[]) Qb (fun g hg QH=>Qd)
   | false =>
    have Yq:CH=jg cur b x y q (je prev b x y q r):=by rw [HCf.out,hz];simp
    have Uz:=lh Yq;clear Yq hz HCf;have HSe:=lh (Jha.out (by first | rfl | trivial) Uy (TL.q V) _ _ _ (Wj.quiet V) (l6 V.size HZ8.out));generalize aY prev b x y r=SS at *
    obtain ⟨SX,SY,SC⟩:=SS;obtain ⟨o1,o2,o3,o4⟩:=Jhb.out;simp only at o1 o2 o3 o4 HSe JbU;obtain ⟨p0,p1,p2⟩:=ag (V.row Ye);go_wp2_with fail;refine HSe.mono ?_;rintro e N ⟨rfl,Zd⟩;have Ss:=lh (V.q Zd);clear Zd HSe p0 p1 p2;have RY:=lh (ae.new N (.cells #[SX,SY] 73));have HRv:=lh (Sd N (.cells #[SX,SY] 73));obtain ⟨p0,p1,p2⟩:=ag ((Ss.q RY).row Ye);obtain ⟨v0,v1,-⟩:=aL HRv;go_wp2_with fail;generalize JhB:World.alloc N _=W13 at *
    clear JhB p0 p1 p2 v0 v1;have VR:=lh (Ss.q RY);have HVb:Hid (W8.heap.size<=N.heap.size):=lh Ss.size;generalize N.heap.size=VB at *
    clear RY;refine (Jdb.out (by first | rfl | trivial) W13 (TL.q VR) SX SY ⟨o1,o2⟩ ⟨o3,o4⟩).mono ?_;rintro e TC ⟨v14,rfl,ZN,Ve⟩;obtain ⟨g14,c14,rfl,-,-⟩:=ZN.form (eC Yv);rw [Yv.out] at ZN |-
    try rw [show (8*8:Nat)=64 from rfl] at ZN |-
    have Xn:=lh ZN.ints;have WR:=lh (VR.q Ve);have YC:=lh (Ve.row HRv);clear ZN Ve HRv;obtain ⟨v0,v1,-⟩:=aL YC;go_wp2_with fail;refine (WN.out (by first | rfl | trivial) TC _ _ _ _ _ _ SX SY ⟨o1,o2⟩ ⟨o3,o4⟩ Xn (Wj.quiet WR)).mono ?_;rintro e w15 ⟨rfl,XA⟩;have SH:=lh (WR.q XA);have JgF:=lh (Xn.quiet XA);have JgX:=lh (XA.row YC);clear XA YC Xn v0 v1;obtain ⟨v0,v1,-⟩:=aL JgX;have HLm:=lh (Vj.out (by first | rfl | trivial) SX SY);generalize hcm:eA (aq prev x y 8 SX SY) b SX SY=CM at *
    go_wp2_with fail;have HVn:Hid (VB∉[BQ+1,BQ]):=lh (by have:=HVb.out;have:=HZ8.out;simp only [Pg,Ph,l7];omega);refine Tf (S:=(fun w'=>w'.cell? ⟨VB,0,none⟩=some (.int .i64 SX)/\w'.cell? ⟨VB,1,none⟩=some (.int .i64 SY))) Qc ?_ (fun hHeld=>?_)
    ·exact ⟨v0,v1⟩
    refine tk 0 68 ?_;refine tk 1 69 ?_;refine tk 2 70 ?_;refine tk 3 71 ?_;refine tk 4 72 ?_;refine tk 7 75 ?_;refine j6 5 73 fun K hK=>?_
    go_simp;refine (Uh.out (by first | rfl | trivial) _ _ _ _ _ _ _ SX SY (Wj.quiet SH.drew) (JgF.quiet (ae.refl [] _).drew)).mono ?_;rintro e w16 ⟨v16,rfl,ZO,ZR⟩;obtain ⟨g16,c16,rfl,-,-⟩:=ZO.form (eC HLm);rw [HLm.out] at ZO |-
    try rw [show (8*8:Nat)=64 from rfl] at ZO |-
    have YV:=(ae.refl [] w15).drew.q ZR;have Jnq:=lh ZO;have Jcb:=lh (SH.q YV);clear ZO ZR;refine ko hK ⟨YV.cell v0 Qb,YV.cell v1 Qb⟩ fun hHeld=>?_;clear hK K
    refine tk 6 74 ?_;refine j6 8 76 fun K hK=>?_
    go_simp;have Jcu:ep (BQ+1+1) w16.heap.size w16 (.slice g16 64 c16) [ai,ai,ai,ai] (bB b (aq prev x y 8 SX SY) q) [[],[],[],[]]:=⟨Jnq.ints.mono (by have:=SH.size;have:=HZ8.out;simp only [show w15.drew.heap.size=w15.heap.size from rfl];omega) (Pm _),rfl,fun i hi=>by
     match i,hi with
     | 0,_=>exact aj.nil _ _ _ _
     | 1,_=>exact aj.nil _ _ _ _
     | 2,_=>exact aj.nil _ _ _ _
     | 3,_=>exact aj.nil _ _ _ _⟩
    have F:=oP (s:=⟨1,0,[0,0,0,0],SX,SY,bB b (aq prev x y 8 SX SY) q,[[],[],[],[]]⟩) (c:=CM) (Tc.quiet Jcb) rfl Jcu;refine F.mono ?_;rintro e w17 ⟨rfl,Jua,ZT⟩;have JmO:=lh Jua;have JnJ:=lh ZT;have e0:=ZT.cell (YV.cell v0 Qb) HVn;have e1:=ZT.cell (YV.cell v1 Qb) HVn;clear Jua ZT F Jcu;refine ko hK ⟨e0,e1⟩ fun hHeld=>?_;clear hK K
    refine Wn Qc ?_ _;go_wp2_with fail;go_meet;refine ⟨je prev b x y q r,lh ?_,Uz,lh ((Jcb.mono (U:=[BQ+1,BQ]) Qb).trans JnJ (fun _ h _=>h) (fun _ h _=>h))⟩;rw [JbU.out];exact JmO
  ·go_wp2_with fail
   go_meet;exact ⟨(r6,-1),Tc,lh (by rw [HCh.out];simp),lh (AY)⟩
 case rest =>
  obtain ⟨rr,HBc,XG,Z⟩:=hcut;obtain ⟨W9,hW9⟩:=bu wc
  subst hW9;rw [LC] at XG;have SP:Hid (ae [] w W9):=TL.trans Z (U:=[]) Qb (fun g hg QH=>by have:=UQ.out;simp only [Pg,Ph,l7] at hg;omega);have HI9:=lh (Wj.only Z (fun g hg=>by simp only [Pg,Ph,l7] at hg;omega));have HK:Hid (w.heap.size+1∉[BQ+1,BQ]/\w.heap.size+1+1+1∉[BQ+1,BQ]):=lh (by have:=UQ.out;simp only [Pg,Ph,l7];omega);have Jce:=lh (Z.rowAt Yd HK.1);have Zy:=lh (Z.rowAt Yf HK.2);have hz9:=Z.size;have HZ9:Hid (BQ+1+1<=W9.heap.size):=lh (j0 HZ8.out);clear hz9 Z Yd Yf TL Tc Wj Jfn Ye JbU Jcf Jdb Uh Vj JsT Jha Jhb WN HCh Yv;have Sx:=lh (Zx.out W9 SP _ _ _ HI9);obtain ⟨bs0,bs1⟩:=Tn;obtain ⟨BA,hBA⟩:=bu (aI cur b x y 8)
  rw [<- hBA] at Sx XG bs0 bs1;obtain ⟨bm,bs⟩:=BA;simp only at Sx XG bs0 bs1;generalize fV cur b x y 8 q=L at *
  have e1:IntKind.i64.wrap (4*bs)=4*bs:=Qe;have e2:IntKind.i64.wrap (4*bs+8)=4*bs+8:=Qe;obtain ⟨c0,c1,c2⟩:=ag Jce;clear hBA Zx;go_wp2_with fail;refine Sx.mono ?_;rintro e VQ ⟨v10,rfl,VG,UI⟩;obtain ⟨g10,c10,rfl,-,-⟩:=VG.form (eC WP);rw [WP.out] at VG |-
  try rw [show (8*8:Nat)=64 from rfl] at VG |-
  have Ur:=lh VG;have Sr:=lh UI;clear VG UI Sx c0 c1 c2;go_wp2_with fail;have Jan:ep (BQ+1+1) VQ.heap.size VQ (.slice g10 64 c10) [ai,ai,ai,ai] L [[],[],[],[]]:=⟨Ur.ints.mono HZ9 (Pm _),rfl,fun i hi=>by
   match i,hi with
   | 0,_=>exact aj.nil _ _ _ _
   | 1,_=>exact aj.nil _ _ _ _
   | 2,_=>exact aj.nil _ _ _ _
   | 3,_=>exact aj.nil _ _ _ _⟩
  have F:=oP (s:=⟨2,bm,[0,0,0,0],0,0,L,[[],[],[],[]]⟩) (c:=4*bs+8) (HBc.quiet Sr) rfl Jan;refine F.mono ?_;rintro e Uy ⟨rfl,JtY,Xc⟩;have Jjo:=lh JtY;have V:Hid (ae [BQ+1,BQ] W9 Uy):=lh ((Sr.mono (U:=[BQ+1,BQ]) Qb).trans Xc (fun _ h _=>h) (fun _ h _=>h));clear JtY Xc F Jan Ur Sr HBc e1 e2;have Jsn:Hid (ae [] w Uy):=SP.trans V (U:=[]) Qb (fun g hg QH=>by have:=UQ.out;simp only [Pg,Ph,l7] at hg;omega);have Jyb:=lh (HI9.only V (fun g hg=>by simp only [Pg,Ph,l7] at hg;omega));obtain ⟨c0,c1,c2⟩:=ag (V.rowAt Jce HK.1);have HFo:=lh (JgC.out Uy Jsn _ _ _ Jyb);generalize fp cur b x y q=FE at *
  obtain ⟨ms,ls,cost⟩:=FE;simp only at HFo XG;clear JgC;go_wp2_with fail;refine HFo.mono ?_;rintro e N ⟨vs,rfl,RQ,Jao,Zd⟩;have Tv:=lh RQ;have Yy:=lh Jao;have Ss:=lh Zd;clear RQ Jao Zd c0 c1 c2 HFo;go_wp2_with fail;have Jmh:ep (BQ+1+1) N.heap.size N ai vs [] ls:=⟨Yy.large.mono (l6 HZ9.out V.size) (Pm _),Yy.len,fun i hi=>(Yy.small i hi).mono (l6 HZ9.out V.size) (Pm _)⟩
  have F:=oP (s:=⟨3,0,ms,0,0,[],ls⟩) (c:=cost) (Jjo.quiet Ss) Tv Jmh;refine F.mono ?_;rintro e w13 ⟨rfl,JtZ,JcC⟩;have hqa:ae [BQ+1,BQ] W9 w13:=(V.trans Ss (U:=[BQ+1,BQ]) (fun _ h _=>h) Qb).trans JcC (fun _ h _=>h) (fun _ h _=>h);have HQa:=lh hqa;have Jgr:=lh JtZ;clear JtZ JcC F Jmh hqa Jjo Ss Yy;generalize dZ (dZ rr _ _) _ _=RR at *
  obtain ⟨J,Y,hrF,JfD⟩:=Jgr.best;have HmF:=lh Jgr.ml;have HRF:=lh hrF;have HIF:=lh JfD;obtain ⟨E,cF⟩:=RR;simp only at XG;rw [XG.out] at QF;have O:=lh (iY (k:=E.kind) (mo:=E.mode) (vx:=E.vx) (vy:=E.vy) (lv:=J) HmF JfD.len);have HO0:=lh (eh (k:=E.kind) (mo:=E.mode) (ms:=E.modes) (vx:=E.vx) (vy:=E.vy) (lv:=J) (vs:=Y) JfD.one.1 JfD.one.2);have Yg:=lh (dD (k:=0) (mo:=0) (ms:=[0,0,0,0]) (vx:=0) (vy:=0) (lv:=ai) (vs:=[ai,ai,ai,ai]) (k':=E.kind) (mo':=E.mode) (ms':=E.modes) (vx':=E.vx) (vy':=E.vy) (lv':=J) (vs':=Y) rfl rfl HmF JfD.len);have JsH:=lh (HQa.rowAt Zy HK.2);have Vv:=lh (show bI (w.heap.size+1+1+1) (w13.setRow (w.heap.size+1+1+1) (j1 E.kind E.mode E.modes E.vx E.vy J Y).toArray) E.kind E.mode E.modes E.vx E.vy J Y from m7 w13 (w.heap.size+1+1+1) _ _ _ _ JsH);have VU:=lh (ae.setRow (S:=[w.heap.size+1+1+1]) (ae.refl _ w13) (g:=w.heap.size+1+1+1) (fun _=>Qb) (j1 E.kind E.mode E.modes E.vx E.vy J Y).toArray);clear hrF JfD Jgr
  go_wp2_with (first
   | (refine az rfl (.tmp 18) 76 rfl rfl HRF RT rfl O ?_)
   | (refine am rfl (.tmp 16) (.tmp 105) 76 rfl rfl rfl JsH O Yg HO0 ?_)
   | fail)
  refine TV (v:=.agg (j1 E.kind E.mode E.modes E.vx E.vy J Y).toArray) (results_cell_row results31 _ _ (w.heap.size+1+1+1) _ _ _ _ rfl Vv RT rfl O) rfl (QF.out _ _ ⟨J,Y,rfl,HmF.out,?_,?_⟩)
  ·have h3:=HIF.only VU (fun g hg=>by rw [i5] at hg;have:=UQ.out;exact .inl Qa)
   exact Lf
  ·exact (SP.trans HQa (U:=[]) Qb (fun g hg QH=>by have:=UQ.out;simp only [Pg,Ph,l7] at hg;omega)).trans VU (U:=[]) Qb (fun g hg QH=>Qd)
end
def Nt (src prev:ah) (key:Bool) (qp reach:Int) (w:World) (e:Ending) (w':World):Prop :=
 ae [] w w'/\match cy src prev key qp reach with
  | some k=>e=.returned (.tuple #[.agg #[(),d8],.agg #[(),(),d8],.iface 36 (.int .i64 k)])
  | none=>∃ dv fv,e=.returned (.tuple #[.agg #[.int .i64 (bP src prev key qp reach.toNat).kind,dv],.agg #[src.W,src.H,fv],.nilIface])/\aj .u8 w.heap.size w'.heap.size w' dv (bP src prev key qp reach.toNat).data/\aj .i64 w.heap.size w'.heap.size w' fv (dJ src prev key qp reach.toNat).1.pix
theorem eN {src prev:ah} {key:Bool} {qp reach:Int} (h:cy src prev key qp reach=none):FrOk src/\(key=false->ej prev src.W src.H=true)/\0<=qp/\qp<=15/\0<=reach/\reach<=7:=by
 unfold cy at h
 split at h
 ·cases h
 rename_i h1
 split at h
 ·cases h
 rename_i h2
 split at h
 ·cases h
 rename_i h3
 refine ⟨dp.1 (by simpa using h1),fun D=>?_,Qa,Qa,Qa,Qa⟩;rw [D] at h2;simpa using h2
theorem iO {p:ah} {W H:Int} (h:ej p W H=true):FrOk p/\p.W=W/\p.H=H:=by
 unfold ej at h;rw [t8,t8,dp,r9,r9] at h;exact ⟨h.1.1,h.1.2,h.2⟩
theorem Ig (a c d:Nat):(d*a+c)*8=(8*a)*d+8*c:=by
 have e:8*a*d=8*(d*a):=by rw [Nat.mul_assoc,Nat.mul_comm a d]
 omega
theorem wM (a c d:Nat):((d*a+c:Nat):Int)*8=(((8*a)*d+8*c:Nat):Int):=by
 rw [<- Ig,A9];rfl
theorem ML {a c d:Nat} (h:c<a):(((d*a+c:Nat):Int)*8) % ((8*a:Nat):Int)=((8*c:Nat):Int):=by
 rw [wM,<- Int.natCast_emod,Nat.mul_add_mod,Nat.mod_eq_of_lt Qa]
theorem MM {a c d:Nat} (h:c<a):(((d*a+c:Nat):Int)*8) / ((8*a:Nat):Int)=(d:Int):=by
 rw [wM,<- Int.natCast_ediv,Nat.add_comm,Nat.add_mul_div_left _ _ Qa,Nat.div_eq_of_lt Qa,Nat.zero_add]
theorem Cv {key:Bool} {prev f:ah} {qp:Int} {ch:ah->Int->Int->j4} {m:i9} {a c d k:Nat} (E:f.W=((8*a:Nat):Int)) (D:c<a):encGo key prev qp ch (k+1) (d*a+c) f m =
  encGo key prev qp ch k (d*a+c+1) (bk f prev (8*(c:Int)) (8*(d:Int)) qp (ch f (8*(c:Int)) (8*(d:Int)))) (dE i6 key (dB (ch f (8*(c:Int)) (8*(d:Int)))) m).2:=by
 rw [encGo,E,ML D,MM D,show (d:Int)*8=8*(d:Int) from Int.mul_comm _ _,show ((8*c:Nat):Int)=8*(c:Int) by omega]
theorem rC {base R E:Nat} {F S:List Nat} {w w':World} {m:i9} (h:(pcWrite base R E).At F w m) (o:ae S w w') (D:∀ g∈S,g∉F):(pcWrite base R E).At F w' m:=by
 obtain ⟨ov,rfl,I⟩:=h;exact ⟨ov,rfl,I.only o D⟩
theorem uf {base R E:Nat} {F:List Nat} {w:World} {m:i9} (h:(pcWrite base R E).At F w m):∀ g∈F,base<=g:=by
 obtain ⟨ov,rfl,I⟩:=h;exact fun g D=>(I.lt g D).1
theorem gS {w:World} {E D:Nat} {a b c d e x y u v z:Value} {t L:TypeId} (Y:w.heap[E]?=some (.cells #[a,b] t)) (Z:w.heap[D]?=some (.cells #[c,d,e] L)) (F:E≠D) :
  (((((w.setCell ⟨E,0,none⟩ x).setCell ⟨E,1,none⟩ y).setCell ⟨D,0,none⟩ u).setCell ⟨D,1,none⟩ v).setCell ⟨D,2,none⟩ z).heap[E]?=some (.cells #[x,y] t) /\
  (((((w.setCell ⟨E,0,none⟩ x).setCell ⟨E,1,none⟩ y).setCell ⟨D,0,none⟩ u).setCell ⟨D,1,none⟩ v).setCell ⟨D,2,none⟩ z).heap[D]?=some (.cells #[u,v,z] L) /\
  ae [E,D] w (((((w.setCell ⟨E,0,none⟩ x).setCell ⟨E,1,none⟩ y).setCell ⟨D,0,none⟩ u).setCell ⟨D,1,none⟩ v).setCell ⟨D,2,none⟩ z):=by
 obtain ⟨h1,I⟩:=aJ (x:=x) (y:=y) Y;have M:=I.rowAt Z (by simp;exact Ne.symm F);have N:=WG _ D 0 _ _ u M;have O:=WG _ D 1 _ _ v N;have V:=WG _ D 2 _ _ z O;have J:ae [D] ((w.setCell ⟨E,0,none⟩ x).setCell ⟨E,1,none⟩ y) (((((w.setCell ⟨E,0,none⟩ x).setCell ⟨E,1,none⟩ y).setCell ⟨D,0,none⟩ u).setCell ⟨D,1,none⟩ v).setCell ⟨D,2,none⟩ z):=(((AY).setCell Qb _).setCell Qb _).setCell Qb _;exact ⟨J.rowAt h1 (by simp;exact F),V,I.trans J (fun g h _=>by rw [i5] at h;subst h;simp) (fun g h _=>by rw [i5] at h;subst h;simp)⟩
theorem eP {P:Program} {fn:Func} {p q r:Tmp} {ty E:TypeId} (h:fn.results=#[.cell p ty,.cell q E,.tmp r]) (F:Array Value) (w:World) (g L:Nat) (t t':TypeId) (J D:Array Value) (fr I:Nat×Nat) (d M:TypeDesc) (v:Value)
  (hp:F.getD p undef=.pointer g) (hq:F.getD q undef=.pointer L) (hr:F.getD r undef=v) (hg:w.heap[g]?=some (.cells J t fr)) (O:w.heap[L]?=some (.cells D t' I))
  (hu:P.underlying ty=some d) (hd:(match d with | .struct _ | .array _ _=>true | _=>false)=true) (hi:(P.info? ty).map (·.size)=some J.size)
  (hu':P.underlying E=some M) (N:(match M with | .struct _ | .array _ _=>true | _=>false)=true) (hi':(P.info? E).map (·.size)=some D.size) :
  (results fn F).run P w=.ok (.tuple #[.agg J,.agg D,v]) w:=by
 have V:F[p]?.getD undef=.pointer g:=Qw;have Y:F[q]?.getD undef=.pointer L:=Qx;have Z:F[r]?.getD undef=v:=QE;simp [results,h,V,Y,Z,asAddr,run_loadVar_row w g t ty J fr d hg hu hd hi,run_loadVar_row w L t' E D I M O hu' N hi']
theorem iM {w:World} {g:Nat} {x} (h:w.heap[g]?=x):w.drew.heap[g]?=x:=h
section
theorem Cu {lo hi lo' hi':Nat} {sv pv:Value} {src prev:ah} {w:World} (key:Bool) (qp reach:Int) (hs:aj .i64 lo hi w sv src.pix) (hp:aj .i64 lo' hi' w pv prev.pix) (hh:hi<=w.heap.size) (hh':hi'<=w.heap.size) :
  Calls prog 9 #[.agg #[src.W,src.H,sv],.agg #[prev.W,prev.H,pv],.bool key,qp,reach] w (Nt src prev key qp reach w):=by
 refine aK fun Q QF=>?_
 have XH:=lh (fun (W:World) (o:ae [] w W)=>Cs key qp reach (hs.quiet o) (hp.quiet o));have HS:=lh hs;have HP:=lh hp;obtain ⟨sa,sc,rfl,-⟩:=hs.open;obtain ⟨pa,pc,rfl,-⟩:=hp.open;have Rh:Hid (ae [] w ((((w.alloc (sT src sa sc)).alloc (sT prev pa pc)).alloc (.cells #[(),d8] 31)).alloc (.cells #[(),(),d8] 24))):=lh ((((ae.new w _).alloc _).alloc _).alloc _);have Sp:Hid (((((w.alloc (sT src sa sc)).alloc (sT prev pa pc)).alloc (.cells #[(),d8] 31)).alloc (.cells #[(),(),d8] 24)).heap[w.heap.size]?=some (.cells (sT src sa sc) 24)):=lh ((((ae.new (w.alloc _) _).alloc _).alloc _).row (Sd w _));have Tj:Hid (((((w.alloc (sT src sa sc)).alloc (sT prev pa pc)).alloc (.cells #[(),d8] 31)).alloc (.cells #[(),(),d8] 24)).heap[w.heap.size+1]?=some (.cells (sT prev pa pc) 24)):=lh (((ae.new ((w.alloc _).alloc _) _).alloc _).row (ak Qb));have SK:Hid (((((w.alloc (sT src sa sc)).alloc (sT prev pa pc)).alloc (.cells #[(),d8] 31)).alloc (.cells #[(),(),d8] 24)).heap[w.heap.size+1+1]?=some (.cells #[(),d8] 31)):=lh ((ae.new (((w.alloc _).alloc _).alloc _) _).row (ak Qb));have Ti:Hid (((((w.alloc (sT src sa sc)).alloc (sT prev pa pc)).alloc (.cells #[(),d8] 31)).alloc (.cells #[(),(),d8] 24)).heap[w.heap.size+1+1+1]?=some (.cells #[(),(),d8] 24)):=ak Qb;have WT:Hid (((((w.alloc (sT src sa sc)).alloc (sT prev pa pc)).alloc (.cells #[(),d8] 31)).alloc (.cells #[(),(),d8] 24)).heap.size=w.heap.size+1+1+1+1):=lh Qb
 have HHi:=lh (VL hh hh');obtain ⟨a0,a1,a2⟩:=ag Sp;obtain ⟨b0,b1,b2⟩:=ag Tj;clear hs hp hh hh';go_enter func9,ntmps9;go_wp2_with fail;generalize XO:World.alloc (World.alloc (World.alloc (World.alloc w _) _) _) _=W4 at *
 clear XO a0 a1 a2 b0 b1 b2;refine (XH.out W4 Rh).mono ?_;rintro e w5 ⟨⟨u,rfl,hu⟩,RF⟩;have Rk:=lh (Rh.q RF);have Jfm:=lh (RF.row Sp);have JgV:=lh (RF.row Tj);have Jcd:=lh (RF.row SK);have Jdt:=lh (RF.row Ti);have UQ:Hid (w.heap.size+1+1+1+1<=w5.heap.size):=lh (l6 RF.size WT.out);clear RF Sp Tj SK Ti WT XH Rh;cases TN:cy src prev key qp reach with
 | some k =>
  rw [TN] at hu;have hu':u=.iface 36 (.int .i64 k):=hu;subst hu';have HCK:=lh TN;clear TN hu;obtain ⟨t0,t1,y0,y1,-⟩:=aL Jcd;have RX:w.heap.size+1+1≠w.heap.size+1+1+1:=Qa;obtain ⟨hc,hf,ho⟩:=gS (x:=.int .i64 0) (y:=.slice none 0 0) (u:=.int .i64 0) (v:=.int .i64 0) (z:=.slice none 0 0) Jcd Jdt RX;obtain ⟨SE,Sc⟩:=aJ (x:=.int .i64 0) (y:=.slice none 0 0) Jcd;have TJ:=Sc.rowAt Jdt Qb;obtain ⟨f0,f1,f2⟩:=ag TJ;have J:=Sz _ (w.heap.size+1+1+1) 0 _ _ TJ;have g1:=Sz _ (w.heap.size+1+1+1) 1 _ _ TJ;have g2:=Sz _ (w.heap.size+1+1+1) 2 _ _ TJ;have HC:=lh hc;have HF:=lh hf;have HO:=lh ho;clear hc hf ho SE Sc TJ;go_wp2_with fail;refine TV (v:=.tuple #[.agg #[(),d8],.agg #[(),(),d8],.iface 36 (.int .i64 k)]) (eP results9 _ _ (w.heap.size+1+1) (w.heap.size+1+1+1) _ _ _ _ _ _ _ _ _ rfl rfl rfl HC HF underlying31 rfl Qc underlying24 rfl Qc) rfl (QF.out _ _ ?_);unfold Nt;rw [HCK.out];exact ⟨Rk.trans HO Qb (fun g hg QH=>by simp only [Pg,Ph,l7] at hg;omega),rfl⟩
 | none =>
  have hu':u=.nilIface:=by rw [TN] at hu;exact hu
  subst hu';obtain ⟨N,Zn,UH,QI,Vg,Tt⟩:=eN TN;obtain ⟨q,rfl⟩:=A0 UH;obtain ⟨r,rfl⟩:=A0 Vg;have hq:q<=15:=Qa;have hr:r<=7:=Qa;have Jfu:=lh hq;have Jdr:Hid (∀ e w',ae [] w w'->(∃ dv fv,e=.returned (.tuple #[.agg #[.int .i64 (bP src prev key q r).kind,dv],.agg #[src.W,src.H,fv],.nilIface])/\aj .u8 w.heap.size w'.heap.size w' dv (bP src prev key q r).data/\aj .i64 w.heap.size w'.heap.size w' fv (dJ src prev key q r).1.pix)->Q e w'):=lh (fun e w' o h=>QF.out _ _ (by unfold Nt;rw [TN];exact ⟨o,by rw [Int.toNat_natCast];exact h⟩));have hdr:=(nl (q:=q) (reach:=r) N Zn hq hr).2;have hpk:key=false->FrOk prev/\prev.W=src.W/\prev.H=src.H:=fun h=>iO (Zn h)
  have hn:jJ src.W src.H 128=true:=iP.2 ⟨⟨N.w0,N.w1,N.w8⟩,⟨N.h0,N.h1,N.h8⟩,Ql,Ql⟩;obtain ⟨D,haa⟩:∃ a:Nat,src.W=((8*a:Nat):Int):=⟨(src.W / 8).toNat,by have:=N.w0;have:=N.w8;omega⟩
  obtain ⟨M,hbb⟩:∃ b:Nat,src.H=((8*b:Nat):Int):=⟨(src.H / 8).toNat,by have:=N.h0;have:=N.h8;omega⟩
  have Jvx:(src.W*src.H / 64).toNat=M*D:=by
   have e:src.W*src.H=((64*(M*D):Nat):Int):=by
    rw [haa,hbb,<- A9,show (8*D*(8*M):Nat)=64*(M*D) by rw [Nat.mul_mul_mul_comm,Nat.mul_comm D M]]
   rw [e];generalize M*D=T;omega
  have JgB:Hid (dJ src prev key q r=encGo key prev q (aT src prev key q r) (M*D) 0 (ed src.W src.H 128) gy):=lh (by unfold dJ;rw [Jvx]);have Jgx:Hid (bP src prev key q r=⟨if key then 1 else 2,(q:Int) :: jk (dJ src prev key q r).2⟩):=lh rfl;have XI:Hid ((jk (dJ src prev key q r).2).length<65536):=lh (by have h2:(jk (dJ src prev key q r).2).length+1<=65000:=hdr;omega);have ha4:D<=4/\1<=D:=by have:=N.w1;have:=N.w0;omega
  have hb4:M<=4/\1<=M:=by have:=N.h1;have:=N.h0;omega
  have Yq:=fun (P:List Int) (hP:FrOk ⟨src.W,src.H,P⟩) (x y:Int)=>nj (src:=src) (prev:=prev) (cur:=⟨src.W,src.H,P⟩) (key:=key) (q:=q) (reach:=r) N.sam hP.sam (fun h=>(hpk h).1.sam) hq hr x y
  have HCh:=lh (fun (W:World) (P:List Int) (l1 h1 l2 h2 l3 h3:Nat) (v1 v2 v3:Value) (x y:Int) (hP:FrOk ⟨src.W,src.H,P⟩) (i1:aj .i64 l1 h1 W v1 src.pix) (i2:aj .i64 l2 h2 W v2 P) (i3:aj .i64 l3 h3 W v3 prev.pix) (hx:0<=x/\x+8<=src.W) (hy:0<=y/\y+8<=src.H) (hh:h3<=W.heap.size)=>Cj (q:=q) (r:=r) (src:=src) (cur:=⟨src.W,src.H,P⟩) (prev:=prev) key N hP hpk rfl rfl i1 i2 i3 x y hx hy hq hr hh);have YG:=lh Yq;have HLy:=lh (fun (W:World) (P:List Int) (base g cap l1 h1 lo hi:Nat) (pv:Value) (s:j4) (lv:Value) (vs:List Value) (x y:Int) (hP:FrOk ⟨src.W,src.H,P⟩) (h:vB base g cap l1 h1 lo hi W ⟨src.W,src.H,P⟩ prev pv s lv vs) (hw:iH key s) (RQ:s.modes.length=4) (hx:0<=x) (Ry:x+8<=src.W) (hy:0<=y) (RJ:y+8<=src.H)=>GL (q:=q) (mo:=s.mode) (f:=⟨src.W,src.H,P⟩) hP h (fun hk=>(hpk (by cases key with | false=>rfl | true=>have:=hw.key_ rfl;omega)).1) ⟨hw.kind,hw.mode,hw.large,hw.vec,hw.small⟩ (fun _=>rfl) RQ hq hx Ry hy RJ);have HLo:=lh (fun (P:List Int) (hP:FrOk ⟨src.W,src.H,P⟩) (s:j4) (hw:iH key s) (x y:Int) (hx:0<=x) (Ry:x+8<=src.W) (hy:0<=y) (RJ:y+8<=src.H)=>(⟨wu (prev:=prev) hP (fun hk=>(hpk (by cases key with | false=>rfl | true=>have:=hw.key_ rfl;omega)).1.sam) hx Ry hy RJ ⟨hw.kind,hw.mode,hw.large,hw.vec,hw.small⟩ (q:Int),rY ⟨src.W,src.H,P⟩ prev x y q s⟩:FrOk (bk ⟨src.W,src.H,P⟩ prev x y q s)/\(bk ⟨src.W,src.H,P⟩ prev x y q s).W=src.W/\(bk ⟨src.W,src.H,P⟩ prev x y q s).H=src.H));have HNw:=lh (wO src.W src.H 128 w5 hn);have HF0:=lh (nM hn);have HF1:Hid (ed src.W src.H 128=⟨src.W,src.H,(ed src.W src.H 128).pix⟩):=lh rfl;have Ta:=lh (fun (P:List Int) (hP:FrOk ⟨src.W,src.H,P⟩)=>(by have h1:(P.length:Int)=src.W*src.H:=hP.len;have h2:((ed src.W src.H 128).pix.length:Int)=src.W*src.H:=(nM hn).len;omega:P.length=(ed src.W src.H 128).pix.length));have HHa:=lh (VL haa hbb);obtain ⟨s0,s1,s2⟩:=ag Jfm;rw [HF1.out] at HF0;clear TN hu UH QI Vg Tt Zn hdr N hpk hn Jvx Yq QF hq hr haa hbb;generalize (ed src.W src.H 128).pix=P0 at *
  generalize P0.length=NL at *
  go_wp2_with fail;refine HNw.mono ?_;rintro e w6 ⟨J,TA,rfl,ho6,Sl⟩;have XK:=lh ho6;have SJ:=lh Sl;have HG0:=lh (ho6.at J rfl);clear ho6 Sl HNw s0 s1 s2;have JgM:=lh (Sd w6 (.cells #[src.W,src.H,.slice J NL TA] 24));have RY:=lh (ae.new w6 (.cells #[src.W,src.H,.slice J NL TA] 24));have HZn:Hid (w6.heap.size<(w6.alloc (.cells #[src.W,src.H,.slice J NL TA] 24)).heap.size):=lh Qb;go_wp2_with fail;generalize hW7:World.alloc w6 _=W7 at *
  clear hW7;refine (LZ W7).mono ?_;rintro e w8 ⟨R,E,rfl,Xf,Vn⟩;have JtX:(pcWrite W7.heap.size R E).At (t7 R E (.slice none 0 0)) w8 gy:=⟨_,rfl,Xf⟩
  have HA8:=lh JtX;have hfl:=Xf.lt;obtain ⟨FT,hFT⟩:=bu (t7 R E (.slice none 0 0))
  rw [<- hFT] at HA8 hfl;have Vp:=lh hfl;obtain ⟨B7,hB7⟩:=bu W7.heap.size
  obtain ⟨B6,hB6⟩:=bu w6.heap.size
  rw [<- hB7] at HA8 Vp HZn;rw [<- hB6] at HZn JgM HG0 |-
  have Z:Hid (w.heap.size+1+1+1+1<=w5.heap.size/\w5.heap.size<=J/\J<B6/\B6<B7/\B7<=w8.heap.size):=lh ⟨UQ,HG0.1,HG0.2,HZn.out,by rw [hB7];exact Vn.size⟩;have Jfg:=lh ((SJ.q RY).q Vn);have Jny:=lh (Rk.q Jfg);have Jfn:=lh (Jfg.row Jfm);have Ye:=lh (Jfg.row JgV);have Yd:=lh (Jfg.row Jcd);have JgU:=lh (Jfg.row Jdt);have Yf:=lh (Vn.row JgM);have Ww:=lh (((XK.quiet RY).quiet Vn).lower (base':=w.heap.size) (Rk.size));have HS8:=lh (HS.quiet Jny);have HP8:=lh (HP.quiet Jny);clear JtX Xf Vn hfl hFT hB7 hB6 SJ RY Jfg Rk Jfm JgV Jcd Jdt JgM XK HG0 HZn UQ HS HP;have HK:Hid (∀ g,g<B7->g≠J->g∉J :: FT):=lh (fun g hg RX hm=>by
   rcases Zb.1 hm with h | h
   ·exact RX h
   ·have:=(Vp.out g h).1;omega)
  go_wp2_with fail;go_loopw [17,18] (fun yv _ wr=>∃ (d:Nat) (P:List Int) (Fk:List Nat) (mk:i9),d<=M/\yv=.int .i64 (8*(d:Int))/\Hid (FrOk ⟨src.W,src.H,P⟩)/\Hid (f9 .i64 3 w.heap.size wr (.slice J NL TA) P)/\Hid ((pcWrite B7 R E).At Fk wr mk)/\Hid (l5 (4+2788*(d*D)) mk)/\Hid (encGo key prev q (aT src prev key q r) (M*D-d*D) (d*D) ⟨src.W,src.H,P⟩ mk=dJ src prev key q r)/\Hid (bA (J :: FT) w8 (J :: Fk) wr)) (fun yv _ _=>(32-intOf yv).toNat)
  case atStart=>exact ⟨0,P0,FT,gy,Qa,rfl,HF0,Ww,HA8,lh ⟨jw,by show 4<=_;omega⟩,lh (by rw [Nat.zero_mul,Nat.sub_zero,JgB.out,HF1.out]),lh (bA.refl _ _)⟩
  case round =>
   obtain ⟨d,P,Fk,mk,hd,rfl,Us,QX,Xm,V,Tk,F⟩:=hrel;obtain ⟨t0,t1,t2⟩:=ag (F.1.rowAt Yf (HK.out B6 (j0 Z.out) (j0 Z.out)));by_cases QH:d<M
   ·have Zt:(8*(d:Int))<src.H:=by have:=HHa.2;omega
    have hda:d*D+D<=M*D:=by have:=B8 D QH;rw [Nat.succ_mul] at this;exact this
    go_wp2_with fail;clear t0 t1 t2;go_loopw [18] (fun xv wr=>∃ (c:Nat) (P:List Int) (Fk:List Nat) (mk:i9),c<=D/\xv=.int .i64 (8*(c:Int))/\Hid (FrOk ⟨src.W,src.H,P⟩)/\Hid (f9 .i64 3 w.heap.size wr (.slice J NL TA) P)/\Hid ((pcWrite B7 R E).At Fk wr mk)/\Hid (l5 (4+2788*(d*D+c)) mk)/\Hid (encGo key prev q (aT src prev key q r) (M*D-(d*D+c)) (d*D+c) ⟨src.W,src.H,P⟩ mk=dJ src prev key q r)/\Hid (bA (J :: FT) w8 (J :: Fk) wr)) (fun xv _=>(32-intOf xv).toNat)
    case atStart=>exact ⟨0,P,Fk,mk,Qa,rfl,Us,QX,Xm,V,Tk,F⟩
    case round =>
     clear Us QX Xm V Tk F;obtain ⟨c,P,Fk,mk,hc,rfl,Us,QX,Xm,V,Tk,F⟩:=hrel;have Zy:=lh (F.1.rowAt Yf (HK.out B6 (j0 Z.out) (j0 Z.out)));obtain ⟨t0,t1,t2⟩:=ag Zy;by_cases hlc:c<D
     ·have Zi:(8*(c:Int))<src.W:=by have:=HHa.1;omega
      have hxe:(8*(c:Int))+8<=src.W:=by have:=HHa.1;omega
      have hye:(8*(d:Int))+8<=src.H:=by have:=HHa.2;omega
      have WL:(0:Int)<=(8*(c:Int)):=Qa;have Vo:(0:Int)<=(8*(d:Int)):=Qa;have Ry:IntKind.i64.wrap ((8*(c:Int))+8)=(8*((c+1:Nat):Int)):=Qe;have Tm:Hid (encGo key prev q (aT src prev key q r) (M*D-(d*D+c)) (d*D+c) ⟨src.W,src.H,P⟩ mk=encGo key prev q (aT src prev key q r) (M*D-(d*D+(c+1))) (d*D+(c+1)) (bk ⟨src.W,src.H,P⟩ prev (8*(c:Int)) (8*(d:Int)) q (aT src prev key q r ⟨src.W,src.H,P⟩ (8*(c:Int)) (8*(d:Int)))) (dE i6 key (dB (aT src prev key q r ⟨src.W,src.H,P⟩ (8*(c:Int)) (8*(d:Int)))) mk).2):=lh (by
       obtain ⟨k,hk⟩:∃ k,M*D-(d*D+c)=k+1:=⟨M*D-(d*D+c)-1,Qa⟩
       rw [hk,show M*D-(d*D+(c+1))=k by omega,<- Nat.add_assoc];exact Cv (f:=⟨src.W,src.H,P⟩) HHa.1 hlc)
      have Jlp:Hid ((32-intOf (.int .i64 (8*((c+1:Nat):Int)))).toNat<(32-intOf (.int .i64 (8*(c:Int)))).toNat):=lh (by have:=ha4.1;simp only [intOf];omega);obtain ⟨X,hX⟩:=bu ((8*(c:Int)))
      obtain ⟨Y,hY⟩:=bu ((8*(d:Int)))
      rw [<- hX,<- hY] at Tm;rw [<- hX] at hxe WL Ry Zi Jlp |-
      rw [<- hY] at hye Vo Zt |-
      clear hX hY;have Xf:=YG.out P Us X Y;have hlo:=HLo.out P Us (aT src prev key q r ⟨src.W,src.H,P⟩ X Y) Xf X Y WL hxe Vo hye;have Zg:=F.1.size;have UZ:∀ g∈J :: FT,w5.heap.size<=g:=fun g hg=>by
       have hz:=Z.out;rcases Zb.1 hg with rfl | hg
       ·exact hz.2.1
       ·have:=(Vp.out g hg).1;omega
      have Xe:w.heap.size+4<=w5.heap.size:=by have:=Z.1;omega
      have HS9:=lh (HS8.only F.1 (fun g hg=>.inr (l6 (UZ g hg) HHi.out)));have HP9:=lh (HP8.only F.1 (fun g hg=>.inr (l6 (UZ g hg) HHi.out)));have JyZ:=lh (F.1.rowAt Jfn (fun hm=>by have:=UZ _ hm;omega));have Jsy:=lh (F.1.rowAt Ye (fun hm=>by have:=UZ _ hm;omega));have Yq:=HCh.out wr P _ _ _ _ _ _ _ _ _ X Y Us HS9 QX.ints HP9 ⟨WL,hxe⟩ ⟨Vo,hye⟩ (l6 HHi.out Z.out);obtain ⟨I,hSQ⟩:=bu (aT src prev key q r ⟨src.W,src.H,P⟩ X Y)
      rw [<- hSQ] at Yq Xf hlo Tm;have Jrn:=lh Yq;have JsM:=lh Xf;have Jnh:=lh hlo;have Hsz:=lh Zg;have Hsw:=lh Xe;clear hSQ Yq Xf hlo Zg UZ Xe;obtain ⟨s0,s1,s2⟩:=ag JyZ;obtain ⟨p0,p1,p2⟩:=ag Jsy;go_wp2_with fail;clear t0 t1 t2 s0 s1 s2 p0 p1 p2;refine Jrn.mono ?_;rintro e O ⟨lv,vs,rfl,RQ,QS,SR⟩;have Tv:=lh RQ;have Tg:=lh QS;have SP:=lh SR;have HI:=lh (iY (k:=(I.kind:Int)) (mo:=(I.mode:Int)) (vx:=I.vx) (vy:=I.vy) (lv:=lv) RQ QS.len);have Vq:=lh (eh (k:=(I.kind:Int)) (mo:=(I.mode:Int)) (ms:=I.modes) (vx:=I.vx) (vy:=I.vy) (lv:=lv) (vs:=vs) QS.one.1 QS.one.2);have YE:=lh (dD (k:=0) (mo:=0) (ms:=[0,0,0,0]) (vx:=0) (vy:=0) (lv:=ai) (vs:=[ai,ai,ai,ai]) (k':=(I.kind:Int)) (mo':=(I.mode:Int)) (ms':=I.modes) (vx':=I.vx) (vy':=I.vy) (lv':=lv) (vs':=vs) rfl rfl RQ QS.len);have RT:=lh underlying76;clear RQ QS SR Jrn;obtain ⟨CA,Vt⟩:=bu ((j1 (I.kind:Int) (I.mode:Int) I.modes I.vx I.vy lv vs).toArray)
      have HCA:=lh Vt;rw [<- Vt] at HI Vq YE |-
      clear Vt;have Wo:=lh (Sd O (.cells (j1 0 0 [0,0,0,0] 0 0 ai [ai,ai,ai,ai]).toArray 76));have HNr:=lh (m7 (O.alloc (.cells (j1 0 0 [0,0,0,0] 0 0 ai [ai,ai,ai,ai]).toArray 76)) O.heap.size _ CA _ _ Wo);have HNo:Hid (ae [] O ((O.alloc (.cells (j1 0 0 [0,0,0,0] 0 0 ai [ai,ai,ai,ai]).toArray 76)).setRow O.heap.size CA)):=lh (((ae.new O _).trans (ae.setRow (S:=[O.heap.size]) (AY) (g:=O.heap.size) (fun _=>Qb) CA) (U:=[]) Qb (fun g hg QH=>Qd)));have HNz:Hid (O.heap.size<((O.alloc (.cells (j1 0 0 [0,0,0,0] 0 0 ai [ai,ai,ai,ai]).toArray 76)).setRow O.heap.size CA).heap.size):=lh (by rw [size_setRow];simp)
      go_wp2_with (first
       | (refine am rfl (.tmp 19) (.tmp 63) 76 rfl rfl rfl Wo HI YE Vq ?_)
       | (refine az rfl (.tmp 19) 76 rfl rfl HNr RT rfl HI ?_)
       | fail)
      have JvC:(O.alloc (.cells xT 76)).setRow O.heap.size CA=(O.alloc (.cells (j1 0 0 [0,0,0,0] 0 0 ai [ai,ai,ai,ai]).toArray 76)).setRow O.heap.size CA:=rfl;rw [JvC];clear JvC Wo;generalize World.setRow (World.alloc O _) _ _=Xj at *
      obtain ⟨BQ,hBQ⟩:=bu O.heap.size
      have HBQ:=lh hBQ;rw [<- hBQ] at HNr HNz |-
      clear hBQ;have Jjm:=lh (rC Xm (SP.q HNo) Qb);have Jan:ep wr.heap.size BQ Xj lv vs I.large I.small:=by rw [HBQ.out];exact Tg.only HNo Qb
      have hFl:∀ x∈Fk,x<wr.heap.size:=fun x hx=>(pcWrite B7 R E).lt Xm x hx
      have hFb:=uf Xm;have Yp:M*D<=4*4:=A8 hb4.1 ha4.1;have Zr:=BR Jjm JsM Jan Tv (fun x hx=>.inl (hFl x hx)) (j0 HNz.out) V Qa;rw [<- HCA.out] at Zr;have JjR:=lh Zr;have JrC:=lh Jan;have Jrx:=lh hFl;have HFb:=lh hFb;have H16:=lh Yp;clear Zr Jan hFl hFb Yp;refine JjR.mono ?_;rintro e Uy ⟨⟨ev,rfl⟩,F11,JtR,Wd⟩;have Jrc:=lh JtR;have JxV:=lh Wd;have hz:=Z.out;have hBF:BQ∉Fk:=fun h=>by have:=Jrx.out _ h;have:=SP.size;have:=HBQ.out;omega
      have Jnk:=lh (Wd.1.rowAt HNr hBF);have JsB:=lh (Wd.1.rowAt ((SP.q HNo).row Zy) (fun h=>by have:=HFb.out _ h;omega));have Jsv:=lh (Wd.1.rowAt ((SP.q HNo).row Jsy) (fun h=>by have:=HFb.out _ h;have:=Hsw.out;omega));have Jfe:=lh ((HP9.quiet (SP.q HNo)).only Wd.1 (fun g hg=>.inr (C5 (HFb.out _ hg) HHi.out Hsw.out)));have Yz:=lh ((QX.quiet (SP.q HNo)).only Wd.1 (fun g hg e=>by simp only [Value.ownBlock,PO] at e;have:=HFb.out _ hg;omega));have JrD:=lh (JrC.only Wd.1 (fun g hg=>.inl (Jrx.out g hg)));have hPl:=Ta.out P Us;have hly:=HLy.out Uy P w.heap.size J TA _ _ wr.heap.size BQ _ I lv vs X Y Us ⟨by rw [hPl];exact Yz,Jfe.out,JrD.out,.inl (j0 Hsz.out)⟩ JsM Tv WL hxe Vo hye;rw [hPl,<- HCA.out] at hly;have JrS:=lh hly;obtain ⟨t0,t1,t2⟩:=ag JsB;obtain ⟨p0,p1,p2⟩:=ag Jsv;clear JtR Wd hBF hPl hly hz
      go_wp2_with (first
       | (refine az rfl (.tmp 19) 76 rfl rfl Jnk RT rfl HI ?_)
       | fail)
      clear t0 t1 t2 p0 p1 p2;refine JrS.mono ?_;rintro e w12 ⟨rfl,Jvb,Zd⟩;have Jyw:=lh Jvb;have Ss:=lh Zd;clear Jvb Zd JrS;go_wp2_with fail;have hz:=Z.out;have Jut:(⟨src.W,src.H,(bk ⟨src.W,src.H,P⟩ prev X Y q I).pix⟩:ah)=bk ⟨src.W,src.H,P⟩ prev X Y q I:=by
       have e1:=Jnh.2.1;have e2:=Jnh.2.2;generalize bk ⟨src.W,src.H,P⟩ prev X Y q I=L at *
       rw [<- e1,<- e2]
      have Rx:bA (J :: Fk) wr (J :: F11) w12:=by
       have h1:bA Fk wr F11 Uy:=bA.ahead (SP.q HNo) JxV;refine h1.cons.trans ⟨Ss.mono (fun g hg _=>by rw [i5] at hg;subst hg;exact VY ..),fun g hg=>.inl hg⟩
      refine ⟨⟨c+1,(bk ⟨src.W,src.H,P⟩ prev X Y q I).pix,F11,_,Qa,by first | rfl | go_num | (congr 1;omega),lh (by rw [Jut];exact Jnh.1),Jyw,lh (rC Jrc Ss (fun g hg hm=>by rw [i5] at hg;subst hg;have:=uf Jrc _ hm;omega)),lh ((pn key (dB I) V).le Qa),lh (by rw [Jut,<- Tm.out];exact Tk),lh (F.trans Rx)⟩,?_⟩;have:=Jlp.out;simpa [Ry] using this
     ·obtain rfl:c=D:=Qa
      have Zi:¬ (8*(c:Int))<src.W:=by have:=HHa.1;omega
      have Vl:d*c+c=(d+1)*c:=(Nat.succ_mul d c).symm;have RJ:IntKind.i64.wrap ((8*(d:Int))+8)=(8*((d+1:Nat):Int)):=Qe;rw [Vl] at V Tk;clear Vl;obtain ⟨Y,hY⟩:=bu ((8*(d:Int)))
      have HY:=lh hY;rw [<- hY] at RJ |-
      obtain ⟨X,hX⟩:=bu ((8*(c:Int)))
      rw [<- hX] at Zi |-
      clear hY hX;go_wp2_with fail;exact ⟨⟨d+1,P,Fk,mk,Qa,by first | rfl | rw [RJ],Us,QX,Xm,V,Tk,F⟩,by have:=HY.out;simp only [intOf];omega⟩
   ·obtain rfl:d=M:=Qa
    have Zt:¬ (8*(d:Int))<src.H:=by have:=HHa.2;omega
    have Vu:Hid (dJ src prev key q r=(⟨src.W,src.H,P⟩,mk)):=lh (by rw [<- Tk.out,Nat.sub_self];rfl);clear t0 t1 t2;have HEd:=lh (LY Xm (by
     have h1:=V.2;have h2:d*D<=4*4:=A8 hb4.1 ha4.1;omega))
    have Jrt:=lh XI;rw [Vu.out] at Jrt;have JjA:Hid (∀ g∈J :: FT,w5.heap.size<=g):=lh (fun g hg=>by
     have hz:=Z.out;rcases Zb.1 hg with rfl | hg
     ·exact hz.2.1
     ·have:=(Vp.out g hg).1;omega)
    have Zy:=lh (F.1.rowAt Yf (HK.out B6 (j0 Z.out) (j0 Z.out)));have Jce:=lh (F.1.rowAt Yd (fun hm=>by have:=JjA.out _ hm;have:=Z.out;omega));have JyY:=lh (F.1.rowAt JgU (fun hm=>by have:=JjA.out _ hm;have:=Z.out;omega));have QP:=lh (Jny.trans F.1 (U:=[]) Qb (fun g hg QH=>by have:=JjA.out g hg;have:=Z.out;omega));clear Jfn Ye Yd JgU Yf HS8 HP8 Ww HA8 JjA HK HCh HLy HLo YG JgB;have t:=ag Zy;obtain ⟨t0,t1,t2⟩:=t;go_upto_if 76 with (fail)
    go_cut [20] (fun s20 wx=>s20=.int .i64 (if key then 1 else 2)/\wr=wx)
    case first =>
     cases key with
     | true =>
      go_wp2_with fail;go_meet;exact ⟨rfl,rfl⟩
     | false =>
      go_wp2_with fail;go_meet;exact ⟨rfl,rfl⟩
    case rest =>
     obtain ⟨rfl,hwc⟩:=hcut;subst hwc;obtain ⟨KK,hKK⟩:∃ z:Int,z=if key then 1 else 2:=⟨_,rfl⟩
     rw [<- hKK];have JhV:KK=1\/KK=2:=by rw [hKK];cases key <;> simp
     have HKK:=lh hKK;clear hKK t0 t1 t2;go_wp2_with fail;refine HEd.mono ?_;rintro e w13 ⟨v13,rfl,Jct,JcC⟩;obtain ⟨d3,c3,rfl,-⟩:=Jct.open;have Jne:=lh Jct;have VR:=lh JcC;obtain ⟨N3,hN3⟩:=bu ((jk mk).length)
     have Jff:=lh (Kp (k:=KK) (q:=(q:Int)) Jne Jrt JhV ⟨Qa,by have:=Jfu.out;omega⟩);rw [<- hN3] at Jff |-
     clear Jct JcC hN3 HEd JhV;go_wp2_with fail;refine Jff.mono ?_;rintro e TC ⟨v14,rfl,JdZ,Ve⟩;obtain ⟨d4,c4,rfl,-⟩:=JdZ.open;have Xn:=lh JdZ;have WR:=lh (VR.q Ve);have ZA:=lh VR.size;clear JdZ Ve Jff;obtain ⟨N4,hN4⟩:=bu (((q:Int) :: jk mk).length)
     have HN4:=lh hN4;rw [<- hN4] at Xn |-
     clear hN4;have HVn:=lh (Sd TC (.cells #[KK,.slice d4 N4 c4] 31));have RY:=lh (ae.new TC (.cells #[KK,.slice d4 N4 c4] 31));go_wp2_with fail;generalize JoI:World.alloc TC _=W15 at *
     clear JoI;have Jem:=WR.size;have hzk:=F.1.size;have hz:=Z.out;obtain ⟨V21,hV⟩:=bu TC.heap.size
     rw [<- hV] at HVn |-
     have SH:=lh (WR.q RY);have UY:W15.heap[w.heap.size+1+1]?=some (.cells #[(),d8] 31):=SH.row Jce;have WB:W15.heap[w.heap.size+1+1+1]?=some (.cells #[(),(),d8] 24):=SH.row JyY;obtain ⟨v0,v1,-⟩:=aL HVn;obtain ⟨t0,t1,t2⟩:=ag (SH.row Zy);obtain ⟨x0,x1,y0,y1,-⟩:=aL UY;obtain ⟨SE,Sc⟩:=aJ (x:=.int .i64 KK) (y:=.slice d4 N4 c4) UY;have TJ:=Sc.rowAt WB Qb;obtain ⟨f0,f1,f2⟩:=ag TJ;have k0:=Sz _ (w.heap.size+1+1+1) 0 _ _ TJ;have k1:=Sz _ (w.heap.size+1+1+1) 1 _ _ TJ;have k2:=Sz _ (w.heap.size+1+1+1) 2 _ _ TJ;obtain ⟨hc,hf,ho⟩:=gS (x:=.int .i64 KK) (y:=.slice d4 N4 c4) (u:=.int .i64 src.W) (v:=.int .i64 src.H) (z:=.slice J NL TA) UY WB Qa;have Vx:Hid (V21∉[w.heap.size+1+1]/\B6∉[w.heap.size+1+1]/\V21∉[w.heap.size+1+1,w.heap.size+1+1+1]/\B6∉[w.heap.size+1+1,w.heap.size+1+1+1]):=lh (by simp only [i5,Pg,Ph,l7];omega);have q0:=Sc.drew.cell v0 Vx.1;have q1:=Sc.drew.cell v1 Vx.1;have q2:=Sc.drew.cell t0 Vx.2.1;have q3:=Sc.drew.cell t1 Vx.2.1;have q4:=Sc.drew.cell t2 Vx.2.1;have r0:=ho.drew.cell v0 Vx.2.2.1;have r1:=ho.drew.cell v1 Vx.2.2.1;have r2:=ho.drew.cell t0 Vx.2.2.2;have r3:=ho.drew.cell t1 Vx.2.2.2;have r4:=ho.drew.cell t2 Vx.2.2.2;have HC:=lh (iM hc);have HF:=lh (iM hf);have WJ:=lh ho.drew;have HHz:=lh (VL Jem (VL hzk hz));clear hc hf SE TJ UY WB Jem hzk hz hV;refine Tf (S:=(fun w'=>w'.cell? ⟨V21,0,none⟩=some (.int .i64 KK)/\w'.cell? ⟨V21,1,none⟩=some (.slice d4 N4 c4)/\w'.cell? ⟨B6,0,none⟩=some (.int .i64 src.W)/\w'.cell? ⟨B6,1,none⟩=some (.int .i64 src.H)/\w'.cell? ⟨B6,2,none⟩=some (.slice J NL TA))) Qc ?_ (fun hHeld=>?_)
     ·exact ⟨v0,v1,t0,t1,t2⟩
     refine tk 0 91 ?_;refine tk 1 92 ?_;refine j9 2 fun K hK=>?_
     go_simp;refine ko hK ⟨q0,q1,q2,q3,q4⟩ fun hHeld=>?_;clear hK K
     refine j9 3 fun K hK=>?_
     go_simp;refine ko hK ⟨r0,r1,r2,r3,r4⟩ fun hHeld=>?_;clear hK K
     refine tk 4 12 ?_;refine Wn Qc ?_ _;go_wp2_with fail;have Jem:=HHz.out;refine TV (v:=.tuple #[.agg #[KK,.slice d4 N4 c4],.agg #[src.W,src.H,.slice J NL TA],.nilIface]) (eP results9 _ _ (w.heap.size+1+1) (w.heap.size+1+1+1) _ _ _ _ _ _ _ _ _ rfl rfl rfl HC HF underlying31 rfl Qc underlying24 rfl Qc) rfl (Jdr.out _ _ ?_ ⟨.slice d4 N4 c4,.slice J NL TA,?_,?_,?_⟩)
     ·exact ((QP.q SH).trans WJ (U:=[]) Qb (fun g hg QH=>by simp only [Pg,Ph,l7] at hg;omega))
     ·rw [Jgx.out,<- HKK.out]
     ·rw [Jgx.out]
      show aj .u8 _ _ _ _ ((q:Int) :: jk (dJ src prev key q r).2);rw [Vu.out];have h4:=(Xn.quiet RY).only WJ (fun g hg=>by simp only [Pg,Ph,l7] at hg;have:=ZA.out;exact .inl Qa);exact h4.mono (j0 ZA.out) (Pw RY.size WJ.size)
     ·rw [Vu.out]
      have h5:=(QX.quiet SH).only WJ (fun g hg e=>by simp only [Value.ownBlock,PO] at e;simp only [Pg,Ph,l7] at hg;omega);exact h5.ints
end
end Go.Proofs.YthcafdfdglfabaaGreatDoor
