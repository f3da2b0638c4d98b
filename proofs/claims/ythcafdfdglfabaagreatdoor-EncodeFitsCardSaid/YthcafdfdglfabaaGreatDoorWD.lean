/- Joined texts: ECho, EFrm. Conditions: each part names its own. -/
import Derived.Test.YthcafdfdglfabaaGreatDoorW7
import Derived.Test.YthcafdfdglfabaaGreatDoorW8
import Derived.Test.YthcafdfdglfabaaGreatDoorW9
namespace Go.Proofs.YthcafdfdglfabaaGreatDoor
open Go.RowKit
set_option linter.unusedVariables false
set_option linter.unusedSimpArgs false
set_option maxRecDepth 100000
set_option maxHeartbeats 16000000
theorem JQ (l:List Int):(!l.any nzB)=l.all (· == 0):=by
 unfold nzB
 induction l with
 | nil=>rfl
 | cons a l ih=>rw [List.any_cons,List.all_cons,Bool.not_or,ih];congr 1;simp [bne]
theorem Ix (cur:ai) (b:List Int) (x y q:Int) (rr:SqD×Int):ik cur b x y q rr=(dK (dK rr ⟨2,(aG cur b x y 8).1,[0,0,0,0],0,0,fp cur b x y 8 q,[[],[],[],[]]⟩ (4*(aG cur b x y 8).2+8)) ⟨3,0,(ew cur b x y q).1,0,0,[],(ew cur b x y q).2.1⟩ (ew cur b x y q).2.2).1:=rfl
section
theorem Ib {p:Prop} (h:p:=by
 have z1:=Sg.size;have z2:=SK.out;exact ⟨h3.large.mono Mf z1,h3.len,fun i hi=>(h3.small i hi).mono Mf z1⟩):p:=h
theorem zk {q r lo hi TQ RK lo3 XF:Nat} {sv cv pv:Value} {src cur prev:ai} {w:World} (key:Bool) (hs:FrOk src) (hc:FrOk cur) (hp:key=false->FrOk prev/\prev.W=src.W/\prev.H=src.H) (hW:cur.W=src.W) (hH:cur.H=src.H) (is:ah .i64 lo hi w sv src.pix) (ic:ah .i64 TQ RK w cv cur.pix) (ip:ah .i64 lo3 XF w pv prev.pix) (x y:Int) (hx:0<=x/\x+8<=src.W) (hy:0<=y/\y+8<=src.H) (hq:q<=15) (hr:r<=7) (Ww:XF<=w.heap.size) :
  Calls Tryz.prog 31 #[.agg #[src.W,src.H,sv],.agg #[cur.W,cur.H,cv],.agg #[prev.W,prev.H,pv],.bool key,x,y,q,r] w fun e w'=>(∃ lv vs,e=.returned (.agg (sqL (aI src prev key q r cur x y).kind (aI src prev key q r cur x y).mode (aI src prev key q r cur x y).modes (aI src prev key q r cur x y).vx (aI src prev key q r cur x y).vy lv vs).toArray)/\(aI src prev key q r cur x y).modes.length=4/\dU w.heap.size w'.heap.size w' lv vs (aI src prev key q r cur x y).large (aI src prev key q r cur x y).small/\ae [] w w'):=by
 refine aN fun Q MM=>?_
 have JcC:=lh (fun (W:World) (o:ae [] w W)=>Gl hs (is.quiet o) x y hx hy);have NS:=lC src x y 8;have sb:=nP hs.sam x y 8;have HBl:Hid ((aO src x y 8).length=64):=lh NS;have NC:=hs.w1;have NE:=hs.h1;have Zv:=lh (fun (hk:key=false) (W:World) (o:ae [] w W) (vx vy:Int) (h1:-15<=vx/\vx<=15) (h2:-15<=vy/\vy<=15)=>na (hp hk).1 (ip.quiet o) x y vx vy Mf Mf h1 h2);have Ux:=lh (fun (vx vy:Int)=>aD prev x y 8 vx vy);have Qk:=lh (fun (hk:key=false) (W:World) (l1 h1 l2 h2:Nat) (u v:Value) (vx vy:Int) (i1:ah .i64 l1 h1 W u (aO src x y 8)) (i2:ah .i64 l2 h2 W v (ar prev x y 8 vx vy))=>mH (n:=8) (.inr rfl) i1 i2 (by rw [NS]) (by rw [aD]) sb (cD (hp hk).1.sam x y 8 vx vy) q hq);have Qw:=lh (fun (hk:key=false) (vx vy:Int)=>(kf (n:=8) (q:=q) (.inr rfl) NS (aD prev x y 8 vx vy) sb (cD (hp hk).1.sam x y 8 vx vy) hq).1);have JnF:=lh (fun (W:World) (l1 h1:Nat) (v:Value) (l:List Int) (i1:ah .i64 l1 h1 W v l) (hl:l.length<=1000)=>sF i1 Mf);have JcY:=lh (fun (hk:key=false) (W:World) (o:ae [] w W) (l1 h1:Nat) (u:Value) (i1:ah .i64 l1 h1 W u (aO src x y 8)) (g:h1<=W.heap.size)=>xI (r:=r) (hp hk).1 (ip.quiet o) i1 NS sb x y (by have:=(hp hk).2.1;omega) (by have:=(hp hk).2.2;omega) hr (by have:=o.size;omega) g);have JcZ:=lh (nu prev (aO src x y 8) x y hr);have SQ:=lh (fun (hk:key=false) (W:World) (l1 h1 l2 h2:Nat) (u v:Value) (vx vy:Int) (g1:-15<=vx/\vx<=15) (g2:-15<=vy/\vy<=15) (i1:ah .i64 l1 h1 W u (ar prev x y 8 vx vy)) (i2:ah .i64 l2 h2 W v (aO src x y 8))=>oZ i1 i2 (by rw [aD]) NS (cD (hp hk).1.sam x y 8 vx vy) sb vx vy g1 g2);have Vy:=lh (fun (W:World) (o:ae [] w W) (l1 h1:Nat) (u:Value) (i1:ah .i64 l1 h1 W u (aO src x y 8))=>xH (n:=8) (q:=q) (.inr rfl) hc (ic.quiet o) i1 NS sb x y hx.1 Mf hy.1 Mf hq);have ST:=lh (gK (n:=8) (q:=q) (.inr rfl) hc.sam NS sb x y hq).1;have PG:=ly hc.sam sb x y (n:=8) (.inr rfl) NS;have JcB:=lh (fun (W:World) (o:ae [] w W) (l1 h1:Nat) (u:Value) (i1:ah .i64 l1 h1 W u (aO src x y 8))=>DO (q:=q) hc (ic.quiet o) i1 NS sb x y hx.1 Mf hy.1 Mf hq);have HCh:Hid (aI src prev key q r cur x y=if key then ik cur (aO src x y 8) x y q (sq0,-1) else if pS prev (aO src x y 8) x y q then sq0 else ik cur (aO src x y 8) x y q (ij prev (aO src x y 8) x y q r)):=lh rfl
 have Yp:Hid (pS prev (aO src x y 8) x y q=(bA (aO src x y 8) (ar prev x y 8 0 0) q).all (· == 0)):=lh rfl;have XW:Hid (ij prev (aO src x y 8) x y q r=(⟨1,0,[0,0,0,0],(aZ prev (aO src x y 8) x y r).vx,(aZ prev (aO src x y 8) x y r).vy,bA (aO src x y 8) (ar prev x y 8 (aZ prev (aO src x y 8) x y r).vx (aZ prev (aO src x y 8) x y r).vy) q,[[],[],[],[]]⟩,dX (ar prev x y 8 (aZ prev (aO src x y 8) x y r).vx (aZ prev (aO src x y 8) x y r).vy) (aO src x y 8) (aZ prev (aO src x y 8) x y r).vx (aZ prev (aO src x y 8) x y r).vy)):=lh rfl;obtain ⟨sa,sc,rfl,-⟩:=is.open;obtain ⟨ca,cc,rfl,-⟩:=ic.open;obtain ⟨pa,pc,rfl,-⟩:=ip.open;obtain ⟨CH,hCH⟩:∃ z,z=aI src prev key q r cur x y:=⟨_,rfl⟩
 rw [<- hCH] at HCh MM;generalize aO src x y 8=b at *
 have hkn:key=false\/key=true:=by cases key <;> simp
 clear is ic ip hs hc hp hx hy hq hr NS sb hCH NC NE hW hH;have NI:Hid (ae [] w ((((w.alloc (.cells #[src.W,src.H,.slice sa src.pix.length sc] 24)).alloc (.cells #[cur.W,cur.H,.slice ca cur.pix.length cc] 24)).alloc (.cells #[prev.W,prev.H,.slice pa prev.pix.length pc] 24)).alloc (.cells #[(),(),(),(),(),(),(),(),JEu,JEu,JEu,JEu,JEu] 76))):=lh ((((ae.new w _).alloc _).alloc _).alloc _);have Ou:Hid (((((w.alloc (.cells #[src.W,src.H,.slice sa src.pix.length sc] 24)).alloc (.cells #[cur.W,cur.H,.slice ca cur.pix.length cc] 24)).alloc (.cells #[prev.W,prev.H,.slice pa prev.pix.length pc] 24)).alloc (.cells #[(),(),(),(),(),(),(),(),JEu,JEu,JEu,JEu,JEu] 76)).heap[w.heap.size]?=some (.cells #[src.W,src.H,.slice sa src.pix.length sc] 24 (0,0))):=lh ((((ae.new (w.alloc _) _).alloc _).alloc _).row (heap_alloc_new w _));have OE:Hid (((((w.alloc (.cells #[src.W,src.H,.slice sa src.pix.length sc] 24)).alloc (.cells #[cur.W,cur.H,.slice ca cur.pix.length cc] 24)).alloc (.cells #[prev.W,prev.H,.slice pa prev.pix.length pc] 24)).alloc (.cells #[(),(),(),(),(),(),(),(),JEu,JEu,JEu,JEu,JEu] 76)).heap[w.heap.size+1]?=some (.cells #[cur.W,cur.H,.slice ca cur.pix.length cc] 24 (0,0))):=lh (((ae.new ((w.alloc _).alloc _) _).alloc _).row (ak Mg));have Pl:Hid (((((w.alloc (.cells #[src.W,src.H,.slice sa src.pix.length sc] 24)).alloc (.cells #[cur.W,cur.H,.slice ca cur.pix.length cc] 24)).alloc (.cells #[prev.W,prev.H,.slice pa prev.pix.length pc] 24)).alloc (.cells #[(),(),(),(),(),(),(),(),JEu,JEu,JEu,JEu,JEu] 76)).heap[w.heap.size+1+1]?=some (.cells #[prev.W,prev.H,.slice pa prev.pix.length pc] 24 (0,0))):=lh ((ae.new (((w.alloc _).alloc _).alloc _) _).row (ak Mg));have Zh:Hid (bI (w.heap.size+1+1+1) ((((w.alloc (.cells #[src.W,src.H,.slice sa src.pix.length sc] 24)).alloc (.cells #[cur.W,cur.H,.slice ca cur.pix.length cc] 24)).alloc (.cells #[prev.W,prev.H,.slice pa prev.pix.length pc] 24)).alloc (.cells #[(),(),(),(),(),(),(),(),JEu,JEu,JEu,JEu,JEu] 76)) 0 0 [0,0,0,0] 0 0 aj [aj,aj,aj,aj]):=lh (ak Mg)
 have Xz:Hid (((((w.alloc (.cells #[src.W,src.H,.slice sa src.pix.length sc] 24)).alloc (.cells #[cur.W,cur.H,.slice ca cur.pix.length cc] 24)).alloc (.cells #[prev.W,prev.H,.slice pa prev.pix.length pc] 24)).alloc (.cells #[(),(),(),(),(),(),(),(),JEu,JEu,JEu,JEu,JEu] 76)).heap.size=w.heap.size+1+1+1+1):=lh Mg;obtain ⟨a0,a1,a2⟩:=ag Ou;go_enter Tryz.func31,Tryz.ntmps31;go_wp2_with fail;generalize hW4:World.alloc (World.alloc (World.alloc (World.alloc w _) _) _) _=W4 at *
 clear hW4 a0 a1 a2;go_at_call 67;refine (JcC.out W4 NI).mono ?_;rintro e w5 ⟨bv,rfl,hb5,NF⟩;obtain ⟨gb,bc,rfl,hgb,Jkc⟩:=hb5.form (by rw [HBl.out];omega);rw [HBl.out] at hb5 |-
 have Xs:=lh hb5.ints;have Nz:=lh NF;have JsA:=lh (NF.row Zh);clear hb5 NF hgb Jkc JcC;have Zi:=lh (heap_alloc_new w5 (.cells (sqL 0 0 [0,0,0,0] 0 0 aj [aj,aj,aj,aj]).toArray 76));have HIz:=lh (ia (k:=0) (mo:=0) (ms:=[0,0,0,0]) (vx:=0) (vy:=0) (lv:=aj) (vs:=[aj,aj,aj,aj]) rfl rfl);have HOz:=lh (dO (k:=0) (mo:=0) (ms:=[0,0,0,0]) (vx:=0) (vy:=0) (lv:=aj) rfl iP);have NY:=lh Tryz.underlying76;have hr6:((w5.alloc (.cells #[(),(),(),(),(),(),(),(),JEu,JEu,JEu,JEu,JEu] 76)).alloc (.cells #[()] 3)).heap[w5.heap.size+1]?=some (.cells #[()] 3 (0,0)):=ak Mg;have hs6:bI w5.heap.size ((w5.alloc (.cells #[(),(),(),(),(),(),(),(),JEu,JEu,JEu,JEu,JEu] 76)).alloc (.cells #[()] 3)) 0 0 [0,0,0,0] 0 0 aj [aj,aj,aj,aj]:=(ae.new _ _).row Zi;have Zs:=ae.setRow (S:=[w5.heap.size]) (ae.refl _ ((w5.alloc (.cells #[(),(),(),(),(),(),(),(),JEu,JEu,JEu,JEu,JEu] 76)).alloc (.cells #[()] 3))) (g:=w5.heap.size) (fun _=>Mg) #[(),(),(),(),(),(),(),(),JEu,JEu,JEu,JEu,JEu];have hs7:bI w5.heap.size (((w5.alloc (.cells #[(),(),(),(),(),(),(),(),JEu,JEu,JEu,JEu,JEu] 76)).alloc (.cells #[()] 3)).setRow w5.heap.size #[(),(),(),(),(),(),(),(),JEu,JEu,JEu,JEu,JEu]) 0 0 [0,0,0,0] 0 0 aj [aj,aj,aj,aj]:=setRow_heap ((w5.alloc (.cells #[(),(),(),(),(),(),(),(),JEu,JEu,JEu,JEu,JEu] 76)).alloc (.cells #[()] 3)) w5.heap.size _ #[(),(),(),(),(),(),(),(),JEu,JEu,JEu,JEu,JEu] _ _ hs6;have Xj:=Zs.rowAt hr6 Mg;have cL:(((w5.alloc (.cells #[(),(),(),(),(),(),(),(),JEu,JEu,JEu,JEu,JEu] 76)).alloc (.cells #[()] 3)).setRow w5.heap.size #[(),(),(),(),(),(),(),(),JEu,JEu,JEu,JEu,JEu]).cell? ⟨w5.heap.size+1,0,none⟩=some (.int .i64 0):=by rw [cell_of_row _ _ _ _ _ _ Xj];rfl
 have fL:=frozen_of_row _ (w5.heap.size+1) 0 _ _ Xj;have hr8:=heap_setCell_same _ (w5.heap.size+1) 0 _ _ (.int .i64 (-1)) Xj;have QG:ae [w5.heap.size+1] (((w5.alloc (.cells #[(),(),(),(),(),(),(),(),JEu,JEu,JEu,JEu,JEu] 76)).alloc (.cells #[()] 3)).setRow w5.heap.size #[(),(),(),(),(),(),(),(),JEu,JEu,JEu,JEu,JEu]) ((((w5.alloc (.cells #[(),(),(),(),(),(),(),(),JEu,JEu,JEu,JEu,JEu] 76)).alloc (.cells #[()] 3)).setRow w5.heap.size #[(),(),(),(),(),(),(),(),JEu,JEu,JEu,JEu,JEu]).setCell ⟨w5.heap.size+1,0,none⟩ (.int .i64 (-1))):=(ae.refl _ _).setCell Mg _;have OY:Hid (mQ w5.heap.size (w5.heap.size+1) (w5.heap.size+1+1) ((((w5.alloc (.cells #[(),(),(),(),(),(),(),(),JEu,JEu,JEu,JEu,JEu] 76)).alloc (.cells #[()] 3)).setRow w5.heap.size #[(),(),(),(),(),(),(),(),JEu,JEu,JEu,JEu,JEu]).setCell ⟨w5.heap.size+1,0,none⟩ (.int .i64 (-1))) (sq0,-1)):=lh ⟨hr8,⟨aj,[aj,aj,aj,aj],QG.rowAt hs7 Mg,⟨ah.nil _ _ _ _,rfl,fun i hi=>by
  match i,hi with
  | 0,_=>exact ah.nil _ _ _ _
  | 1,_=>exact ah.nil _ _ _ _
  | 2,_=>exact ah.nil _ _ _ _
  | 3,_=>exact ah.nil _ _ _ _⟩⟩,rfl,⟨Mf,Mf,Mf⟩⟩
 have QQ:Hid (ae [] w5 ((((w5.alloc (.cells #[(),(),(),(),(),(),(),(),JEu,JEu,JEu,JEu,JEu] 76)).alloc (.cells #[()] 3)).setRow w5.heap.size #[(),(),(),(),(),(),(),(),JEu,JEu,JEu,JEu,JEu]).setCell ⟨w5.heap.size+1,0,none⟩ (.int .i64 (-1)))):=lh ((((ae.new w5 _).alloc _).trans Zs (U:=[]) Mg (fun g hg MO=>Mj)).trans QG (U:=[]) Mg (fun g hg MO=>Mj));have ZU:Hid ((((((w5.alloc (.cells #[(),(),(),(),(),(),(),(),JEu,JEu,JEu,JEu,JEu] 76)).alloc (.cells #[()] 3)).setRow w5.heap.size #[(),(),(),(),(),(),(),(),JEu,JEu,JEu,JEu,JEu]).setCell ⟨w5.heap.size+1,0,none⟩ (.int .i64 (-1)))).heap.size=w5.heap.size+1+1):=lh (by simp [World.setCell,World.setRow]);clear hr6 hs6 Zs hs7 Xj hr8 QG;go_upto_if 36 with (first
  | (refine aq rfl (.tmp 18) (.tmp 33) 76 rfl rfl rfl ((ae.new _ _).row Zi) HIz rfl HOz ?_)
  | fail)
 clear cL fL Zi;generalize hW8:World.setCell (World.setRow _ _ _) _ _=W8 at *
 clear hW8;have HB8:Hid (ah .i64 w5.heap.size w5.heap.size w5 .nilIface []->True):=lh (fun _=>trivial);have Sn:=lh (Xs.quiet QQ);have RU:=lh ((NI.q Nz).q QQ);have SK:Hid (w.heap.size+1+1+1+1<=w5.heap.size):=lh (by have:=Nz.size;have:=Xz.out;omega);obtain ⟨BQ,hBQ⟩:∃ z,z=w5.heap.size:=⟨_,rfl⟩
 rw [<- hBQ] at OY Sn ZU SK |-
 have Jbu:=lh ((Nz.q QQ).row Ou);have Ui:=lh ((Nz.q QQ).row OE);have Uj:=lh ((Nz.q QQ).row Pl);have Uk:=lh ((Nz.q QQ).row Zh);clear Xs Nz QQ Ou OE Pl Zh JsA Xz hBQ HB8;go_cut [] (fun wx=>∃ (rr:SqD×Int),Hid (mQ BQ (BQ+1) (BQ+1+1) wx rr)/\Hid (CH=ik cur b x y q rr)/\Hid (ae [BQ+1,BQ] W8 wx))
 case first =>
  rcases hkn with rfl | rfl
  ·have Zx:Hid (CH=if pS prev b x y q then sq0 else ik cur b x y q (ij prev b x y q r)):=lh (by rw [HCh.out];simp)
   rw [Yp.out,<- JQ] at Zx;obtain ⟨p0,p1,p2⟩:=ag Uj;go_wp2_with fail;go_at_call 71;refine (Zv.out (by first | rfl | trivial) W8 RU 0 0 Mf Mf).mono ?_;rintro e w9 ⟨v9,rfl,Oc,Rm⟩;obtain ⟨g9,c9,rfl,-,-⟩:=Oc.form (by rw [Ux.out];omega);rw [Ux.out] at Oc |-
   have HO9:=lh Oc;have Ph:=lh Rm;clear Oc Rm p0 p1 p2;go_wp2_with fail;go_at_call 70;refine (Qk.out (by first | rfl | trivial) w9 _ _ _ _ _ _ 0 0 (Sn.quiet Ph) HO9.ints).mono ?_;rintro e Sa ⟨Zu,rfl,RP,QI⟩;have WC:=Qw.out (by first | rfl | trivial) 0 0;obtain ⟨L0,hL0⟩:∃ z,z=bA b (ar prev x y 8 0 0) q:=⟨_,rfl⟩
   rw [<- hL0] at RP WC Zx;obtain ⟨g10,c10,rfl,-,-⟩:=RP.form Mf;rw [WC] at RP |-
   have Qo:=lh RP;have NJ:=lh (Ph.q QI);have Hl0:=lh WC;clear RP QI WC hL0;go_wp2_with fail;have JbQ:=JnF.out Sa _ _ _ L0 Qo.ints (by rw [Hl0.out];omega);rw [show (8*8:Nat)=64 from rfl] at *
   go_at_call 69;refine JbQ.mono ?_;rintro e Qt ⟨rfl,Tk⟩;have PY:=lh (NJ.q Tk);clear Tk JbQ;cases hz:(!L0.any nzB) with
   | true =>
    have UW:CH=sq0:=by rw [Zx.out,hz];rfl
    rw [UW] at MM;obtain ⟨XK,WJ,YS,Um⟩:=(OY.quiet PY).best;have RI:=lh YS;have ZA:=lh Um;have WM:=lh (ia (k:=0) (mo:=0) (ms:=[0,0,0,0]) (vx:=0) (vy:=0) (lv:=XK) (vs:=WJ) rfl Um.len);have ZI:=lh (dO (k:=0) (mo:=0) (ms:=[0,0,0,0]) (vx:=0) (vy:=0) (lv:=XK) (vs:=WJ) Um.one.1 Um.one.2);have Ul:=lh (dh (k:=0) (mo:=0) (ms:=[0,0,0,0]) (vx:=0) (vy:=0) (lv:=aj) (vs:=[aj,aj,aj,aj]) (k':=0) (mo':=0) (ms':=[0,0,0,0]) (vx':=0) (vy':=0) (lv':=XK) (vs':=WJ) rfl rfl rfl Um.len);have ZP:=lh (PY.row Uk);have RB:=lh (show bI (w.heap.size+1+1+1) (Qt.setRow (w.heap.size+1+1+1) (sqL 0 0 [0,0,0,0] 0 0 XK WJ).toArray) 0 0 [0,0,0,0] 0 0 XK WJ from setRow_heap Qt (w.heap.size+1+1+1) _ _ _ _ ZP);have Sg:=lh (ae.setRow (S:=[w.heap.size+1+1+1]) (ae.refl _ Qt) (g:=w.heap.size+1+1+1) (fun _=>Mg) (sqL 0 0 [0,0,0,0] 0 0 XK WJ).toArray);clear YS Um hz UW
    go_wp2_with (first
     | (refine az rfl (.tmp 18) 76 rfl rfl RI NY rfl WM ?_)
     | (refine aq rfl (.tmp 16) (.tmp 46) 76 rfl rfl rfl ZP WM Ul ZI ?_)
     | fail)
    refine bodyPost_ret (v:=.agg (sqL 0 0 [0,0,0,0] 0 0 XK WJ).toArray) (results_cell_row Tryz.results31 _ _ (w.heap.size+1+1+1) _ _ _ _ rfl RB NY rfl WM) rfl (MM.out _ _ ⟨XK,WJ,rfl,rfl,?_,?_⟩)
    ·have h3:=ZA.only Sg (fun g hg=>by rw [mSg] at hg;have:=SK.out;have:=ZU.out;exact .inl Mf)
     exact Ib
    ·exact (RU.q PY).trans Sg (U:=[]) Mg (fun g hg MO=>Mj)
   | false =>
    have UW:CH=ik cur b x y q (ij prev b x y q r):=by rw [Zx.out,hz];simp
    have Og:=lh UW;clear UW hz Zx;have HSe:=lh (JcY.out (by first | rfl | trivial) Qt (RU.q PY) _ _ _ (Sn.quiet PY) (by have:=PY.size;have:=ZU.out;omega));generalize aZ prev b x y r=SS at *
    obtain ⟨SX,SY,SC⟩:=SS;obtain ⟨o1,o2,o3,o4⟩:=JcZ.out;simp only at o1 o2 o3 o4 HSe XW;obtain ⟨p0,p1,p2⟩:=ag (PY.row Uj);go_wp2_with fail;go_at_call 72;refine HSe.mono ?_;rintro e XM ⟨rfl,Vd⟩;have Ov:=lh (PY.q Vd);clear Vd HSe p0 p1 p2;have Oh:=lh (ae.new XM (.cells #[SX,SY] 73));have HRv:=lh (heap_alloc_new XM (.cells #[SX,SY] 73));obtain ⟨p0,p1,p2⟩:=ag ((Ov.q Oh).row Uj);obtain ⟨v0,v1,-⟩:=aJ HRv;go_wp2_with fail;generalize Jdy:World.alloc XM _=W13 at *
    clear Jdy p0 p1 p2 v0 v1;have Sd:=lh (Ov.q Oh);have HVb:Hid (W8.heap.size<=XM.heap.size):=lh Ov.size;generalize XM.heap.size=VB at *
    clear Oh;go_at_call 71;refine (Zv.out (by first | rfl | trivial) W13 (RU.q Sd) SX SY ⟨o1,o2⟩ ⟨o3,o4⟩).mono ?_;rintro e PL ⟨v14,rfl,Wd,QV⟩;obtain ⟨g14,c14,rfl,-,-⟩:=Wd.form (by rw [Ux.out];omega);rw [Ux.out] at Wd |-
    try rw [show (8*8:Nat)=64 from rfl] at Wd |-
    have Tw:=lh Wd.ints;have SU:=lh (Sd.q QV);have UE:=lh (QV.row HRv);clear Wd QV HRv;obtain ⟨v0,v1,-⟩:=aJ UE;go_wp2_with fail;go_at_call 73;refine (SQ.out (by first | rfl | trivial) PL _ _ _ _ _ _ SX SY ⟨o1,o2⟩ ⟨o3,o4⟩ Tw (Sn.quiet SU)).mono ?_;rintro e w15 ⟨rfl,TM⟩;have OC:=lh (SU.q TM);have JcE:=lh (Tw.quiet TM);have JcW:=lh (TM.row UE);clear TM UE Tw v0 v1;obtain ⟨v0,v1,-⟩:=aJ JcW;have HLm:=lh (Qw.out (by first | rfl | trivial) SX SY);generalize hcm:dX (ar prev x y 8 SX SY) b SX SY=CM at *
    go_wp2_with fail;have HVn:Hid (VB∉[BQ+1,BQ]):=lh (by have:=HVb.out;have:=ZU.out;simp only [Lh,Li,or_false];omega);refine wp_region_held_drew (S:=(fun w'=>w'.cell? ⟨VB,0,none⟩=some (.int .i64 SX)/\w'.cell? ⟨VB,1,none⟩=some (.int .i64 SY))) Mh ?_ (fun hHeld=>?_)
    ·exact ⟨v0,v1⟩
    refine tk 0 68 ?_;refine tk 1 69 ?_;refine tk 2 70 ?_;refine tk 3 71 ?_;refine tk 4 72 ?_;refine tk 7 75 ?_;refine rdy (rdc 5 73 (fun K hK=>?_) .nil);go_simp;go_at_call 70;refine (Qk.out (by first | rfl | trivial) _ _ _ _ _ _ _ SX SY (Sn.quiet OC.drew) (JcE.quiet (ae.refl [] _).drew)).mono ?_;rintro e w16 ⟨v16,rfl,We,Wh⟩;obtain ⟨g16,c16,rfl,-,-⟩:=We.form (by rw [HLm.out];omega);rw [HLm.out] at We |-
    try rw [show (8*8:Nat)=64 from rfl] at We |-
    have UX:=(ae.refl [] w15).drew.q Wh;have JiH:=lh We;have Yh:=lh (OC.q UX);clear We Wh;refine hK.out _ _ ?_ (fun hHeld=>?_)
    ·exact ⟨UX.cell v0 Mg,UX.cell v1 Mg⟩
    clear hK K
    try simp only [Act.put,Lg,Lj,Lk]
    refine tk 6 74 ?_;refine rdy (rdc 8 76 (fun K hK=>?_) .nil);go_simp;have YI:dU (BQ+1+1) w16.heap.size w16 (.slice (some ⟨g16,0,none⟩) 64 c16) [aj,aj,aj,aj] (bA b (ar prev x y 8 SX SY) q) [[],[],[],[]]:=⟨JiH.ints.mono (by have:=OC.size;have:=ZU.out;simp only [show w15.drew.heap.size=w15.heap.size from rfl];omega) (Lm _),rfl,fun i hi=>by
     match i,hi with
     | 0,_=>exact ah.nil _ _ _ _
     | 1,_=>exact ah.nil _ _ _ _
     | 2,_=>exact ah.nil _ _ _ _
     | 3,_=>exact ah.nil _ _ _ _⟩
    have htk:=nc (s:=⟨1,0,[0,0,0,0],SX,SY,bA b (ar prev x y 8 SX SY) q,[[],[],[],[]]⟩) (c:=CM) (OY.quiet Yh) rfl YI;go_at_call 68;refine htk.mono ?_;rintro e w17 ⟨rfl,JoG,Wi⟩;have Jij:=lh JoG;have JiX:=lh Wi;have e0:=Wi.cell (UX.cell v0 Mg) HVn;have e1:=Wi.cell (UX.cell v1 Mg) HVn;clear JoG Wi htk YI;refine hK.out _ _ ?_ (fun hHeld=>?_)
    ·exact ⟨e0,e1⟩
    clear hK K
    try simp only [Act.put,Lg,Lj,Lk]
    refine wpAnyH_done Mh ?_ _;go_wp2_with fail;go_meet;refine ⟨ij prev b x y q r,lh ?_,Og,lh ((Yh.mono (U:=[BQ+1,BQ]) Mg).trans JiX (fun _ h _=>h) (fun _ h _=>h))⟩;rw [XW.out];exact Jij
  ·go_wp2_with fail
   go_meet;exact ⟨(sq0,-1),OY,lh (by rw [HCh.out];simp),lh (ae.refl _ _)⟩
 case rest =>
  obtain ⟨rr,HBc,Vk,Xx⟩:=hcut;obtain ⟨W9,hW9⟩:∃ z,z=wc:=⟨_,rfl⟩
  subst hW9;rw [Ix] at Vk;have Ph:Hid (ae [] w W9):=lh (RU.trans Xx (U:=[]) Mg (fun g hg MO=>by have:=SK.out;simp only [Lh,Li,or_false] at hg;omega));have HI9:=lh (Sn.only Xx (fun g hg=>by simp only [Lh,Li,or_false] at hg;omega));have HK:Hid (w.heap.size+1∉[BQ+1,BQ]/\w.heap.size+1+1+1∉[BQ+1,BQ]):=lh (by have:=SK.out;simp only [Lh,Li,or_false];omega);have Yn:=lh (Xx.rowAt Ui HK.1);have VA:=lh (Xx.rowAt Uk HK.2);have hz9:=Xx.size;have HZ9:Hid (BQ+1+1<=W9.heap.size):=lh (by have:=ZU.out;omega);clear hz9 Xx Ui Uk RU OY Sn Jbu Uj XW Yp Zv Qk Qw JnF JcY JcZ SQ HCh Ux;have PS:=lh (Vy.out W9 Ph _ _ _ HI9);obtain ⟨bs0,bs1⟩:=PG;obtain ⟨BA,hBA⟩:∃ z,z=aG cur b x y 8:=⟨_,rfl⟩
  rw [<- hBA] at PS Vk bs0 bs1;obtain ⟨bm,bs⟩:=BA;simp only at PS Vk bs0 bs1;generalize fp cur b x y 8 q=L at *
  have e1:IntKind.i64.wrap (4*bs)=4*bs:=Mi;have e2:IntKind.i64.wrap (4*bs+8)=4*bs+8:=Mi;obtain ⟨c0,c1,c2⟩:=ag Yn;clear hBA Vy;go_wp2_with fail;go_at_call 74;refine PS.mono ?_;rintro e Sa ⟨Zu,rfl,RP,QI⟩;obtain ⟨g10,c10,rfl,-,-⟩:=RP.form (by rw [ST.out];omega);rw [ST.out] at RP |-
  try rw [show (8*8:Nat)=64 from rfl] at RP |-
  have Qo:=lh RP;have NJ:=lh QI;clear RP QI PS c0 c1 c2;go_wp2_with fail;have Wx:dU (BQ+1+1) Sa.heap.size Sa (.slice (some ⟨g10,0,none⟩) 64 c10) [aj,aj,aj,aj] L [[],[],[],[]]:=⟨Qo.ints.mono HZ9 (Lm _),rfl,fun i hi=>by
   match i,hi with
   | 0,_=>exact ah.nil _ _ _ _
   | 1,_=>exact ah.nil _ _ _ _
   | 2,_=>exact ah.nil _ _ _ _
   | 3,_=>exact ah.nil _ _ _ _⟩
  have htk:=nc (s:=⟨2,bm,[0,0,0,0],0,0,L,[[],[],[],[]]⟩) (c:=4*bs+8) (HBc.quiet NJ) rfl Wx;go_at_call 68;refine htk.mono ?_;rintro e Qt ⟨rfl,JoE,Tk⟩;have Jfg:=lh JoE;have PY:Hid (ae [BQ+1,BQ] W9 Qt):=lh ((NJ.mono (U:=[BQ+1,BQ]) Mg).trans Tk (fun _ h _=>h) (fun _ h _=>h));clear JoE Tk htk Wx Qo NJ HBc e1 e2;have JmZ:Hid (ae [] w Qt):=lh (Ph.trans PY (U:=[]) Mg (fun g hg MO=>by have:=SK.out;simp only [Lh,Li,or_false] at hg;omega));have JrN:=lh (HI9.only PY (fun g hg=>by simp only [Lh,Li,or_false] at hg;omega));obtain ⟨c0,c1,c2⟩:=ag (PY.rowAt Yn HK.1);have HFo:=lh (JcB.out Qt JmZ _ _ _ JrN);generalize ew cur b x y q=FE at *
  obtain ⟨ms,ls,cost⟩:=FE;simp only at HFo Vk;clear JcB;go_wp2_with fail;go_at_call 75;refine HFo.mono ?_;rintro e XM ⟨vs,rfl,NV,Wy,Vd⟩;have PA:=lh NV;have Uz:=lh Wy;have Ov:=lh Vd;clear NV Wy Vd c0 c1 c2 HFo;go_wp2_with fail;have JhF:dU (BQ+1+1) XM.heap.size XM aj vs [] ls:=⟨Uz.large.mono (by have:=HZ9.out;have:=PY.size;omega) (Lm _),Uz.len,fun i hi=>(Uz.small i hi).mono (by have:=HZ9.out;have:=PY.size;omega) (Lm _)⟩
  have htk:=nc (s:=⟨3,0,ms,0,0,[],ls⟩) (c:=cost) (Jfg.quiet Ov) PA JhF;go_at_call 68;refine htk.mono ?_;rintro e w13 ⟨rfl,JoF,YR⟩;have hqa:ae [BQ+1,BQ] W9 w13:=(PY.trans Ov (U:=[BQ+1,BQ]) (fun _ h _=>h) Mg).trans YR (fun _ h _=>h) (fun _ h _=>h);have HQa:=lh hqa;have Jcs:=lh JoF;clear JoF YR htk JhF hqa Jfg Ov Uz;generalize dK (dK rr _ _) _ _=RR at *
  obtain ⟨lvF,vsF,hrF,JbI⟩:=Jcs.best;have HmF:=lh Jcs.ml;have HRF:=lh hrF;have HIF:=lh JbI;obtain ⟨SF,cF⟩:=RR;simp only at Vk;rw [Vk.out] at MM;have WM:=lh (ia (k:=SF.kind) (mo:=SF.mode) (vx:=SF.vx) (vy:=SF.vy) (lv:=lvF) HmF JbI.len);have ZI:=lh (dO (k:=SF.kind) (mo:=SF.mode) (ms:=SF.modes) (vx:=SF.vx) (vy:=SF.vy) (lv:=lvF) (vs:=vsF) JbI.one.1 JbI.one.2);have Ul:=lh (dh (k:=0) (mo:=0) (ms:=[0,0,0,0]) (vx:=0) (vy:=0) (lv:=aj) (vs:=[aj,aj,aj,aj]) (k':=SF.kind) (mo':=SF.mode) (ms':=SF.modes) (vx':=SF.vx) (vy':=SF.vy) (lv':=lvF) (vs':=vsF) rfl rfl HmF JbI.len);have Jns:=lh (HQa.rowAt VA HK.2);have RB:=lh (show bI (w.heap.size+1+1+1) (w13.setRow (w.heap.size+1+1+1) (sqL SF.kind SF.mode SF.modes SF.vx SF.vy lvF vsF).toArray) SF.kind SF.mode SF.modes SF.vx SF.vy lvF vsF from setRow_heap w13 (w.heap.size+1+1+1) _ _ _ _ Jns);have Sg:=lh (ae.setRow (S:=[w.heap.size+1+1+1]) (ae.refl _ w13) (g:=w.heap.size+1+1+1) (fun _=>Mg) (sqL SF.kind SF.mode SF.modes SF.vx SF.vy lvF vsF).toArray);clear hrF JbI Jcs
  go_wp2_with (first
   | (refine az rfl (.tmp 18) 76 rfl rfl HRF NY rfl WM ?_)
   | (refine aq rfl (.tmp 16) (.tmp 105) 76 rfl rfl rfl Jns WM Ul ZI ?_)
   | fail)
  refine bodyPost_ret (v:=.agg (sqL SF.kind SF.mode SF.modes SF.vx SF.vy lvF vsF).toArray) (results_cell_row Tryz.results31 _ _ (w.heap.size+1+1+1) _ _ _ _ rfl RB NY rfl WM) rfl (MM.out _ _ ⟨lvF,vsF,rfl,HmF.out,?_,?_⟩)
  ·have h3:=HIF.only Sg (fun g hg=>by rw [mSg] at hg;have:=SK.out;exact .inl Mf)
   exact Ib
  ·exact (Ph.trans HQa (U:=[]) Mg (fun g hg MO=>by have:=SK.out;simp only [Lh,Li,or_false] at hg;omega)).trans Sg (U:=[]) Mg (fun g hg MO=>Mj)
end
def JP (src prev:ai) (key:Bool) (qp reach:Int) (w:World) (e:Ending) (w':World):Prop :=
 ae [] w w'/\match bP src prev key qp reach with
  | some k=>e=.returned (.tuple #[.agg #[(),JEu],.agg #[(),(),JEu],.iface 36 (.int .i64 k)])
  | none=>∃ dv fv,e=.returned (.tuple #[.agg #[.int .i64 (bT src prev key qp reach.toNat).kind,dv],.agg #[src.W,src.H,fv],.nilIface])/\ah .u8 w.heap.size w'.heap.size w' dv (bT src prev key qp reach.toNat).data/\ah .i64 w.heap.size w'.heap.size w' fv (cG src prev key qp reach.toNat).1.pix
theorem fK {src prev:ai} {key:Bool} {qp reach:Int} (h:bP src prev key qp reach=none):FrOk src/\(key=false->eP prev src.W src.H=true)/\0<=qp/\qp<=15/\0<=reach/\reach<=7:=by
 unfold bP at h
 split at h
 ·cases h
 rename_i h1
 split at h
 ·cases h
 rename_i h2
 split at h
 ·cases h
 rename_i h3
 refine ⟨dL.1 (by simpa using h1),fun hk=>?_,Mf,Mf,Mf,Mf⟩;rw [hk] at h2;simpa using h2
theorem jE {p:ai} {W H:Int} (h:eP p W H=true):FrOk p/\p.W=W/\p.H=H:=by
 unfold eP at h;rw [Bool.and_eq_true,Bool.and_eq_true,dL,decide_eq_true_eq,decide_eq_true_eq] at h;exact ⟨h.1.1,h.1.2,h.2⟩
theorem DY (a c d:Nat):(d*a+c)*8=(8*a)*d+8*c:=by
 have e:8*a*d=8*(d*a):=by rw [Nat.mul_assoc,Nat.mul_comm a d]
 omega
theorem uf (a c d:Nat):((d*a+c:Nat):Int)*8=(((8*a)*d+8*c:Nat):Int):=by
 rw [<- DY,Int.natCast_mul];rfl
theorem Jq {a c d:Nat} (h:c<a):(((d*a+c:Nat):Int)*8) % ((8*a:Nat):Int)=((8*c:Nat):Int):=by
 rw [uf,<- Int.natCast_emod,Nat.mul_add_mod,Nat.mod_eq_of_lt Mf]
theorem Jr {a c d:Nat} (h:c<a):(((d*a+c:Nat):Int)*8) / ((8*a:Nat):Int)=(d:Int):=by
 rw [uf,<- Int.natCast_ediv,Nat.add_comm,Nat.add_mul_div_left _ _ Mf,Nat.div_eq_of_lt Mf,Nat.zero_add]
theorem zx {key:Bool} {prev f:ai} {qp:Int} {ch:ai->Int->Int->SqD} {m:Wrt} {a c d k:Nat} (hW:f.W=((8*a:Nat):Int)) (hc:c<a):encGo key prev qp ch (k+1) (d*a+c) f m =
  encGo key prev qp ch k (d*a+c+1) (bf f prev (8*(c:Int)) (8*(d:Int)) qp (ch f (8*(c:Int)) (8*(d:Int)))) (di wrC key (df (ch f (8*(c:Int)) (8*(d:Int)))) m).2:=by
 rw [encGo,hW,Jq hc,Jr hc,show (d:Int)*8=8*(d:Int) from Int.mul_comm _ _,show ((8*c:Nat):Int)=8*(c:Int) by omega]
theorem pO {base R E:Nat} {F S:List Nat} {w w':World} {m:Wrt} (h:(pcWrite base R E).At F w m) (o:ae S w w') (hS:∀ g∈S,g∉F):(pcWrite base R E).At F w' m:=by
 obtain ⟨ov,rfl,hw⟩:=h;exact ⟨ov,rfl,hw.only o hS⟩
theorem rN {base R E:Nat} {F:List Nat} {w:World} {m:Wrt} (h:(pcWrite base R E).At F w m):∀ g∈F,base<=g:=by
 obtain ⟨ov,rfl,hw⟩:=h;exact fun g hg=>(hw.lt g hg).1
theorem fQ {w:World} {gc gf:Nat} {a b c d e x y u v z:Value} {t t':TypeId} (hc:w.heap[gc]?=some (.cells #[a,b] t (0,0))) (hf:w.heap[gf]?=some (.cells #[c,d,e] t' (0,0))) (OT:gc≠gf) :
  (((((w.setCell ⟨gc,0,none⟩ x).setCell ⟨gc,1,none⟩ y).setCell ⟨gf,0,none⟩ u).setCell ⟨gf,1,none⟩ v).setCell ⟨gf,2,none⟩ z).heap[gc]?=some (.cells #[x,y] t (0,0)) /\
  (((((w.setCell ⟨gc,0,none⟩ x).setCell ⟨gc,1,none⟩ y).setCell ⟨gf,0,none⟩ u).setCell ⟨gf,1,none⟩ v).setCell ⟨gf,2,none⟩ z).heap[gf]?=some (.cells #[u,v,z] t' (0,0)) /\
  ae [gc,gf] w (((((w.setCell ⟨gc,0,none⟩ x).setCell ⟨gc,1,none⟩ y).setCell ⟨gf,0,none⟩ u).setCell ⟨gf,1,none⟩ v).setCell ⟨gf,2,none⟩ z):=by
 obtain ⟨h1,o1⟩:=aH (x:=x) (y:=y) hc;have h2:=o1.rowAt hf (by simp;exact Ne.symm OT);have h3:=heap_setCell_same _ gf 0 _ _ u h2;have h4:=heap_setCell_same _ gf 1 _ _ v h3;have h5:=heap_setCell_same _ gf 2 _ _ z h4;have o2:ae [gf] ((w.setCell ⟨gc,0,none⟩ x).setCell ⟨gc,1,none⟩ y) (((((w.setCell ⟨gc,0,none⟩ x).setCell ⟨gc,1,none⟩ y).setCell ⟨gf,0,none⟩ u).setCell ⟨gf,1,none⟩ v).setCell ⟨gf,2,none⟩ z):=(((ae.refl _ _).setCell Mg _).setCell Mg _).setCell Mg _;exact ⟨o2.rowAt h1 (by simp;exact OT),h5,o1.trans o2 (fun g h _=>by rw [mSg] at h;subst h;simp) (fun g h _=>by rw [mSg] at h;subst h;simp)⟩
theorem ei {P:Program} {fn:Func} {p q r:Tmp} {ty ty':TypeId} (h:fn.results=#[.cell p ty,.cell q ty',.tmp r]) (Oe:Array Value) (w:World) (g g':Nat) (t t':TypeId) (cs cs':Array Value) (fr fr':Nat×Nat) (d d':TypeDesc) (v:Value)
  (hp:Oe.getD p undef=.pointer (some ⟨g,0,none⟩)) (hq:Oe.getD q undef=.pointer (some ⟨g',0,none⟩)) (hr:Oe.getD r undef=v) (hg:w.heap[g]?=some (.cells cs t fr)) (hg':w.heap[g']?=some (.cells cs' t' fr'))
  (hu:P.underlying ty=some d) (hd:(match d with | .struct _ | .array _ _=>true | _=>false)=true) (hi:(P.info? ty).map (·.size)=some cs.size)
  (hu':P.underlying ty'=some d') (hd':(match d' with | .struct _ | .array _ _=>true | _=>false)=true) (hi':(P.info? ty').map (·.size)=some cs'.size) :
  (results fn Oe).run P w=.ok (.tuple #[.agg cs,.agg cs',v]) w:=by
 have hp':Oe[p]?.getD undef=.pointer (some ⟨g,0,none⟩):=MD;have hq':Oe[q]?.getD undef=.pointer (some ⟨g',0,none⟩):=ME;have hr':Oe[r]?.getD undef=v:=ML;simp [results,h,hp',hq',hr',asAddr,run_loadVar_row w g t ty cs fr d hg hu hd hi,run_loadVar_row w g' t' ty' cs' fr' d' hg' hu' hd' hi']
theorem gR {w:World} {g:Nat} {x} (h:w.heap[g]?=x):w.drew.heap[g]?=x:=h
section
theorem jV {lo hi lo' hi':Nat} {sv pv:Value} {src prev:ai} {w:World} (key:Bool) (qp reach:Int) (hs:ah .i64 lo hi w sv src.pix) (hp:ah .i64 lo' hi' w pv prev.pix) (hh:hi<=w.heap.size) (UZ:hi'<=w.heap.size) :
  Calls Tryz.prog 9 #[.agg #[src.W,src.H,sv],.agg #[prev.W,prev.H,pv],.bool key,qp,reach] w (JP src prev key qp reach w):=by
 refine aN fun Q MM=>?_
 have HCk:=lh (fun (W:World) (o:ae [] w W)=>zu key qp reach (hs.quiet o) (hp.quiet o));have HS:=lh hs;have HP:=lh hp;obtain ⟨sa,sc,rfl,-⟩:=hs.open;obtain ⟨pa,pc,rfl,-⟩:=hp.open;have NI:Hid (ae [] w ((((w.alloc (.cells #[src.W,src.H,.slice sa src.pix.length sc] 24)).alloc (.cells #[prev.W,prev.H,.slice pa prev.pix.length pc] 24)).alloc (.cells #[(),JEu] 31)).alloc (.cells #[(),(),JEu] 24))):=lh ((((ae.new w _).alloc _).alloc _).alloc _);have Ou:Hid (((((w.alloc (.cells #[src.W,src.H,.slice sa src.pix.length sc] 24)).alloc (.cells #[prev.W,prev.H,.slice pa prev.pix.length pc] 24)).alloc (.cells #[(),JEu] 31)).alloc (.cells #[(),(),JEu] 24)).heap[w.heap.size]?=some (.cells #[src.W,src.H,.slice sa src.pix.length sc] 24 (0,0))):=lh ((((ae.new (w.alloc _) _).alloc _).alloc _).row (heap_alloc_new w _));have Pl:Hid (((((w.alloc (.cells #[src.W,src.H,.slice sa src.pix.length sc] 24)).alloc (.cells #[prev.W,prev.H,.slice pa prev.pix.length pc] 24)).alloc (.cells #[(),JEu] 31)).alloc (.cells #[(),(),JEu] 24)).heap[w.heap.size+1]?=some (.cells #[prev.W,prev.H,.slice pa prev.pix.length pc] 24 (0,0))):=lh (((ae.new ((w.alloc _).alloc _) _).alloc _).row (ak Mg));have OE:Hid (((((w.alloc (.cells #[src.W,src.H,.slice sa src.pix.length sc] 24)).alloc (.cells #[prev.W,prev.H,.slice pa prev.pix.length pc] 24)).alloc (.cells #[(),JEu] 31)).alloc (.cells #[(),(),JEu] 24)).heap[w.heap.size+1+1]?=some (.cells #[(),JEu] 31 (0,0))):=lh ((ae.new (((w.alloc _).alloc _).alloc _) _).row (ak Mg));have Pj:Hid (((((w.alloc (.cells #[src.W,src.H,.slice sa src.pix.length sc] 24)).alloc (.cells #[prev.W,prev.H,.slice pa prev.pix.length pc] 24)).alloc (.cells #[(),JEu] 31)).alloc (.cells #[(),(),JEu] 24)).heap[w.heap.size+1+1+1]?=some (.cells #[(),(),JEu] 24 (0,0))):=lh (ak Mg);have Xz:Hid (((((w.alloc (.cells #[src.W,src.H,.slice sa src.pix.length sc] 24)).alloc (.cells #[prev.W,prev.H,.slice pa prev.pix.length pc] 24)).alloc (.cells #[(),JEu] 31)).alloc (.cells #[(),(),JEu] 24)).heap.size=w.heap.size+1+1+1+1):=lh Mg
 have XT:=lh (And.intro hh UZ);obtain ⟨a0,a1,a2⟩:=ag Ou;obtain ⟨b0,b1,b2⟩:=ag Pl;clear hs hp hh UZ;go_enter Tryz.func9,Tryz.ntmps9;go_wp2_with fail;generalize hW4:World.alloc (World.alloc (World.alloc (World.alloc w _) _) _) _=W4 at *
 clear hW4 a0 a1 a2 b0 b1 b2;go_at_call 28;refine (HCk.out W4 NI).mono ?_;rintro e w5 ⟨⟨u,rfl,hu⟩,NF⟩;have Nz:=lh (NI.q NF);have Jbt:=lh (NF.row Ou);have JcU:=lh (NF.row Pl);have Ym:=lh (NF.row OE);have ZM:=lh (NF.row Pj);have SK:Hid (w.heap.size+1+1+1+1<=w5.heap.size):=lh (by have:=NF.size;have:=Xz.out;omega);clear NF Ou Pl OE Pj Xz HCk NI;cases Ra:bP src prev key qp reach with
 | some k =>
  rw [Ra] at hu;have hu':u=.iface 36 (.int .i64 k):=hu;subst hu';have HCK:=lh Ra;clear Ra hu;obtain ⟨t0,t1,y0,y1,-⟩:=aJ Ym;have OT:w.heap.size+1+1≠w.heap.size+1+1+1:=Mf;obtain ⟨hc,hf,ho⟩:=fQ (x:=.int .i64 0) (y:=.slice none 0 0) (u:=.int .i64 0) (v:=.int .i64 0) (z:=.slice none 0 0) Ym ZM OT;obtain ⟨QZ,OU⟩:=aH (x:=.int .i64 0) (y:=.slice none 0 0) Ym;have Qc:=OU.rowAt ZM Mg;obtain ⟨f0,f1,f2⟩:=ag Qc;have g0:=frozen_of_row _ (w.heap.size+1+1+1) 0 _ _ Qc;have g1:=frozen_of_row _ (w.heap.size+1+1+1) 1 _ _ Qc;have g2:=frozen_of_row _ (w.heap.size+1+1+1) 2 _ _ Qc;have HC:=lh hc;have HF:=lh hf;have HO:=lh ho;clear hc hf ho QZ OU Qc;go_wp2_with fail;refine bodyPost_ret (v:=.tuple #[.agg #[(),JEu],.agg #[(),(),JEu],.iface 36 (.int .i64 k)]) (ei Tryz.results9 _ _ (w.heap.size+1+1) (w.heap.size+1+1+1) _ _ _ _ _ _ _ _ _ rfl rfl rfl HC HF Tryz.underlying31 rfl Mh Tryz.underlying24 rfl Mh) rfl (MM.out _ _ ?_);unfold JP;rw [HCK.out];exact ⟨Nz.trans HO Mg (fun g hg MO=>by simp only [Lh,Li,or_false] at hg;omega),rfl⟩
 | none =>
  have hu':u=.nilIface:=by rw [Ra] at hu;exact hu
  subst hu';obtain ⟨Pb,Zr,QH,MP,RQ,Pz⟩:=fK Ra;obtain ⟨q,rfl⟩:=Int.eq_ofNat_of_zero_le QH;obtain ⟨r,rfl⟩:=Int.eq_ofNat_of_zero_le RQ;have hq:q<=15:=Mf;have hr:r<=7:=Mf;have Jbz:=lh hq;have ZK:Hid (∀ e w',ae [] w w'->(∃ dv fv,e=.returned (.tuple #[.agg #[.int .i64 (bT src prev key q r).kind,dv],.agg #[src.W,src.H,fv],.nilIface])/\ah .u8 w.heap.size w'.heap.size w' dv (bT src prev key q r).data/\ah .i64 w.heap.size w'.heap.size w' fv (cG src prev key q r).1.pix)->Q e w'):=lh (fun e w' o h=>MM.out _ _ (by unfold JP;rw [Ra];exact ⟨o,by rw [Int.toNat_natCast];exact h⟩));have hdr:=(lz (q:=q) (reach:=r) Pb Zr hq hr).2;have hpk:key=false->FrOk prev/\prev.W=src.W/\prev.H=src.H:=fun h=>jE (Zr h)
  have hn:io src.W src.H 128=true:=gV.2 ⟨⟨Pb.w0,Pb.w1,Pb.w8⟩,⟨Pb.h0,Pb.h1,Pb.h8⟩,Mn,Mn⟩;obtain ⟨aa,haa⟩:∃ a:Nat,src.W=((8*a:Nat):Int):=⟨(src.W / 8).toNat,by have:=Pb.w0;have:=Pb.w8;omega⟩
  obtain ⟨bb,hbb⟩:∃ b:Nat,src.H=((8*b:Nat):Int):=⟨(src.H / 8).toNat,by have:=Pb.h0;have:=Pb.h8;omega⟩
  have JpW:(src.W*src.H / 64).toNat=bb*aa:=by
   have e:src.W*src.H=((64*(bb*aa):Nat):Int):=by
    rw [haa,hbb,<- Int.natCast_mul,show (8*aa*(8*bb):Nat)=64*(bb*aa) by rw [Nat.mul_mul_mul_comm,Nat.mul_comm aa bb]]
   rw [e];generalize bb*aa=T;omega
  have JcA:Hid (cG src prev key q r=encGo key prev q (aI src prev key q r) (bb*aa) 0 (ed src.W src.H 128) fB):=lh (by unfold cG;rw [JpW]);have Jcx:Hid (bT src prev key q r=⟨if key then 1 else 2,(q:Int) :: gS (cG src prev key q r).2⟩):=lh rfl;have TU:Hid ((gS (cG src prev key q r).2).length<65536):=lh (by have h2:(gS (cG src prev key q r).2).length+1<=65000:=hdr;omega);have ha4:aa<=4/\1<=aa:=by have:=Pb.w1;have:=Pb.w0;omega
  have hb4:bb<=4/\1<=bb:=by have:=Pb.h1;have:=Pb.h0;omega
  have UW:=fun (P:List Int) (hP:FrOk ⟨src.W,src.H,P⟩) (x y:Int)=>jy (src:=src) (prev:=prev) (cur:=⟨src.W,src.H,P⟩) (key:=key) (q:=q) (reach:=r) Pb.sam hP.sam (fun h=>(hpk h).1.sam) hq hr x y
  have HCh:=lh (fun (W:World) (P:List Int) (l1 h1 l2 h2 l3 h3:Nat) (v1 v2 v3:Value) (x y:Int) (hP:FrOk ⟨src.W,src.H,P⟩) (i1:ah .i64 l1 h1 W v1 src.pix) (i2:ah .i64 l2 h2 W v2 P) (i3:ah .i64 l3 h3 W v3 prev.pix) (hx:0<=x/\x+8<=src.W) (hy:0<=y/\y+8<=src.H) (hh:h3<=W.heap.size)=>zk (q:=q) (r:=r) (src:=src) (cur:=⟨src.W,src.H,P⟩) (prev:=prev) key Pb hP hpk rfl rfl i1 i2 i3 x y hx hy hq hr hh);have Ys:=lh UW;have HLy:=lh (fun (W:World) (P:List Int) (base g cap l1 h1 lo hi:Nat) (pv:Value) (s:SqD) (lv:Value) (vs:List Value) (x y:Int) (hP:FrOk ⟨src.W,src.H,P⟩) (h:sW base g cap l1 h1 lo hi W ⟨src.W,src.H,P⟩ prev pv s lv vs) (hw:gC key s) (NV:s.modes.length=4) (hx:0<=x) (NA:x+8<=src.W) (hy:0<=y) (NM:y+8<=src.H)=>DI (q:=q) (mo:=s.mode) (f:=⟨src.W,src.H,P⟩) hP h (fun hk=>(hpk (by cases key with | false=>rfl | true=>have:=hw.key_ rfl;omega)).1) ⟨hw.kind,hw.mode,hw.large,hw.vec,hw.small⟩ (fun _=>rfl) NV hq hx NA hy NM);have HLo:=lh (fun (P:List Int) (hP:FrOk ⟨src.W,src.H,P⟩) (s:SqD) (hw:gC key s) (x y:Int) (hx:0<=x) (NA:x+8<=src.W) (hy:0<=y) (NM:y+8<=src.H)=>(⟨tR (prev:=prev) hP (fun hk=>(hpk (by cases key with | false=>rfl | true=>have:=hw.key_ rfl;omega)).1.sam) hx NA hy NM ⟨hw.kind,hw.mode,hw.large,hw.vec,hw.small⟩ (q:Int),qo ⟨src.W,src.H,P⟩ prev x y q s⟩:FrOk (bf ⟨src.W,src.H,P⟩ prev x y q s)/\(bf ⟨src.W,src.H,P⟩ prev x y q s).W=src.W/\(bf ⟨src.W,src.H,P⟩ prev x y q s).H=src.H));have HNw:=lh (uh src.W src.H 128 w5 hn);have Xt:=lh (lR hn);have Xu:Hid (ed src.W src.H 128=⟨src.W,src.H,(ed src.W src.H 128).pix⟩):=lh rfl;have OX:=lh (fun (P:List Int) (hP:FrOk ⟨src.W,src.H,P⟩)=>(by have h1:(P.length:Int)=src.W*src.H:=hP.len;have h2:((ed src.W src.H 128).pix.length:Int)=src.W*src.H:=(lR hn).len;omega:P.length=(ed src.W src.H 128).pix.length));have HHa:=lh (And.intro haa hbb);obtain ⟨s0,s1,s2⟩:=ag Jbt;rw [Xu.out] at Xt;clear Ra hu QH MP RQ Pz Zr hdr Pb hpk hn JpW UW MM hq hr haa hbb;generalize (ed src.W src.H 128).pix=P0 at *
  generalize P0.length=NL at *
  go_wp2_with fail;go_at_call 29;refine HNw.mono ?_;rintro e w6 ⟨g0,PB,rfl,ho6,Ob⟩;have Xv:=lh ho6;have OI:=lh Ob;have HG0:=lh (ho6.at g0 rfl);clear ho6 Ob HNw s0 s1 s2;have JcM:=lh (heap_alloc_new w6 (.cells #[src.W,src.H,.slice (some ⟨g0,0,none⟩) NL PB] 24));have Oh:=lh (ae.new w6 (.cells #[src.W,src.H,.slice (some ⟨g0,0,none⟩) NL PB] 24));have HZn:Hid (w6.heap.size<(w6.alloc (.cells #[src.W,src.H,.slice (some ⟨g0,0,none⟩) NL PB] 24)).heap.size):=lh Mg;go_wp2_with fail;generalize hW7:World.alloc w6 _=W7 at *
  clear hW7;go_at_call 30;refine (IL W7).mono ?_;rintro e w8 ⟨R,E,rfl,Ts,RZ⟩;have JoC:(pcWrite W7.heap.size R E).At (wrB R E (.slice none 0 0)) w8 fB:=⟨_,rfl,Ts⟩
  have HA8:=lh JoC;have XD:=Ts.lt;obtain ⟨FT,hFT⟩:∃ z,z=wrB R E (.slice none 0 0):=⟨_,rfl⟩
  rw [<- hFT] at HA8 XD;have Qu:=lh XD;obtain ⟨B7,hB7⟩:∃ z,z=W7.heap.size:=⟨_,rfl⟩
  obtain ⟨B6,hB6⟩:∃ z,z=w6.heap.size:=⟨_,rfl⟩
  rw [<- hB7] at HA8 Qu HZn;rw [<- hB6] at HZn JcM HG0 |-
  have HZ:Hid (w.heap.size+1+1+1+1<=w5.heap.size/\w5.heap.size<=g0/\g0<B6/\B6<B7/\B7<=w8.heap.size):=lh ⟨SK,HG0.1,HG0.2,HZn.out,by rw [hB7];exact RZ.size⟩;have Vz:=lh ((OI.q Oh).q RZ);have JiO:=lh (Nz.q Vz);have Jbu:=lh (Vz.row Jbt);have Uj:=lh (Vz.row JcU);have Ui:=lh (Vz.row Ym);have JcT:=lh (Vz.row ZM);have Uk:=lh (RZ.row JcM);have Ur:=lh (((Xv.quiet Oh).quiet RZ).lower (base':=w.heap.size) (Nz.size));have HS8:=lh (HS.quiet JiO);have HP8:=lh (HP.quiet JiO);clear JoC Ts RZ XD hFT hB7 hB6 OI Oh Vz Nz Jbt JcU Ym ZM JcM Xv HG0 HZn SK HS HP;have HK:Hid (∀ g,g<B7->g≠g0->g∉g0 :: FT):=lh (fun g hg OT hm=>by
   rcases List.mem_cons.1 hm with h | h
   ·exact OT h
   ·have:=(Qu.out g h).1;omega)
  go_wp2_with fail;go_loopw [17,18] (fun yv _ wr=>∃ (d:Nat) (P:List Int) (Fk:List Nat) (mk:Wrt),d<=bb/\yv=.int .i64 (8*(d:Int))/\Hid (FrOk ⟨src.W,src.H,P⟩)/\Hid (Own .i64 3 w.heap.size wr (.slice (some ⟨g0,0,none⟩) NL PB) P)/\Hid ((pcWrite B7 R E).At Fk wr mk)/\Hid (WOk (4+2788*(d*aa)) mk)/\Hid (encGo key prev q (aI src prev key q r) (bb*aa-d*aa) (d*aa) ⟨src.W,src.H,P⟩ mk=cG src prev key q r)/\Hid (bw (g0 :: FT) w8 (g0 :: Fk) wr)) (fun yv _ _=>(32-intOf yv).toNat)
  case atStart=>exact ⟨0,P0,FT,fB,Mf,rfl,Xt,Ur,HA8,lh ⟨iD,by show 4<=_;omega⟩,lh (by rw [Nat.zero_mul,Nat.sub_zero,JcA.out,Xu.out]),lh (bw.refl _ _)⟩
  case round =>
   obtain ⟨d,P,Fk,mk,hd,rfl,Sc,Nc,Tt,HWk,Pn,XS⟩:=hrel;obtain ⟨t0,t1,t2⟩:=ag (XS.1.rowAt Uk (HK.out B6 (by have:=HZ.out;omega) (by have:=HZ.out;omega)));by_cases MO:d<bb
   ·have Vu:(8*(d:Int))<src.H:=by have:=HHa.2;omega
    have hda:d*aa+aa<=bb*aa:=by have:=Nat.mul_le_mul_right aa MO;rw [Nat.succ_mul] at this;exact this
    go_wp2_with fail;clear t0 t1 t2;go_loopw [18] (fun xv wr=>∃ (c:Nat) (P:List Int) (Fk:List Nat) (mk:Wrt),c<=aa/\xv=.int .i64 (8*(c:Int))/\Hid (FrOk ⟨src.W,src.H,P⟩)/\Hid (Own .i64 3 w.heap.size wr (.slice (some ⟨g0,0,none⟩) NL PB) P)/\Hid ((pcWrite B7 R E).At Fk wr mk)/\Hid (WOk (4+2788*(d*aa+c)) mk)/\Hid (encGo key prev q (aI src prev key q r) (bb*aa-(d*aa+c)) (d*aa+c) ⟨src.W,src.H,P⟩ mk=cG src prev key q r)/\Hid (bw (g0 :: FT) w8 (g0 :: Fk) wr)) (fun xv _=>(32-intOf xv).toNat)
    case atStart=>exact ⟨0,P,Fk,mk,Mf,rfl,Sc,Nc,Tt,HWk,Pn,XS⟩
    case round =>
     clear Sc Nc Tt HWk Pn XS;obtain ⟨c,P,Fk,mk,hc,rfl,Sc,Nc,Tt,HWk,Pn,XS⟩:=hrel;have VA:=lh (XS.1.rowAt Uk (HK.out B6 (by have:=HZ.out;omega) (by have:=HZ.out;omega)));obtain ⟨t0,t1,t2⟩:=ag VA;by_cases hlc:c<aa
     ·have Vi:(8*(c:Int))<src.W:=by have:=HHa.1;omega
      have hxe:(8*(c:Int))+8<=src.W:=by have:=HHa.1;omega
      have hye:(8*(d:Int))+8<=src.H:=by have:=HHa.2;omega
      have Ue:(0:Int)<=(8*(c:Int)):=Mf;have Sr:(0:Int)<=(8*(d:Int)):=Mf;have NA:IntKind.i64.wrap ((8*(c:Int))+8)=(8*((c+1:Nat):Int)):=Mi;have Pt:Hid (encGo key prev q (aI src prev key q r) (bb*aa-(d*aa+c)) (d*aa+c) ⟨src.W,src.H,P⟩ mk=encGo key prev q (aI src prev key q r) (bb*aa-(d*aa+(c+1))) (d*aa+(c+1)) (bf ⟨src.W,src.H,P⟩ prev (8*(c:Int)) (8*(d:Int)) q (aI src prev key q r ⟨src.W,src.H,P⟩ (8*(c:Int)) (8*(d:Int)))) (di wrC key (df (aI src prev key q r ⟨src.W,src.H,P⟩ (8*(c:Int)) (8*(d:Int)))) mk).2):=lh (by
       obtain ⟨k,hk⟩:∃ k,bb*aa-(d*aa+c)=k+1:=⟨bb*aa-(d*aa+c)-1,Mf⟩
       rw [hk,show bb*aa-(d*aa+(c+1))=k by omega,<- Nat.add_assoc];exact zx (f:=⟨src.W,src.H,P⟩) HHa.1 hlc)
      have Jha:Hid ((32-intOf (.int .i64 (8*((c+1:Nat):Int)))).toNat<(32-intOf (.int .i64 (8*(c:Int)))).toNat):=lh (by have:=ha4.1;simp only [intOf];omega);obtain ⟨X,hX⟩:∃ z,z=(8*(c:Int)):=⟨_,rfl⟩
      obtain ⟨Y,hY⟩:∃ z,z=(8*(d:Int)):=⟨_,rfl⟩
      rw [<- hX,<- hY] at Pt;rw [<- hX] at hxe Ue NA Vi Jha |-
      rw [<- hY] at hye Sr Vu |-
      clear hX hY;have Ts:=Ys.out P Sc X Y;have hlo:=HLo.out P Sc (aI src prev key q r ⟨src.W,src.H,P⟩ X Y) Ts X Y Ue hxe Sr hye;have YT:=XS.1.size;have QS:∀ g∈g0 :: FT,w5.heap.size<=g:=fun g hg=>by
       have hz:=HZ.out;rcases List.mem_cons.1 hg with rfl | hg
       ·exact hz.2.1
       ·have:=(Qu.out g hg).1;omega
      have Tn:w.heap.size+4<=w5.heap.size:=by have:=HZ.1;omega
      have HS9:=lh (HS8.only XS.1 (fun g hg=>.inr (by have:=QS g hg;have:=XT.out;omega)));have HP9:=lh (HP8.only XS.1 (fun g hg=>.inr (by have:=QS g hg;have:=XT.out;omega)));have Jsz:=lh (XS.1.rowAt Jbu (fun hm=>by have:=QS _ hm;omega));have Jnl:=lh (XS.1.rowAt Uj (fun hm=>by have:=QS _ hm;omega));have UW:=HCh.out wr P _ _ _ _ _ _ _ _ _ X Y Sc HS9 Nc.ints HP9 ⟨Ue,hxe⟩ ⟨Sr,hye⟩ (by have:=XT.out;have:=HZ.out;omega);obtain ⟨Pa,hSQ⟩:∃ z,z=aI src prev key q r ⟨src.W,src.H,P⟩ X Y:=⟨_,rfl⟩
      rw [<- hSQ] at UW Ts hlo Pt;have Jmi:=lh UW;have Jny:=lh Ts;have Jiz:=lh hlo;have Hsz:=lh YT;have Hsw:=lh Tn;clear hSQ UW Ts hlo YT QS Tn;obtain ⟨s0,s1,s2⟩:=ag Jsz;obtain ⟨p0,p1,p2⟩:=ag Jnl;go_wp2_with fail;clear t0 t1 t2 s0 s1 s2 p0 p1 p2;go_at_call 31;refine Jmi.mono ?_;rintro e w9 ⟨lv,vs,rfl,NV,MX,Rm⟩;have PA:=lh NV;have PX:=lh MX;have Ph:=lh Rm;have HI:=lh (ia (k:=(Pa.kind:Int)) (mo:=(Pa.mode:Int)) (vx:=Pa.vx) (vy:=Pa.vy) (lv:=lv) NV MX.len);have Ro:=lh (dO (k:=(Pa.kind:Int)) (mo:=(Pa.mode:Int)) (ms:=Pa.modes) (vx:=Pa.vx) (vy:=Pa.vy) (lv:=lv) (vs:=vs) MX.one.1 MX.one.2);have VF:=lh (dh (k:=0) (mo:=0) (ms:=[0,0,0,0]) (vx:=0) (vy:=0) (lv:=aj) (vs:=[aj,aj,aj,aj]) (k':=(Pa.kind:Int)) (mo':=(Pa.mode:Int)) (ms':=Pa.modes) (vx':=Pa.vx) (vy':=Pa.vy) (lv':=lv) (vs':=vs) rfl rfl NV MX.len);have NY:=lh Tryz.underlying76;clear NV MX Rm Jmi;obtain ⟨CA,Rx⟩:∃ z,z=(sqL (Pa.kind:Int) (Pa.mode:Int) Pa.modes Pa.vx Pa.vy lv vs).toArray:=⟨_,rfl⟩
      have HCA:=lh Rx;rw [<- Rx] at HI Ro VF |-
      clear Rx;have SV:=lh (heap_alloc_new w9 (.cells (sqL 0 0 [0,0,0,0] 0 0 aj [aj,aj,aj,aj]).toArray 76));have HNr:=lh (setRow_heap (w9.alloc (.cells (sqL 0 0 [0,0,0,0] 0 0 aj [aj,aj,aj,aj]).toArray 76)) w9.heap.size _ CA _ _ SV);have XY:Hid (ae [] w9 ((w9.alloc (.cells (sqL 0 0 [0,0,0,0] 0 0 aj [aj,aj,aj,aj]).toArray 76)).setRow w9.heap.size CA)):=lh (((ae.new w9 _).trans (ae.setRow (S:=[w9.heap.size]) (ae.refl _ _) (g:=w9.heap.size) (fun _=>Mg) CA) (U:=[]) Mg (fun g hg MO=>Mj)));have HNz:Hid (w9.heap.size<((w9.alloc (.cells (sqL 0 0 [0,0,0,0] 0 0 aj [aj,aj,aj,aj]).toArray 76)).setRow w9.heap.size CA).heap.size):=lh (by rw [size_setRow];simp)
      go_wp2_with (first
       | (refine aq rfl (.tmp 19) (.tmp 63) 76 rfl rfl rfl SV HI VF Ro ?_)
       | (refine az rfl (.tmp 19) 76 rfl rfl HNr NY rfl HI ?_)
       | fail)
      have JpX:(w9.alloc (.cells #[(),(),(),(),(),(),(),(),JEu,JEu,JEu,JEu,JEu] 76)).setRow w9.heap.size CA=(w9.alloc (.cells (sqL 0 0 [0,0,0,0] 0 0 aj [aj,aj,aj,aj]).toArray 76)).setRow w9.heap.size CA:=rfl;rw [JpX];clear JpX SV;generalize World.setRow (World.alloc w9 _) _ _=SM at *
      obtain ⟨BQ,hBQ⟩:∃ z,z=w9.heap.size:=⟨_,rfl⟩
      have HBQ:=lh hBQ;rw [<- hBQ] at HNr HNz |-
      clear hBQ;have Vv:=lh (pO Tt (Ph.q XY) Mg);have Wx:dU wr.heap.size BQ SM lv vs Pa.large Pa.small:=by rw [HBQ.out];exact PX.only XY Mg
      have hFl:∀ x∈Fk,x<wr.heap.size:=fun x hx=>(pcWrite B7 R E).lt Tt x hx
      have hFb:=rN Tt;have h16:bb*aa<=4*4:=Nat.mul_le_mul hb4.1 ha4.1;have Vt:=yT Vv Jny Wx PA (fun x hx=>.inl (hFl x hx)) (by have:=HNz.out;omega) HWk Mf;rw [<- HCA.out] at Vt;have JfD:=lh Vt;have Jmx:=lh Wx;have Jmt:=lh hFl;have HFb:=lh hFb;have H16:=lh h16;clear Vt Wx hFl hFb h16;go_at_call 32;refine JfD.mono ?_;rintro e Qt ⟨⟨ev,rfl⟩,XN,Jov,Sk⟩;have Jma:=lh Jov;have JrJ:=lh Sk;have hz:=HZ.out;have hBF:BQ∉Fk:=fun h=>by have:=Jmt.out _ h;have:=Ph.size;have:=HBQ.out;omega
      have JiC:=lh (Sk.1.rowAt HNr hBF);have Jno:=lh (Sk.1.rowAt ((Ph.q XY).row VA) (fun h=>by have:=HFb.out _ h;omega));have Jni:=lh (Sk.1.rowAt ((Ph.q XY).row Jnl) (fun h=>by have:=HFb.out _ h;have:=Hsw.out;omega));have Jbo:=lh ((HP9.quiet (Ph.q XY)).only Sk.1 (fun g hg=>.inr (by have:=HFb.out _ hg;have:=XT.out;have:=Hsw.out;omega)));have UA:=lh ((Nc.quiet (Ph.q XY)).only Sk.1 (fun g hg e=>by simp only [Value.ownBlock,LU] at e;have:=HFb.out _ hg;omega));have Jmy:=lh (Jmx.only Sk.1 (fun g hg=>.inl (Jmt.out g hg)));have hPl:=OX.out P Sc;have hly:=HLy.out Qt P w.heap.size g0 PB _ _ wr.heap.size BQ _ Pa lv vs X Y Sc ⟨by rw [hPl];exact UA,Jbo.out,Jmy.out,.inl (by have:=Hsz.out;omega)⟩ Jny PA Ue hxe Sr hye;rw [hPl,<- HCA.out] at hly;have JmE:=lh hly;obtain ⟨t0,t1,t2⟩:=ag Jno;obtain ⟨p0,p1,p2⟩:=ag Jni;clear Jov Sk hBF hPl hly hz
      go_wp2_with (first
       | (refine az rfl (.tmp 19) 76 rfl rfl JiC NY rfl HI ?_)
       | fail)
      clear t0 t1 t2 p0 p1 p2;go_at_call 33;refine JmE.mono ?_;rintro e XM ⟨rfl,JpB,Vd⟩;have Jsd:=lh JpB;have Ov:=lh Vd;clear JpB Vd JmE;go_wp2_with fail;have hz:=HZ.out;have JoX:(⟨src.W,src.H,(bf ⟨src.W,src.H,P⟩ prev X Y q Pa).pix⟩:ai)=bf ⟨src.W,src.H,P⟩ prev X Y q Pa:=by
       have e1:=Jiz.2.1;have e2:=Jiz.2.2;generalize bf ⟨src.W,src.H,P⟩ prev X Y q Pa=L at *
       rw [<- e1,<- e2]
      have NQ:bw (g0 :: Fk) wr (g0 :: XN) XM:=by
       have h1:bw Fk wr XN Qt:=bw.ahead (Ph.q XY) JrJ;refine h1.cons.trans ⟨Ov.mono (fun g hg _=>by rw [mSg] at hg;subst hg;exact List.mem_cons_self ..),fun g hg=>.inl hg⟩
      refine ⟨⟨c+1,(bf ⟨src.W,src.H,P⟩ prev X Y q Pa).pix,XN,_,Mf,by first | rfl | go_num | (congr 1;omega),lh (by rw [JoX];exact Jiz.1),Jsd,lh (pO Jma Ov (fun g hg hm=>by rw [mSg] at hg;subst hg;have:=rN Jma _ hm;omega)),lh ((nA key (df Pa) HWk).le Mf),lh (by rw [JoX,<- Pt.out];exact Pn),lh (XS.trans NQ)⟩,?_⟩;have:=Jha.out;simpa [NA] using this
     ·obtain rfl:c=aa:=Mf
      have Vi:¬ (8*(c:Int))<src.W:=by have:=HHa.1;omega
      have Rl:d*c+c=(d+1)*c:=(Nat.succ_mul d c).symm;have NM:IntKind.i64.wrap ((8*(d:Int))+8)=(8*((d+1:Nat):Int)):=Mi;rw [Rl] at HWk Pn;clear Rl;obtain ⟨Y,hY⟩:∃ z,z=(8*(d:Int)):=⟨_,rfl⟩
      have HY:=lh hY;rw [<- hY] at NM |-
      obtain ⟨X,hX⟩:∃ z,z=(8*(c:Int)):=⟨_,rfl⟩
      rw [<- hX] at Vi |-
      clear hY hX;go_wp2_with fail;exact ⟨⟨d+1,P,Fk,mk,Mf,by first | rfl | rw [NM],Sc,Nc,Tt,HWk,Pn,XS⟩,by have:=HY.out;simp only [intOf];omega⟩
   ·obtain rfl:d=bb:=Mf
    have Vu:¬ (8*(d:Int))<src.H:=by have:=HHa.2;omega
    have RA:Hid (cG src prev key q r=(⟨src.W,src.H,P⟩,mk)):=lh (by rw [<- Pn.out,Nat.sub_self];rfl);clear t0 t1 t2;have HEd:=lh (IK Tt (by
     have h1:=HWk.2;have h2:d*aa<=4*4:=Nat.mul_le_mul hb4.1 ha4.1;omega))
    have Jmr:=lh TU;rw [RA.out] at Jmr;have Jfq:Hid (∀ g∈g0 :: FT,w5.heap.size<=g):=lh (fun g hg=>by
     have hz:=HZ.out;rcases List.mem_cons.1 hg with rfl | hg
     ·exact hz.2.1
     ·have:=(Qu.out g hg).1;omega)
    have VA:=lh (XS.1.rowAt Uk (HK.out B6 (by have:=HZ.out;omega) (by have:=HZ.out;omega)));have Yn:=lh (XS.1.rowAt Ui (fun hm=>by have:=Jfq.out _ hm;have:=HZ.out;omega));have Jsx:=lh (XS.1.rowAt JcT (fun hm=>by have:=Jfq.out _ hm;have:=HZ.out;omega));have MW:=lh (JiO.trans XS.1 (U:=[]) Mg (fun g hg MO=>by have:=Jfq.out g hg;have:=HZ.out;omega));clear Jbu Uj Ui JcT Uk HS8 HP8 Ur HA8 Jfq HK HCh HLy HLo Ys JcA;have t:=ag VA;obtain ⟨t0,t1,t2⟩:=t;go_upto_if 76 with (fail)
    go_cut [20] (fun s20 wx=>s20=.int .i64 (if key then 1 else 2)/\wr=wx)
    case first =>
     cases key with
     | true =>
      go_wp2_with fail;go_meet;exact ⟨rfl,rfl⟩
     | false =>
      go_wp2_with fail;go_meet;exact ⟨rfl,rfl⟩
    case rest =>
     obtain ⟨rfl,hwc⟩:=hcut;subst hwc;obtain ⟨KK,hKK⟩:∃ z:Int,z=if key then 1 else 2:=⟨_,rfl⟩
     rw [<- hKK];have JdO:KK=1\/KK=2:=by rw [hKK];cases key <;> simp
     have HKK:=lh hKK;clear hKK t0 t1 t2;go_wp2_with fail;go_at_call 35;refine HEd.mono ?_;rintro e w13 ⟨v13,rfl,YG,YR⟩;obtain ⟨d3,c3,rfl,-⟩:=YG.open;have Jix:=lh YG;have Sd:=lh YR;obtain ⟨N3,hN3⟩:∃ z,z=(gS mk).length:=⟨_,rfl⟩
     have Jbp:=lh (Gg (k:=KK) (q:=(q:Int)) Jix Jmr JdO ⟨Mf,by have:=Jbz.out;omega⟩);rw [<- hN3] at Jbp |-
     clear YG YR hN3 HEd JdO;go_wp2_with fail;go_at_call 34;refine Jbp.mono ?_;rintro e PL ⟨v14,rfl,Jat,QV⟩;obtain ⟨d4,c4,rfl,-⟩:=Jat.open;have Tw:=lh Jat;have SU:=lh (Sd.q QV);have VG:=lh Sd.size;clear Jat QV Jbp;obtain ⟨N4,hN4⟩:∃ z,z=((q:Int) :: gS mk).length:=⟨_,rfl⟩
     have HN4:=lh hN4;rw [<- hN4] at Tw |-
     clear hN4;have HVn:=lh (heap_alloc_new PL (.cells #[KK,.slice d4 N4 c4] 31));have Oh:=lh (ae.new PL (.cells #[KK,.slice d4 N4 c4] 31));go_wp2_with fail;generalize JjQ:World.alloc PL _=W15 at *
     clear JjQ;have JaD:=SU.size;have hzk:=XS.1.size;have hz:=HZ.out;obtain ⟨V21,hV⟩:∃ z,z=PL.heap.size:=⟨_,rfl⟩
     rw [<- hV] at HVn |-
     have OC:=lh (SU.q Oh);have QR:W15.heap[w.heap.size+1+1]?=some (.cells #[(),JEu] 31 (0,0)):=OC.row Yn;have SA:W15.heap[w.heap.size+1+1+1]?=some (.cells #[(),(),JEu] 24 (0,0)):=OC.row Jsx;obtain ⟨v0,v1,-⟩:=aJ HVn;obtain ⟨t0,t1,t2⟩:=ag (OC.row VA);obtain ⟨x0,x1,y0,y1,-⟩:=aJ QR;obtain ⟨QZ,OU⟩:=aH (x:=.int .i64 KK) (y:=.slice d4 N4 c4) QR;have Qc:=OU.rowAt SA Mg;obtain ⟨f0,f1,f2⟩:=ag Qc;have k0:=frozen_of_row _ (w.heap.size+1+1+1) 0 _ _ Qc;have k1:=frozen_of_row _ (w.heap.size+1+1+1) 1 _ _ Qc;have k2:=frozen_of_row _ (w.heap.size+1+1+1) 2 _ _ Qc;obtain ⟨hc,hf,ho⟩:=fQ (x:=.int .i64 KK) (y:=.slice d4 N4 c4) (u:=.int .i64 src.W) (v:=.int .i64 src.H) (z:=.slice (some ⟨g0,0,none⟩) NL PB) QR SA Mf;have RG:Hid (V21∉[w.heap.size+1+1]/\B6∉[w.heap.size+1+1]/\V21∉[w.heap.size+1+1,w.heap.size+1+1+1]/\B6∉[w.heap.size+1+1,w.heap.size+1+1+1]):=lh (by simp only [mSg,Lh,Li,or_false];omega);have q0:=OU.drew.cell v0 RG.1;have q1:=OU.drew.cell v1 RG.1;have q2:=OU.drew.cell t0 RG.2.1;have q3:=OU.drew.cell t1 RG.2.1;have q4:=OU.drew.cell t2 RG.2.1;have r0:=ho.drew.cell v0 RG.2.2.1;have r1:=ho.drew.cell v1 RG.2.2.1;have r2:=ho.drew.cell t0 RG.2.2.2;have r3:=ho.drew.cell t1 RG.2.2.2;have r4:=ho.drew.cell t2 RG.2.2.2;have HC:=lh (gR hc);have HF:=lh (gR hf);have SI:=lh ho.drew;have HHz:=lh (And.intro JaD (And.intro hzk hz));clear hc hf QZ Qc QR SA JaD hzk hz hV;refine wp_region_held_drew (S:=(fun w'=>w'.cell? ⟨V21,0,none⟩=some (.int .i64 KK)/\w'.cell? ⟨V21,1,none⟩=some (.slice d4 N4 c4)/\w'.cell? ⟨B6,0,none⟩=some (.int .i64 src.W)/\w'.cell? ⟨B6,1,none⟩=some (.int .i64 src.H)/\w'.cell? ⟨B6,2,none⟩=some (.slice (some ⟨g0,0,none⟩) NL PB))) Mh ?_ (fun hHeld=>?_)
     ·exact ⟨v0,v1,t0,t1,t2⟩
     refine tk 0 91 ?_;refine tk 1 92 ?_;refine rdy (rdn 2 (fun K hK=>?_) .nil);go_simp;refine hK.out _ _ ?_ (fun hHeld=>?_)
     ·exact ⟨q0,q1,q2,q3,q4⟩
     clear hK K
     try simp only [Act.put,Lg,Lj,Lk]
     refine rdy (rdn 3 (fun K hK=>?_) .nil);go_simp;refine hK.out _ _ ?_ (fun hHeld=>?_)
     ·exact ⟨r0,r1,r2,r3,r4⟩
     clear hK K
     try simp only [Act.put,Lg,Lj,Lk]
     refine tk 4 12 ?_;refine wpAnyH_done Mh ?_ _;go_wp2_with fail;have JaD:=HHz.out;refine bodyPost_ret (v:=.tuple #[.agg #[KK,.slice d4 N4 c4],.agg #[src.W,src.H,.slice (some ⟨g0,0,none⟩) NL PB],.nilIface]) (ei Tryz.results9 _ _ (w.heap.size+1+1) (w.heap.size+1+1+1) _ _ _ _ _ _ _ _ _ rfl rfl rfl HC HF Tryz.underlying31 rfl Mh Tryz.underlying24 rfl Mh) rfl (ZK.out _ _ ?_ ⟨.slice d4 N4 c4,.slice (some ⟨g0,0,none⟩) NL PB,?_,?_,?_⟩)
     ·exact ((MW.q OC).trans SI (U:=[]) Mg (fun g hg MO=>by simp only [Lh,Li,or_false] at hg;omega))
     ·rw [Jcx.out,<- HKK.out]
     ·rw [Jcx.out]
      show ah .u8 _ _ _ _ ((q:Int) :: gS (cG src prev key q r).2);rw [RA.out];have h4:=(Tw.quiet Oh).only SI (fun g hg=>by simp only [Lh,Li,or_false] at hg;have:=VG.out;exact .inl Mf);exact h4.mono (by have:=VG.out;omega) (Lz Oh.size SI.size)
     ·rw [RA.out]
      have h5:=(Nc.quiet OC).only SI (fun g hg e=>by simp only [Value.ownBlock,LU] at e;simp only [Lh,Li,or_false] at hg;omega);exact h5.ints
end
end Go.Proofs.YthcafdfdglfabaaGreatDoor
