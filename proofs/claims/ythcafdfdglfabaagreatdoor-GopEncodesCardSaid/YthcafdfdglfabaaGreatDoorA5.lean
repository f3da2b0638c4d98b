/- Joined texts: DRkF, DRkB. Conditions: each part names its own. -/
import Derived.Test.YthcafdfdglfabaaGreatDoorA4
import Derived.Test.YthcafdfdglfabaaGreatDoorA3
namespace Go.Proofs.YthcafdfdglfabaaGreatDoor
open Tryz
open Go.RowKit
set_option linter.unusedVariables false
set_option linter.unusedSimpArgs false
set_option maxRecDepth 100000
set_option maxHeartbeats 16000000
section
theorem qw {l:List Int} (h:∀ x∈l,-255<=x/\x<=255):aO l (-65536) 65536=true:=by
 unfold aO;rw [t6];intro x hx;have:=h x hx;rw [r9];omega
theorem KS {p:Prop} (h:p:=by
 obtain ⟨a,cap,rfl,-⟩:=h.open;rw [hl] at YF HSu |-
 generalize bN l=T at *
 have QO:=lh (ae.new w (.cells #[(),d8] 39));have Rg:Hid ((w.alloc (.cells #[(),d8] 39)).heap[w.heap.size]?=some (.cells #[(),d8] 39)):=Sd w _;clear h hb hab;go_enter func150,ntmps150;go_wp2_with fail;generalize Rs:World.alloc w _=W1 at *
 clear Rs;refine (HSd.out _).mono ?_;rintro e w' ⟨rfl,rfl⟩;go_wp2_with fail;refine (YF.out _ QO).mono ?_;rintro e w' ⟨rfl,rfl⟩;go_wp2_with fail;refine (HSu.out _ QO).mono ?_;rintro e w2 ⟨⟨v',rfl,QL⟩,QN⟩;obtain ⟨a',VW,rfl,-⟩:=QL.ints.open;have UT:=QN.row Rg;have HO:=lh QL;have QT:=lh (QO.q QN);have HW:=lh QO.size;obtain ⟨z0,z1,y0,y1,-⟩:=aL UT;obtain ⟨QK,QV⟩:=aJ (x:=.int .i64 0) (y:=.slice none 0 0) UT;have HZ:Hid (w.heap.size<W1.heap.size):=lh (l8.1 Rg).1;clear QL QN;go_wp2_with fail;exact TV (aA results150 _ _ w.heap.size _ _ _ _ _ rfl rfl QK underlying39 rfl (aG _ rfl)) rfl (QF.out _ _ ⟨⟨_,rfl,(HO.only QV (fun g hg hh=>by rw [i5] at hg;subst hg;have:=(HO.at _ hh).1;have:=HZ.out;omega)).lower HW⟩,QT.trans QV Qb (fun g hg QH=>Qd)⟩)):p:=h
theorem uY {lo hi:Nat} {v:Value} {l:List Int} {w:World} (h:aj .i64 lo hi w v l) (hl:l.length=16) (hb:∀ x∈l,-255<=x/\x<=255):Calls prog 150 #[v] w fun e w'=>((∃ v',e=.returned (.tuple #[v',.agg #[(),d8]])/\f9 .i64 3 w.heap.size w' v' (bN l))/\ae [] w w'):=by
 refine aK fun Q QF=>?_
 have YF:=lh (fun (W:World) (o:ae [] w W)=>bQ (-65536) 65536 (h.quiet o));rw [qw hb] at YF;have hab:dg 6266880 l:=fun j D=>by
  have:=hb _ (show l.getD j 0∈l by rw [Pd,Pe D];exact PG _);omega
 have HSu:=lh (fun (W:World) (o:ae [] w W)=>tH (h.quiet o) hl hab);rw [show ik 4 l=bN l from (eo (n:=4) Qa hl).symm] at HSu;have HSd:Hid (∀ W,Calls prog 204 #[.int .i64 16] W fun e w'=>e=.returned (.int .i64 4)/\W=w'):=lh (fun W=>nH 16 Qa W);exact KS
theorem uZ {lo hi:Nat} {v:Value} {l:List Int} {w:World} (h:aj .i64 lo hi w v l) (hl:l.length=64) (hb:∀ x∈l,-255<=x/\x<=255):Calls prog 150 #[v] w fun e w'=>((∃ v',e=.returned (.tuple #[v',.agg #[(),d8]])/\f9 .i64 3 w.heap.size w' v' (bN l))/\ae [] w w'):=by
 refine aK fun Q QF=>?_
 have YF:=lh (fun (W:World) (o:ae [] w W)=>bQ (-65536) 65536 (h.quiet o));rw [qw hb] at YF;have hab:dg 6266880 l:=fun j D=>by
  have:=hb _ (show l.getD j 0∈l by rw [Pd,Pe D];exact PG _);omega
 have HSu:=lh (fun (W:World) (o:ae [] w W)=>tI (h.quiet o) hl hab);rw [show ik 8 l=bN l from (eo (n:=8) Qa hl).symm] at HSu;have HSd:Hid (∀ W,Calls prog 204 #[.int .i64 64] W fun e w'=>e=.returned (.int .i64 8)/\W=w'):=lh (fun W=>nH 64 Qa W);exact KS
theorem KT {p:Prop} (h:p:=by
 rintro e w4 ⟨⟨tv,rfl,Ud⟩,QY⟩;obtain ⟨ta,tc,rfl,-⟩:=Ud.ints.open;have VP:=ae.new w4 (.cells #[(),d8] 39);have HT5:=lh (Ud.ints.quiet VP);have Rk:=lh (QW.q (QY.q VP));clear Ud QY VP;go_wp2_with fail;generalize ZI:World.alloc w4 _=W5 at *
 clear ZI;refine (Zk.out _ _ _ _ HT5).mono ?_;rintro e w6 ⟨⟨lv,rfl,Rw⟩,Sl⟩;obtain ⟨la,lc,rfl,-⟩:=Rw.ints.open;have HL6:=lh Rw;have SJ:=lh (Rk.q Sl);have HZ:=lh Rk.size;clear Rw Sl;go_wp2_with fail;exact QF.out _ _ ⟨⟨_,rfl,(HL6.quiet (BS)).lower HZ.out⟩,SJ.q (BS)⟩):p:=h
theorem GA {lo hi lo' hi':Nat} {u v:Value} {b p:List Int} {w:World} (Y:aj .i64 lo hi w u b) (Z:aj .i64 lo' hi' w v p) (J:b.length=16) (M:p.length=16) (sb:ar b) (sp:ar p) (q:Nat) (hq:q<=15) :
  Calls prog 93 #[u,v,q] w fun e w'=>((∃ v',e=.returned v'/\f9 .i64 3 w.heap.size w' v' (bB b p q))/\ae [] w w'):=by
 refine aK fun Q QF=>?_
 have HS:=lh (Ah Y Z (by rw [J,M]) (by rw [J];omega) sb sp);have L:(dX b p).length=16:=fR J M;have E:=qB sb sp;have I:(bN (dX b p)).length=16:=by rw [eo (n:=4) Qa L];simp
 have F:∀ x∈bN (dX b p),-16777216<=x/\x<=16777216:=mZ (n:=4) Qa L E;have HD:=lh (VL L E);have HT:=lh (VL I F);have HE:Hid (bB b p q=(bN (dX b p)).map (gw q)):=lh rfl;rw [HE.out] at QF;obtain ⟨ba,bc,rfl,-⟩:=Y.open;obtain ⟨pa,pc,rfl,-⟩:=Z.open;rw [J,M] at HS |-
 generalize dX b p=D at *
 clear Y Z J M sb sp L E I F HE;have Zk:=lh (fun (W:World) (lo hi:Nat) (v:Value) (h:aj .i64 lo hi W v (bN D))=>rk h (by rw [HT.1];omega) HT.2 q hq);generalize (bN D).map (gw q)=LV at *
 go_enter func93,ntmps93;go_wp2_with fail;refine HS.mono ?_;rintro e w2 ⟨⟨dv,rfl,O⟩,QN⟩;obtain ⟨da,dc,rfl,-⟩:=O.ints.open;have V:=ae.new w2 (.cells #[(),d8] 39);have N:=lh (O.ints.quiet V);have QW:=lh (QN.q V);clear O QN V;go_wp2_with fail;generalize Tb:World.alloc w2 _=W3 at *
 clear Tb;refine (uY N HD.1 HD.2).mono ?_;exact KT
theorem wl {lo hi lo' hi':Nat} {u v:Value} {b p:List Int} {w:World} (Y:aj .i64 lo hi w u b) (Z:aj .i64 lo' hi' w v p) (J:b.length=64) (M:p.length=64) (sb:ar b) (sp:ar p) (q:Nat) (hq:q<=15) :
  Calls prog 93 #[u,v,q] w fun e w'=>((∃ v',e=.returned v'/\f9 .i64 3 w.heap.size w' v' (bB b p q))/\ae [] w w'):=by
 refine aK fun Q QF=>?_
 have HS:=lh (Ah Y Z (by rw [J,M]) (by rw [J];omega) sb sp);have L:(dX b p).length=64:=fR J M;have E:=qB sb sp;have I:(bN (dX b p)).length=64:=by rw [eo (n:=8) Qa L];simp
 have F:∀ x∈bN (dX b p),-16777216<=x/\x<=16777216:=mZ (n:=8) Qa L E;have HD:=lh (VL L E);have HT:=lh (VL I F);have HE:Hid (bB b p q=(bN (dX b p)).map (gw q)):=lh rfl;rw [HE.out] at QF;obtain ⟨ba,bc,rfl,-⟩:=Y.open;obtain ⟨pa,pc,rfl,-⟩:=Z.open;rw [J,M] at HS |-
 generalize dX b p=D at *
 clear Y Z J M sb sp L E I F HE;have Zk:=lh (fun (W:World) (lo hi:Nat) (v:Value) (h:aj .i64 lo hi W v (bN D))=>rk h (by rw [HT.1];omega) HT.2 q hq);generalize (bN D).map (gw q)=LV at *
 go_enter func93,ntmps93;go_wp2_with fail;refine HS.mono ?_;rintro e w2 ⟨⟨dv,rfl,O⟩,QN⟩;obtain ⟨da,dc,rfl,-⟩:=O.ints.open;have V:=ae.new w2 (.cells #[(),d8] 39);have N:=lh (O.ints.quiet V);have QW:=lh (QN.q V);clear O QN V;go_wp2_with fail;generalize Tb:World.alloc w2 _=W3 at *
 clear Tb;refine (uZ N HD.1 HD.2).mono ?_;exact KT
end
theorem mU {P:Program} {L:Func} {p q r:Tmp} {ty:TypeId} (h:L.results=#[.tmp q,.tmp r,.cell p ty]) (D:Array Value) (w:World) (g:Nat) (t:TypeId) (E:Array Value) (fr:Nat×Nat) (d:TypeDesc) (v u:Value)
  (hp:D.getD p undef=.pointer g) (hq:D.getD q undef=v) (hr:D.getD r undef=u) (N:w.heap[g]?=some (.cells E t fr))
  (hu:P.underlying ty=some d) (M:(match d with | .struct _ | .array _ _=>true | _=>false)=true) (hi:(P.info? ty).map (·.size)=some E.size) :
  (results L D).run P w=.ok (.tuple #[v,u,.agg E]) w:=by
 have F:D[p]?.getD undef=.pointer g:=Qw;have I:D[q]?.getD undef=v:=Qx;have J:D[r]?.getD undef=u:=QE;simp [results,h,F,I,J,asAddr,run_loadVar_row w g t ty E fr d N hu M hi]
section
theorem yw {p:Prop} (h:p:=by
 exact ⟨QV.cell v0 (dn i5 Xz),QV.cell v1 (dn i5 Xz),QV.cell e0 (dn i5 RX),QV.cell e1 (dn i5 RX)⟩):p:=h
theorem nA {lo hi lo' hi':Nat} {u v:Value} {a b:List Int} {vx vy:Int} {w:World} (ha:aj .i64 lo hi w u a) (hb:aj .i64 lo' hi' w v b) (hl:b.length=a.length) (hm:a.length<=64) (sa:ar a) (sb:ar b) (V:-15<=vx/\vx<=15) (Y:-15<=vy/\vy<=15) :
  Calls prog 96 #[u,v,.agg #[vx,vy]] w fun e w'=>(e=.returned (.tuple #[.int .i64 (eA a b vx vy),.agg #[(),d8]])/\ae [] w w'):=by
 refine aK fun Q M=>?_
 have HSa:=lh (fun (W:World) (o:ae [] w W)=>Ae (ha.quiet o) (hb.quiet o) hl hm sa sb);have HMy:=lh (fun (W:World)=>wo vx vy W V Y);have O:=uq sa sb a.length;rw [YN (Pm _),YN Qa] at O;have Ru:0<=dF a b/\dF a b<=20000:=Qa;have HC:Hid (eA a b vx vy=4*dF a b+max vx (-vx)+max vy (-vy)):=lh rfl;rw [HC.out] at M;obtain ⟨aa,ac,rfl,-⟩:=ha.open;obtain ⟨ba,bc,rfl,-⟩:=hb.open;generalize dF a b=s at *
 obtain ⟨s0,s1⟩:=Ru;obtain ⟨a0,a1⟩:=V;obtain ⟨b0,b1⟩:=Y;have k0:IntKind.i64.wrap (4*s)=4*s:=Qe;have nx:IntKind.i64.wrap (-vx)=-vx:=Qe;have ny:IntKind.i64.wrap (-vy)=-vy:=Qe;obtain ⟨N,I,F,UN⟩:=km w (.cells #[vx,vy] 73) (.cells #[(),d8] 39);have QO:=lh N;clear ha hb hl hm sa sb O N HC;go_enter func96,ntmps96;go_wp2_with fail;generalize Rs:World.alloc (World.alloc w _) _=W1 at *
 clear Rs;refine (HSa.out _ QO).mono ?_;rintro e Z ⟨rfl,QN⟩;have TX:=ae.new Z (.cells #[(),d8] 39);have WH:=lh (Sd Z (.cells #[(),d8] 39));have HX3:=lh (QN.q TX);have L:Hid (w.heap.size+1<Z.heap.size):=lh (l6 QN.size UN.out);clear QN TX;go_wp2_with fail;generalize Tb:World.alloc Z _=W3 at *
 clear Tb;obtain ⟨B,hB⟩:=bu Z.heap.size
 rw [<- hB] at WH L |-
 clear hB;refine (cZ _ _ _).mono ?_;rintro e w4 ⟨rfl,QY⟩;have J:=lh (HX3.q QY);have HB4:=lh (QY.row WH);clear QY;obtain ⟨v0,v1,-⟩:=aL (J.row I);go_wp2_with fail;clear v0 v1;refine (HMy.out _).mono ?_;rintro e w5 ⟨rfl,RF⟩;have D:=lh (J.q RF);have Zu:=lh (RF.row HB4);clear RF;obtain ⟨v0,v1,-⟩:=aL (D.row I);obtain ⟨e0,e1,-⟩:=aL Zu;obtain ⟨z0,z1,y0,y1',-⟩:=aL (D.row F);obtain ⟨QK,QV⟩:=aJ (x:=.int .i64 0) (y:=.slice none 0 0) (D.row F);have RX:¬ B=w.heap.size+1:=dT L
 have Xz:¬ w.heap.size=w.heap.size+1:=Qa;have Rx:=((QO.q D).trans QV (U:=[]) Qb (fun g hg QH=>Qd))
 go_upto_region 6 with (fail);by_cases hx:vx<0
 ·by_cases hy:vy<0
  ·have x1:vx < -vx:=Qa
   have x2:¬ -vx<vx:=Qa;have y1:vy < -vy:=Qa;have y2:¬ -vy<vy:=Qa;have k1:IntKind.i64.wrap (4*s+-vx)=4*s+-vx:=Qe;have k2:IntKind.i64.wrap (4*s+-vx+-vy)=4*s+-vx+-vy:=Qe;have E:Hid (4*s+-vx+-vy=4*s+max vx (-vx)+max vy (-vy)):=lh Qa;refine Tf (S:=(fun w'=>w'.cell? ⟨w.heap.size,0,none⟩=some (.int .i64 vx)/\w'.cell? ⟨w.heap.size,1,none⟩=some (.int .i64 vy)/\w'.cell? ⟨B,0,none⟩=some (.int .i64 0)/\w'.cell? ⟨B,1,none⟩=some (.slice none 0 0))) Qc ?_ (fun hHeld=>?_)
   ·exact ⟨v0,v1,e0,e1⟩
   refine tk 0 24 ?_;refine tk 1 25 ?_;refine tk 2 26 ?_;refine tk 3 27 ?_;refine tk 4 28 ?_;refine tk 5 29 ?_;refine tk 6 30 ?_;refine tk 7 31 ?_;refine tk 8 32 ?_;refine tk 9 33 ?_;refine tk 10 34 ?_;refine tk 11 35 ?_;refine tk 12 36 ?_;refine tk 13 37 ?_;refine tk 14 38 ?_;refine tk 15 39 ?_;refine tk 16 40 ?_;refine tk 17 6 ?_;refine j9 18 fun K hK=>?_
   go_simp;refine ko hK yw fun hHeld=>?_;clear hK K
   refine Wn Qc ?_ _;go_wp2_with fail;exact TV (v:=.tuple #[.int .i64 (4*s+-vx+-vy),.agg #[(),d8]]) (aA results96 _ _ (w.heap.size+1) _ _ _ _ _ rfl rfl QK underlying39 rfl (aG _ rfl)) rfl (M.out _ _ ⟨by rw [E.out],Rx.drew⟩)
  ·have x1:vx < -vx:=Qa
   have x2:¬ -vx<vx:=Qa;have y1:¬ vy < -vy:=Qa;have y2:-vy<=vy:=Qa;have k1:IntKind.i64.wrap (4*s+-vx)=4*s+-vx:=Qe;have k2:IntKind.i64.wrap (4*s+-vx+vy)=4*s+-vx+vy:=Qe;have E:Hid (4*s+-vx+vy=4*s+max vx (-vx)+max vy (-vy)):=lh Qa;refine Tf (S:=(fun w'=>w'.cell? ⟨w.heap.size,0,none⟩=some (.int .i64 vx)/\w'.cell? ⟨w.heap.size,1,none⟩=some (.int .i64 vy)/\w'.cell? ⟨B,0,none⟩=some (.int .i64 0)/\w'.cell? ⟨B,1,none⟩=some (.slice none 0 0))) Qc ?_ (fun hHeld=>?_)
   ·exact ⟨v0,v1,e0,e1⟩
   refine tk 0 24 ?_;refine tk 1 25 ?_;refine tk 2 26 ?_;refine tk 3 27 ?_;refine tk 4 28 ?_;refine tk 5 29 ?_;refine tk 6 30 ?_;refine tk 7 31 ?_;refine tk 8 32 ?_;refine tk 9 33 ?_;refine tk 10 34 ?_;refine tk 11 35 ?_;refine tk 12 36 ?_;refine tk 13 37 ?_;refine tk 14 38 ?_;refine tk 15 39 ?_;refine tk 16 40 ?_;refine tk 17 6 ?_;refine j9 18 fun K hK=>?_
   go_simp;refine ko hK yw fun hHeld=>?_;clear hK K
   refine Wn Qc ?_ _;go_wp2_with fail;exact TV (v:=.tuple #[.int .i64 (4*s+-vx+vy),.agg #[(),d8]]) (aA results96 _ _ (w.heap.size+1) _ _ _ _ _ rfl rfl QK underlying39 rfl (aG _ rfl)) rfl (M.out _ _ ⟨by rw [E.out],Rx.drew⟩)
 ·by_cases hy:vy<0
  ·have x1:¬ vx < -vx:=Qa
   have x2:-vx<=vx:=Qa;have y1:vy < -vy:=Qa;have y2:¬ -vy<vy:=Qa;have k1:IntKind.i64.wrap (4*s+vx)=4*s+vx:=Qe;have k2:IntKind.i64.wrap (4*s+vx+-vy)=4*s+vx+-vy:=Qe;have E:Hid (4*s+vx+-vy=4*s+max vx (-vx)+max vy (-vy)):=lh Qa;refine Tf (S:=(fun w'=>w'.cell? ⟨w.heap.size,0,none⟩=some (.int .i64 vx)/\w'.cell? ⟨w.heap.size,1,none⟩=some (.int .i64 vy)/\w'.cell? ⟨B,0,none⟩=some (.int .i64 0)/\w'.cell? ⟨B,1,none⟩=some (.slice none 0 0))) Qc ?_ (fun hHeld=>?_)
   ·exact ⟨v0,v1,e0,e1⟩
   refine tk 0 24 ?_;refine tk 1 25 ?_;refine tk 2 26 ?_;refine tk 3 27 ?_;refine tk 4 28 ?_;refine tk 5 29 ?_;refine tk 6 30 ?_;refine tk 7 31 ?_;refine tk 8 32 ?_;refine tk 9 33 ?_;refine tk 10 34 ?_;refine tk 11 35 ?_;refine tk 12 36 ?_;refine tk 13 37 ?_;refine tk 14 38 ?_;refine tk 15 39 ?_;refine tk 16 40 ?_;refine tk 17 6 ?_;refine j9 18 fun K hK=>?_
   go_simp;refine ko hK yw fun hHeld=>?_;clear hK K
   refine Wn Qc ?_ _;go_wp2_with fail;exact TV (v:=.tuple #[.int .i64 (4*s+vx+-vy),.agg #[(),d8]]) (aA results96 _ _ (w.heap.size+1) _ _ _ _ _ rfl rfl QK underlying39 rfl (aG _ rfl)) rfl (M.out _ _ ⟨by rw [E.out],Rx.drew⟩)
  ·have x1:¬ vx < -vx:=Qa
   have x2:-vx<=vx:=Qa;have y1:¬ vy < -vy:=Qa;have y2:-vy<=vy:=Qa;have k1:IntKind.i64.wrap (4*s+vx)=4*s+vx:=Qe;have k2:IntKind.i64.wrap (4*s+vx+vy)=4*s+vx+vy:=Qe;have E:Hid (4*s+vx+vy=4*s+max vx (-vx)+max vy (-vy)):=lh Qa;refine Tf (S:=(fun w'=>w'.cell? ⟨w.heap.size,0,none⟩=some (.int .i64 vx)/\w'.cell? ⟨w.heap.size,1,none⟩=some (.int .i64 vy)/\w'.cell? ⟨B,0,none⟩=some (.int .i64 0)/\w'.cell? ⟨B,1,none⟩=some (.slice none 0 0))) Qc ?_ (fun hHeld=>?_)
   ·exact ⟨v0,v1,e0,e1⟩
   refine tk 0 24 ?_;refine tk 1 25 ?_;refine tk 2 26 ?_;refine tk 3 27 ?_;refine tk 4 28 ?_;refine tk 5 29 ?_;refine tk 6 30 ?_;refine tk 7 31 ?_;refine tk 8 32 ?_;refine tk 9 33 ?_;refine tk 10 34 ?_;refine tk 11 35 ?_;refine tk 12 36 ?_;refine tk 13 37 ?_;refine tk 14 38 ?_;refine tk 15 39 ?_;refine tk 16 40 ?_;refine tk 17 6 ?_;refine j9 18 fun K hK=>?_
   go_simp;refine ko hK yw fun hHeld=>?_;clear hK K
   refine Wn Qc ?_ _;go_wp2_with fail;exact TV (v:=.tuple #[.int .i64 (4*s+vx+vy),.agg #[(),d8]]) (aA results96 _ _ (w.heap.size+1) _ _ _ _ _ rfl rfl QK underlying39 rfl (aG _ rfl)) rfl (M.out _ _ ⟨by rw [E.out],Rx.drew⟩)
theorem LH (a b:List Int):dF a b=dF b a:=by
 unfold dF;rw [List.zipWith_comm]
 congr 2
 funext x y
 omega
theorem wd {n:Nat} (O:n=4\/n=8) {lo hi lo' hi' Wi Uq:Nat} {bv tv lv:Value} {b top left:List Int} {w:World} (hb:aj .i64 Wi Uq w bv b) (ht:aj .i64 lo hi w tv top) (hl:aj .i64 lo' hi' w lv left) (lb:b.length=n*n) (lt:top.length=n) (ll:left.length=n) (sb:ar b) (st:ar top) (sl:ar left) {corner:Int} (hc:0<=corner/\corner<=255) :
  Calls prog 98 #[bv,tv,lv,corner] w fun e w'=>(e=.returned (.tuple #[.int .i64 (lR b top left corner).1,.int .i64 (lR b top left corner).2,.agg #[(),d8]])/\ae [] w w'):=by
 refine aK fun Q QF=>?_
 have Yb:=lh (fun (W:World) (o:ae [] w W) (m:Nat) (hm:m<=3)=>(by
  rcases O with rfl | rfl
  ·exact ku (ht.quiet o) (hl.quiet o) lt ll st sl hc (mode:=(m:Int)) Qa
  ·exact kw (ht.quiet o) (hl.quiet o) lt ll st sl hc (mode:=(m:Int)) Qa:Calls prog 99 #[.int .i64 (m:Int),tv,lv,corner] W fun e w'=>((∃ v',e=.returned (.tuple #[v',.agg #[(),d8]])/\f9 .i64 3 W.heap.size w' v' (bi (m:Int) top left corner))/\ae [] W w')))
 have YF:=lh (fun (W:World) (o:ae [] w W)=>by have:=bQ 0 255 (hb.quiet o);rw [show aO b 0 255=true from eJ.2 sb] at this;exact this);have Vd:∀ m:Nat,(bi (m:Int) top left corner).length=n*n:=fun m=>by rw [dl,lt]
 have UL:=lh (fun m:Nat=>(by rw [Vd m];rcases O with rfl | rfl <;> omega:0<(bi (m:Int) top left corner).length));have JgZ:=lh (fun (W:World) (o:ae [] w W) (m:Nat) (l1 l2:Nat) (v:Value) (hv:aj .i64 l1 l2 W v (bi (m:Int) top left corner))=>by have:=Ae hv (hb.quiet o) (by rw [Vd m,lb]) (by rw [Vd m];rcases O with rfl | rfl <;> omega) (kN st sl (by rw [lt];rcases O with rfl | rfl <;> omega) (m:Int) corner) sb;rw [LH] at this;exact this);have HE:Hid (lR b top left corner=fF b top left corner ([0,1,2,3].drop 0) (0,-1)):=lh rfl;have Tm:=lh (fun (k:Nat) (h:k<4) (F:Nat) (D:Int)=>(by rw [sM h];rfl:fF b top left corner (([0,1,2,3]:List Nat).drop k) (F,D)=fF b top left corner (([0,1,2,3]:List Nat).drop (k+1)) (if D<0\/dF b (bi (k:Int) top left corner)<D then (k,dF b (bi (k:Int) top left corner)) else (F,D))));have Vi:Hid (∀ r,fF b top left corner (([0,1,2,3]:List Nat).drop 4) r=r):=lh (fun r=>rfl);obtain ⟨a1,c1,rfl,-⟩:=hb.open;obtain ⟨a2,c2,rfl,-⟩:=ht.open;obtain ⟨a3,c3,rfl,-⟩:=hl.open;obtain ⟨m,hm⟩:∃ m,m=n*n:=⟨_,rfl⟩
 have hnw:IntKind.i64.wrap ((n:Int)*(n:Int))=(m:Int):=by rw [hm];rcases O with rfl | rfl <;> decide
 rw [<- hm] at lb;rw [lb] at YF JgZ;rw [lt,ll] at Yb;rw [lb,lt,ll];have J:=lh (fun (W:World) (o:ae [] w W)=>Yb.out W o 0 Qa);have I:=UL.out 0;obtain ⟨V,ZG⟩:=bu (lR b top left corner)
 rw [<- ZG] at HE QF;generalize hgo:fF b top left corner=go at *
 rw [show ((0:Nat):Int)=0 from rfl] at J I;obtain ⟨P0,hP0⟩:=bu (bi 0 top left corner)
 rw [<- hP0] at J I;have HPn:=lh I;have QO:=lh (ae.new w (.cells #[(),d8] 39));have HE1:=lh (Sd w (.cells #[(),d8] 39));have UN:Hid ((w.alloc (.cells #[(),d8] 39)).heap.size=w.heap.size+1):=lh Qb;clear hb ht hl lb lt ll sb st sl hc Vd ZG hgo O hm hP0 I;go_enter func98,ntmps98;go_wp2_with fail;generalize Rs:World.alloc w _=W1 at *
 clear Rs;refine (J.out _ QO).mono ?_;rintro e w2 ⟨⟨v2,rfl,Sc⟩,QN⟩;obtain ⟨g2,Ut,rfl,-,-⟩:=Sc.form HPn;have HX3:=lh (QN.q (ae.new w2 (.cells #[(),d8] 39)));have WH:=lh (Sd w2 (.cells #[(),d8] 39));have Z:Hid (w.heap.size<w2.heap.size):=lh (l6 QN.size UN.out);clear Sc QN;go_wp2_with fail;generalize Tb:World.alloc w2 _=W3 at *
 clear Tb;obtain ⟨B,hB⟩:=bu w2.heap.size
 rw [<- hB] at WH Z |-
 clear hB;refine (cZ _ _ _).mono ?_;rintro e w4 ⟨rfl,QY⟩;have E:=lh (HX3.q QY);have HB4:=lh (QY.row WH);clear QY;go_wp2_with fail;refine (YF.out _ (QO.q E)).mono ?_;rintro e w5 ⟨rfl,hw5⟩;subst hw5;go_wp2_with fail;go_loopw [13,14,15,16,17,18,19] (fun u v i _ _ _ _ wr=>∃ (k F:Nat) (D:Int),k<=4/\i=.int .i64 k/\u=.int .i64 F/\v=.int .i64 D/\Hid (go (([0,1,2,3]:List Nat).drop k) (F,D)=V)/\Hid (ae [] w4 wr)) (fun _ _ i _ _ _ _ _=>4-(intOf i).toNat)
 case atStart=>exact ⟨0,0,-1,Qa,rfl,rfl,rfl,lh HE.symm,lh (AY)⟩
 case round =>
  obtain ⟨k,F,D,hk,rfl,rfl,rfl,Tk,QP⟩:=hrel;by_cases QH:k<4
  ·have Rt:(k:Int)<4:=Qa
   have RA:(0:Int)<=(k:Int):=Qa;have TL:=lh ((QO.q E).q QP);have SU:=lh (Yb.out wr TL k Qa);have Xi:=lh (fun (W:World) (o:ae [] w W)=>JgZ.out W o k);have HLk:=lh (UL.out k);have N:=lh (Tm.out k QH F D);generalize dF b (bi (k:Int) top left corner)=sd at *
   generalize bi (k:Int) top left corner=P at *
   go_wp2_with fail;refine SU.mono ?_;rintro e w6 ⟨⟨v6,rfl,M⟩,Sl⟩;obtain ⟨g6,JHS,rfl,-,-⟩:=M.form HLk;have Y:=lh (QP.q (Sl.q (ae.new w6 (.cells #[(),d8] 39))));have Uj:=lh (M.ints.quiet (ae.new w6 (.cells #[(),d8] 39)));clear M Sl;go_wp2_with fail;generalize hW7:World.alloc w6 _=W7 at *
   clear hW7;refine (Xi.out _ ((QO.q E).q Y) _ _ _ Uj).mono ?_;rintro e w8 ⟨rfl,Vn⟩;have L:=lh (Y.q (Vn.q (ae.new w8 (.cells #[(),d8] 39))));clear Vn;by_cases TG:D<0
   ·have VT:Hid (go (([0,1,2,3]:List Nat).drop (k+1)) (k,sd)=V):=lh (by rw [<- Tk.out,N.out,if_pos (.inl TG)])
    clear N;go_wp2_with fail;exact ⟨⟨k+1,k,sd,Qa,Qh,rfl,rfl,VT,L⟩,Qf⟩
   ·by_cases hsd:sd<D
    ·have VT:Hid (go (([0,1,2,3]:List Nat).drop (k+1)) (k,sd)=V):=lh (by rw [<- Tk.out,N.out,if_pos (.inr hsd)])
     clear N;go_wp2_with fail;exact ⟨⟨k+1,k,sd,Qa,Qh,rfl,rfl,VT,L⟩,Qf⟩
    ·have VT:Hid (go (([0,1,2,3]:List Nat).drop (k+1)) (F,D)=V):=lh (by rw [<- Tk.out,N.out,if_neg Qa])
     clear N;go_wp2_with fail;exact ⟨⟨k+1,F,D,Qa,Qh,rfl,rfl,VT,L⟩,Qf⟩
  ·obtain rfl:k=4:=Qa
   have Rt:¬ ((4:Nat):Int)<4:=Qa;have ZG:V=(F,D):=by rw [<- Tk.out,Vi.out]
   have HBE:=lh ZG;clear ZG;have hb5:=QP.row HB4;have he5:=QP.row (E.row HE1);obtain ⟨e0,e1,-⟩:=aL hb5;obtain ⟨z0,z1,y0,y1,-⟩:=aL he5;obtain ⟨QK,QV⟩:=aJ (x:=.int .i64 0) (y:=.slice none 0 0) he5;have RX:¬ B=w.heap.size:=dT Z
   have Rx:=((QO.q (E.q QP)).trans QV (U:=[]) Qb (fun g hg QH=>Qd))
   go_upto_region 16 with (fail);refine Tf (S:=(fun w'=>w'.cell? ⟨B,0,none⟩=some (.int .i64 0)/\w'.cell? ⟨B,1,none⟩=some (.slice none 0 0))) Qc ?_ (fun hHeld=>?_)
   ·exact ⟨e0,e1⟩
   refine tk 0 71 ?_;refine tk 1 72 ?_;refine tk 2 73 ?_;refine tk 3 8 ?_;refine tk 4 9 ?_;refine j9 5 fun K hK=>?_
   go_simp;refine ko hK ⟨QV.cell e0 (dn i5 RX),QV.cell e1 (dn i5 RX)⟩ fun hHeld=>?_;clear hK K
   refine Wn Qc ?_ _;go_wp2_with fail;refine TV (v:=.tuple #[F,D,.agg #[(),d8]]) (mU results98 _ _ w.heap.size _ _ _ _ _ _ rfl rfl rfl QK underlying39 rfl (aG _ rfl)) rfl (QF.out _ _ ⟨?_,Rx.drew⟩);rw [HBE.out]
end
end Go.Proofs.YthcafdfdglfabaaGreatDoor
