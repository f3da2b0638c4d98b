/- Joined texts: EEndW, EPack, EQua, EFour, ETake, EGet. Conditions: each part names its own. -/
import Derived.Test.YthcafdfdglfabaaGreatDoorW6
namespace Go.Proofs.YthcafdfdglfabaaGreatDoor
open Tryz
open Go.RowKit
set_option linter.unusedVariables false
set_option linter.unusedSimpArgs false
set_option maxRecDepth 100000
set_option maxHeartbeats 16000000
section
theorem Fl {p:Prop} (h:p:=by
 obtain ⟨g2,Ut,hv2,-,-⟩:=Ri.form Qb;rw [<- VM.out] at hv2;subst hv2;have WI:=lh Ri;have QT:=lh QN;clear Ri JeE;refine ko hK (XJ.out _ QN) fun hHeld=>?_;clear hK K
 refine tk 31 3 ?_;refine Wn Qc ?_ _;have TQ:=WI.out;rw [<- HL.out] at TQ;have HLN:Hid (L.length=N):=lh (by rw [HL.out,VM.out]);have Ui:=lh TQ;rw [<- HL.out] at HEW;clear TQ WI HL VM;go_wp2_with fail;have JlY:N<=Ut:=by have:=Ui.out.ints.open;obtain ⟨a,c,e,h1,-⟩:=this;injection e with e1 e2 e3;rw [e3,<- HLN.out];exact h1
 have JlX:Ut<=maxLen:=by have:=Ui.out.ints.open;obtain ⟨a,c,e,-,h1,-⟩:=this;injection e with e1 e2 e3;rw [e3];exact h1
 have Jjs:=lh (VL JlY JlX);clear JlX;go_loopw [3] (fun v wr=>∃ k:Nat,k<=N/\v=.slice g2 k Ut/\Hid (cO (L.take k)=cO L)/\w2=wr) (fun v _=>match v with | .slice _ n _=>n | _=>0)
 case atStart=>exact ⟨N,Pm _,rfl,lh (by rw [YN (by rw [HLN.out];exact Pm _)]),by first | rfl | skip⟩
 case round =>
  obtain ⟨k,hk,rfl,Hk,rfl⟩:=hrel;cases k with
  | zero =>
   go_wp2_with fail;refine QF.out _ _ ⟨_,rfl,?_,QT.out⟩;rw [HEW.out,<- Hk.out];exact ⟨⟨rfl,some ⟨g2,0,none⟩,Ut,rfl,PX _,Jjs.out.2,fun h=>absurd h (by simp [cO])⟩,by simp [cO]⟩
  | succ k =>
   have TB:k<L.length:=eC HLN
   have cx:=Ui.out.cellS HLN.out.symm TB;have Rt:(k:Int)<((k+1:Nat):Int):=Qa;have RA:(0:Int)<=(k:Int):=Qa;have e1:IntKind.i64.wrap (((k+1:Nat):Int)-1)=(k:Int):=Qe;have e2:(0:Int)<((k+1:Nat):Int):=Qa;have e3:(((k+1:Nat):Int)-1)=(k:Int):=Qa;have hkc:k<=Ut:=Qa;have Hz:=lh (fun h=>rL TB h);have Hl:=lh (fun h=>rK TB h);have Ym:∀ W:World,(Instr.slice 29 (.slice g2 (k+1) Ut) none (some (.int .i64 (k:Int))) none).run prog W=.ok (.slice g2 k Ut) W:=fun W=>Bw k rfl hkc W
   generalize L.getD k 0=z at *
   by_cases hz:z=0
   ·subst hz
    have Hn:Hid (cO (L.take k)=cO L):=lh (by rw [<- Hk.out,Hz.out rfl]);clear Hz Hl;go_wp2_with fail;exact ⟨⟨k,Qa,rfl,Hn,by first | rfl | trivial⟩,Qb⟩
   ·have Hn:Hid (L.take (k+1)=cO L):=lh (by rw [<- Hl.out hz,Hk.out])
    clear Hz Hl;go_wp2_with fail;refine QF.out _ _ ⟨_,rfl,?_,QT.out⟩;rw [HEW.out,<- Hn.out];have hI3:=Ui.out.ints;rw [<- HLN.out] at hI3;have hi:=hI3.sub (PX (k+1)) (bC HLN hk) Ut (Pm _) Qa;simpa using hi):p:=h
theorem Fm {p:Prop} (h:p:=by
 rw [PL] at QG;obtain ⟨x1,x1c,RZ,-⟩:=QG.ints.open;subst RZ;have SD:=lh (QG.lower (base':=w.heap.size) Qb);clear QG QU;refine ko hK (XJ.out _ QI) fun hHeld=>?_;clear hK K
 refine j6 30 34 fun K hK=>?_
 refine ck rfl (.tmp 9) (.tmp 33) _ rfl E8 (SD.out.quiet (ae.refl [] w1)) rfl (HS4.out) rfl Qm (by have:=QO.out.size;simp;try omega) (fun v2 w2 Ri JeE=>?_);have QN:ae [] w w2:=(QO.out.q (ae.refl [] w1)).acc JeE (by intro g hg;have:=SD.out.at g hg;omega);exact Fl):p:=h
theorem Jh {base E:Nat} {ov:Value} {m:i9} {w:World} (h:gi base E w ov m) (ok:cj m) (hn:m.n<=1000000000) :
  Calls prog 86 #[.pointer E] w fun e w'=>(∃ v',e=.returned v'/\aj .u8 w.heap.size w'.heap.size w' v' (jk m)/\ae [] w w'):=by
 refine aK fun Q QF=>?_
 obtain ⟨c0,c1,c2⟩:=gI h.row;have V:=Jm m ok.n4;have Xk:0<=m.lo % 4294967296/\m.lo % 4294967296<4294967296:=Qa;obtain ⟨D,hLL⟩:=bu (m.lo % 4294967296)
 have d0:m.lo / 16777216 % 256=D / 16777216 % 256:=Qa;have d1:m.lo / 65536 % 256=D / 65536 % 256:=Qa;have d2:m.lo / 256 % 256=D / 256 % 256:=Qa;have d3:m.lo % 256=D % 256:=Qa;rw [d0,d1,d2,d3] at V;rw [<- hLL] at c1 Xk;have w0:IntKind.u8.wrap (D / 16777216)=D / 16777216 % 256:=by simp [IntKind.wrap,IntKind.bits,IntKind.signed]
 have w1':IntKind.u8.wrap (D / 65536)=D / 65536 % 256:=by simp [IntKind.wrap,IntKind.bits,IntKind.signed]
 have w2':IntKind.u8.wrap (D / 256)=D / 256 % 256:=by simp [IntKind.wrap,IntKind.bits,IntKind.signed]
 have w3':IntKind.u8.wrap D=D % 256:=by simp [IntKind.wrap,IntKind.bits,IntKind.signed]
 obtain ⟨F,Vo⟩:=bu (D / 16777216 % 256)
 obtain ⟨I,XW⟩:=bu (D / 65536 % 256)
 obtain ⟨J,hy2⟩:=bu (D / 256 % 256)
 obtain ⟨M,hy3⟩:=bu (D % 256)
 rw [<- Vo,<- XW,<- hy2,<- hy3] at V;rw [<- Vo] at w0;rw [<- XW] at w1';rw [<- hy2] at w2';rw [<- hy3] at w3';have HEW:=lh V;have QS:∀ z∈[F,I,J,M],i7 .u8 z:=by simp only [Pg,Ph,l7,forall_eq_or_imp,n7,i7];omega
 have O:=lh h.own;have Ym:(lI m).length<=1000000000:=by rw [qu];omega
 obtain ⟨S0,Un⟩:=bu (lI m)
 rw [<- Un] at HEW O Ym;have Y:=lh (fun (W:World)=>aU (k:=.u8) (w:=W) (t:=5) (l:=[F,I,J,M]) rfl Qj QS 4 rfl rfl);have Z:=lh (fun (W:World)=>iQ (k:=.u8) (w:=W) (t:=5) (l:=[]) (vs:=#[]) rfl Qb Qb 0 rfl rfl);have XJ:Hid (∀ W',ae [] w W'->W'.cell? ⟨E,0,none⟩=some ov/\W'.cell? ⟨E,1,none⟩=some (.int .u64 D)):=lh (fun W' o=>⟨o.cell c0 Qb,o.cell c1 Qb⟩);have hA:ae [] w (w.alloc (.cells #[] 5)).drew:=(ae.new w _).drew;have hB:ae [] w ((w.alloc (.cells #[] 5)).alloc (.cells #[.int .u8 F,.int .u8 I,.int .u8 J,.int .u8 M] 5)).drew:=((ae.new w _).alloc _).drew;have hC:ae [] w ((w.alloc (.cells #[.int .u8 F,.int .u8 I,.int .u8 J,.int .u8 M] 5)).alloc (.cells #[] 5)).drew:=((ae.new w _).alloc _).drew;have hD:ae [] w (w.alloc (.cells #[.int .u8 F,.int .u8 I,.int .u8 J,.int .u8 M] 5)).drew:=(ae.new w _).drew;have HA:=lh hA;have HB:=lh hB;have HC:=lh hC;have HD:=lh hD;have JsF:Hid ((w.alloc (.cells #[] 5)).heap.size=w.heap.size+1/\(w.alloc (.cells #[.int .u8 F,.int .u8 I,.int .u8 J,.int .u8 M] 5)).heap.size=w.heap.size+1):=lh Qb;have hnc:=Z.out (w.alloc (.cells #[.int .u8 F,.int .u8 I,.int .u8 J,.int .u8 M] 5));rw [JsF.out.2] at hnc;have JrV:=lh hnc;clear hnc;obtain ⟨l0,l1⟩:=Xk;clear h ok V hLL d0 d1 d2 d3 Vo XW hy2 hy3 QS Un hA hB hC hD;obtain ⟨L,hL⟩:=bu (S0 ++ [F,I,J,M])
 obtain ⟨N,hN⟩:=bu ((S0 ++ [F,I,J,M]).length)
 have VM:=lh hN;have HL:=lh hL;have JIW:N<=1000000004:=by rw [hN];simp;omega
 clear hN hL;go_enter func86,ntmps86;go_wp2_with fail;refine Tf (S:=(fun w'=>w'.cell? ⟨E,0,none⟩=some ov/\w'.cell? ⟨E,1,none⟩=some (.int .u64 D))) Qc ?_ (fun hHeld=>?_)
 ·exact ⟨c0,c1⟩
 refine tk 1 5 ?_;refine tk 2 6 ?_;refine tk 3 7 ?_;refine tk 4 8 ?_;refine tk 6 10 ?_;refine tk 7 11 ?_;refine tk 8 12 ?_;refine tk 9 13 ?_;refine tk 10 14 ?_;refine tk 11 15 ?_;refine tk 12 16 ?_;refine tk 13 17 ?_;refine tk 14 18 ?_;refine tk 15 19 ?_;refine tk 16 20 ?_;refine tk 17 21 ?_;refine tk 18 22 ?_;refine tk 19 23 ?_;refine tk 20 24 ?_;refine tk 21 25 ?_;refine tk 22 26 ?_;refine tk 23 27 ?_;refine tk 24 28 ?_;refine tk 25 29 ?_;refine tk 26 30 ?_;refine tk 27 31 ?_;refine tk 28 32 ?_;refine C2 (j2 0 4 (fun K hK=>?_) (j2 29 33 (fun K hK=>?_) .nil))
 ·go_simp
  refine ko hK (XJ.out _ HA.out) fun hHeld=>?_;clear hK K
  refine C2 (j2 5 9 (fun K hK=>?_) (j2 29 33 (fun K hK=>?_) .nil))
  ·refine ck rfl (.tmp 4) (.tmp 8) _ rfl E8 ((Z.out w).quiet (ae.refl [] _).drew) rfl (O.out.ints.quiet HA.out) rfl Qm (by simp;try omega) (fun v1 w1 QG QU=>?_)
   have QI:ae [] w w1:=HA.out.acc QU (bj.lit (by simp;try omega));have QO:=lh QI;rw [PL] at QG;obtain ⟨x1,x1c,RZ,-⟩:=QG.ints.open;subst RZ;have SD:=lh (QG.lower (base':=w.heap.size) Qb);clear QG QU;refine ko hK (XJ.out _ QI) fun hHeld=>?_;clear hK K
   refine j6 29 33 fun K hK=>?_
   go_simp;refine ko hK (XJ.out _ (QO.out.q (ae.new w1 (.cells #[.int .u8 F,.int .u8 I,.int .u8 J,.int .u8 M] 5)))) fun hHeld=>?_;clear hK K
   refine j6 30 34 fun K hK=>?_
   refine ck rfl (.tmp 9) (.tmp 33) _ rfl E8 (SD.out.quiet (ae.new w1 (.cells #[.int .u8 F,.int .u8 I,.int .u8 J,.int .u8 M] 5))) rfl (Y.out w1) rfl Qm (by have:=QO.out.size;simp;try omega) (fun v2 w2 Ri JeE=>?_);have QN:ae [] w w2:=(QO.out.q (ae.new w1 (.cells #[.int .u8 F,.int .u8 I,.int .u8 J,.int .u8 M] 5))).acc JeE (by intro g hg;have:=SD.out.at g hg;omega);exact Fl
  ·go_simp
   refine ko hK (XJ.out _ HB.out) fun hHeld=>?_;clear hK K
   refine j6 5 9 fun K hK=>?_
   refine ck rfl (.tmp 4) (.tmp 8) _ rfl E8 (((Z.out w).quiet (ae.new _ (.cells #[.int .u8 F,.int .u8 I,.int .u8 J,.int .u8 M] 5))).quiet (ae.refl [] _).drew) rfl (O.out.ints.quiet HB.out) rfl Qm (by simp;try omega) (fun v1 w1 QG QU=>?_);have QI:ae [] w w1:=HB.out.acc QU (bj.lit (by simp;try omega));have QO:=lh QI;have h4:=Y.out (w.alloc (.cells #[] 5));rw [JsF.out.1] at h4;have HS4:=lh ((h4.quiet (ae.refl [] _).drew).only QU.only (fun g hg=>by simp [Value.ownBlock] at hg;omega));exact Fm
 ·go_simp
  refine ko hK (XJ.out _ HD.out) fun hHeld=>?_;clear hK K
  refine j6 0 4 fun K hK=>?_
  go_simp;refine ko hK (XJ.out _ HC.out) fun hHeld=>?_;clear hK K
  refine j6 5 9 fun K hK=>?_
  refine ck rfl (.tmp 4) (.tmp 8) _ rfl E8 (JrV.out.quiet (ae.refl [] _).drew) rfl (O.out.ints.quiet HC.out) rfl Qm (by simp;try omega) (fun v1 w1 QG QU=>?_);have QI:ae [] w w1:=HC.out.acc QU (bj.lit (by simp;try omega));have QO:=lh QI;have HS4:=lh ((((Y.out w).quiet (ae.new _ (.cells #[] 5))).quiet (ae.refl [] _).drew).only QU.only (fun g hg=>by simp [Value.ownBlock] at hg;omega));exact Fm
end
section
theorem LY {base R E:Nat} {F:List Nat} {m:i9} {w:World} (h:(pcWrite base R E).At F w m) (N:m.n<=1000000000) :
  Calls prog 35 #[.pointer R] w fun e w'=>∃ v',e=.returned v'/\aj .u8 w.heap.size w'.heap.size w' v' (jk m)/\ae [] w w':=by
 obtain ⟨ov,rfl,D⟩:=h;have J:=lh (Jh D.enc D.ok N);have c1:=D.ptr;clear D;go_enter func35,ntmps35;go_wp2_with fail;refine J.out.mono ?_;rintro e O ⟨v',rfl,hi,I⟩;have L:=lh hi;have M:=lh I;clear hi I;go_wp2_with fail;go_ret;exact ⟨v',rfl,L.out,M.out⟩
theorem Kp {lo hi:Nat} {k q:Int} {dv:Value} {D:List Int} {w:World} (h:aj .u8 lo hi w dv D) (hl:D.length<65536) (hk:k=1\/k=2) (hq:0<=q/\q<=15) :
  Calls prog 34 #[.agg #[k,q,dv]] w fun e w'=>(∃ v',e=.returned (.tuple #[.agg #[k,v'],.nilIface])/\aj .u8 w.heap.size w'.heap.size w' v' (q :: D)/\ae [] w w'):=by
 refine aK fun Q QF=>?_
 have Y:=lh (fun W=>(by have:=iN k W;rw [show jY k=true by unfold jY;simp;omega] at this;exact this));have J:=lh (fun W=>(by have:=iI k W;rw [show lQ k=false by unfold lQ;simp;omega] at this;exact this));obtain ⟨F,I,rfl,-⟩:=h.open;have QT:Hid (ae [] w ((w.alloc (.cells #[k,q,.slice F D.length I] 85)).alloc (.cells #[(),d8] 31))):=lh ((ae.new w _).alloc _);have Rg:Hid (((w.alloc (.cells #[k,q,.slice F D.length I] 85)).alloc (.cells #[(),d8] 31)).heap[w.heap.size]?=some (.cells #[k,q,.slice F D.length I] 85)):=lh ((ae.new (w.alloc _) _).row (Sd w _));have SQ:Hid (((w.alloc (.cells #[k,q,.slice F D.length I] 85)).alloc (.cells #[(),d8] 31)).heap[w.heap.size+1]?=some (.cells #[(),d8] 31)):=ak Qb;have Xs:Hid (((w.alloc (.cells #[k,q,.slice F D.length I] 85)).alloc (.cells #[(),d8] 31)).heap.size=w.heap.size+1+1):=lh Qb;have V:=lh (h.quiet QT.out);have hnl:decide ((65536:Int)<=(D.length:Int))=false:=decide_eq_false Qa;have JBn:¬ 65536<=D.length:=Qa;obtain ⟨q0,q1⟩:=hq;have hqw:IntKind.u8.wrap q=q:=by rw [IntKind.wrap_u8];omega
 have QS:∀ z∈[q],i7 .u8 z:=by simp only [i5,n7,i7];omega
 have HOw:=lh (fun (W:World)=>iQ (k:=.u8) (w:=W) (t:=5) (l:=[q]) (vs:=#[.int .u8 q]) rfl Qj QS 1 rfl rfl);obtain ⟨N1,O⟩:=bu ((q :: D).length)
 have Z:=lh O;clear h hl QS O;obtain ⟨a0,a1,a2⟩:=gI Rg.out;go_enter func34,ntmps34;go_wp2_with fail;refine (Y.out _).mono ?_;rintro e w3 ⟨rfl,N⟩;subst N;go_wp2_with fail;refine (J.out _).mono ?_;rintro e w3 ⟨rfl,N⟩;subst N;go_wp2_with fail;refine (J.out _).mono ?_;rintro e w3 ⟨rfl,N⟩;subst N;go_wp2_with fail;generalize VZ:World.alloc (World.alloc w _) _=W2 at *
 clear VZ;have M:=lh (ae.new W2 (.cells #[.int .u8 q] 5)).drew;refine Tf (S:=(fun w'=>w'.cell? ⟨w.heap.size,0,none⟩=some (.int .i64 k)/\w'.cell? ⟨w.heap.size,1,none⟩=some (.int .i64 q)/\w'.cell? ⟨w.heap.size,2,none⟩=some (.slice F D.length I))) Qc ?_ (fun hHeld=>?_)
 ·exact ⟨a0,a1,a2⟩
 refine tk 0 53 ?_;refine tk 1 54 ?_;refine tk 2 55 ?_;refine tk 3 56 ?_;refine tk 4 57 ?_;refine tk 6 59 ?_;refine tk 7 60 ?_;refine j6 5 58 fun K hK=>?_
 go_simp;refine ko hK ⟨M.out.cell a0 Qb,M.out.cell a1 Qb,M.out.cell a2 Qb⟩ fun hHeld=>?_;clear hK K
 refine j6 8 61 fun K hK=>?_
 refine ck rfl (.tmp 58) (.tmp 60) _ rfl E8 ((HOw.out W2).quiet (ae.refl [] _).drew) rfl (V.out.quiet M.out) rfl Qm Qb (fun v1 w1 QG QU=>?_);have E:ae [] W2 w1:=M.out.acc QU (bj.lit (Pm _));obtain ⟨g1,Sb,UU,ST,-⟩:=QG.form Qb;rw [show ([q] ++ D).length=N1 from Z.out.symm] at UU;subst UU;have QO:=lh E;have SD:=lh QG;have UT:=E.row SQ.out;obtain ⟨t0,t1,y0,y1,-⟩:=aL UT;obtain ⟨QK,L⟩:=aJ (x:=.int .i64 k) (y:=.slice g1 N1 Sb) UT;have SA:=lh QK;have Sx:=lh L;have e0:=L.cell (E.cell a0 Qb) Qb;have e1:=L.cell (E.cell a1 Qb) Qb;have e2:=L.cell (E.cell a2 Qb) Qb;clear QG QU UT QK L;refine ko hK ⟨E.cell a0 Qb,E.cell a1 Qb,E.cell a2 Qb⟩ fun hHeld=>?_;clear hK K
 refine tk 9 62 ?_;refine j9 10 fun K hK=>?_
 go_simp;refine ko hK ⟨e0,e1,e2⟩ fun hHeld=>?_;clear hK K
 refine tk 11 3 ?_;refine Wn Qc ?_ _;go_wp2_with fail;refine TV (v:=.tuple #[.agg #[k,.slice g1 N1 Sb],.nilIface]) (cw results34 _ _ (w.heap.size+1) _ _ _ _ _ rfl rfl SA.out underlying31 rfl Qc) rfl (QF.out _ _ ⟨_,rfl,?_,?_⟩)
 ·have h3:=(SD.out.only Sx.out (fun g hg e=>by rw [i5] at hg;simp only [Value.ownBlock,PO] at e;have:=Xs.out;omega)).ints
  exact h3.mono (j0 Xs.out) (Pm _)
 ·exact (QT.out.q QO.out).trans Sx.out Qb (fun g hg QH=>Qd)
def cy (src prev:ah) (key:Bool) (qp reach:Int):Option Int :=
 if cT src=false then some 2 else if (!key && !ej prev src.W src.H)=true then some 12 else if qp<0\/15<qp\/reach<0\/7<reach then some 3 else none
theorem nQ {p:Prop} (h:p:=by
 go_wp2_with fail;exact QF.out _ _ ⟨⟨_,rfl,rfl⟩,TL.out⟩):p:=h
theorem Cs {lo hi lo' hi':Nat} {sv pv:Value} {src prev:ah} {w:World} (key:Bool) (qp reach:Int) (hs:aj .i64 lo hi w sv src.pix) (hp:aj .i64 lo' hi' w pv prev.pix) :
  Calls prog 28 #[.agg #[src.W,src.H,sv],.agg #[prev.W,prev.H,pv],.bool key,qp,reach] w fun e w'=>(∃ u,e=.returned u/\Ng u (cy src prev key qp reach))/\ae [] w w':=by
 refine aK fun Q QF=>?_
 have O:=lh (fun (W:World) (o:ae [] w W)=>jN src.W src.H (hs.quiet o));have N:=lh (fun (W:World) (o:ae [] w W)=>jN prev.W prev.H (hp.quiet o));have D:Hid (ej prev src.W src.H=(cT prev && decide (prev.W=src.W) && decide (prev.H=src.H))):=lh rfl;have HC:Hid (cy src prev key qp reach=if cT src=false then some 2 else if (!key && !ej prev src.W src.H)=true then some 12 else if qp<0\/15<qp\/reach<0\/7<reach then some 3 else none):=lh rfl;rw [show (⟨src.W,src.H,src.pix⟩:ah)=src from rfl] at O;rw [show (⟨prev.W,prev.H,prev.pix⟩:ah)=prev from rfl] at N;obtain ⟨sa,sc,rfl,-⟩:=hs.open;obtain ⟨Z,pc,rfl,-⟩:=hp.open;generalize cy src prev key qp reach=CK at *
 generalize ej prev src.W src.H=MB at *
 generalize cT src=ms at *
 generalize cT prev=mp at *
 clear hs hp;have Y:Hid (ae [] w ((w.alloc (sT src sa sc)).alloc (sT prev Z pc))):=lh ((ae.new w _).alloc _);have Rg:Hid (((w.alloc (sT src sa sc)).alloc (sT prev Z pc)).heap[w.heap.size]?=some (.cells (sT src sa sc) 24)):=lh ((ae.new (w.alloc _) _).row (Sd w _));have SQ:Hid (((w.alloc (sT src sa sc)).alloc (sT prev Z pc)).heap[w.heap.size+1]?=some (.cells (sT prev Z pc) 24)):=ak Qb;obtain ⟨a0,a1,a2⟩:=ag Rg.out;go_enter func28,ntmps28;go_wp2_with fail;generalize VZ:World.alloc (World.alloc w _) _=W2 at *
 clear VZ a0 a1 a2;refine (O.out W2 Y.out).mono ?_;rintro e w3 ⟨rfl,QQ⟩;have F:=lh QQ;clear QQ;cases ms with
 | false =>
  have V:CK=some 2:=by rw [HC.out];rfl
  rw [V] at QF;clear V;go_wp2_with fail;exact QF.out _ _ ⟨⟨_,rfl,rfl⟩,Y.out.q F.out⟩
 | true =>
  have Uz:Hid (CK=if (!key && !MB)=true then some 12 else if qp<0\/15<qp\/reach<0\/7<reach then some 3 else none):=lh (by rw [HC.out];rfl);clear HC;obtain ⟨s0,s1,s2⟩:=ag (F.out.row Rg.out);obtain ⟨p0,p1,p2⟩:=ag (F.out.row SQ.out);go_upto_region 3 with (fail)
  go_cut [16] (fun s16 wx=>s16=.bool (!key && !MB)/\Hid (ae [] w3 wx))
  case first =>
   cases key with
   | true =>
    go_wp2_with fail;go_meet;exact ⟨rfl,lh (AY)⟩
   | false =>
    go_wp2_with fail;refine (N.out w3 (Y.out.q F.out)).mono ?_;rintro e w4 ⟨rfl,QY⟩;have J:=lh QY;clear QY;cases mp with
    | false =>
     have I:MB=false:=by rw [D.out];rfl
     subst I;go_wp2_with fail;go_meet;exact ⟨rfl,J⟩
    | true =>
     obtain ⟨s0,s1,s2⟩:=ag ((F.out.q J.out).row Rg.out);obtain ⟨p0,p1,p2⟩:=ag ((F.out.q J.out).row SQ.out);by_cases E:prev.W=src.W
     ·by_cases L:prev.H=src.H
      ·have I:MB=true:=by rw [D.out,E,L];simp
       subst I;have b1:(prev.W != src.W)=false:=by rw [E];simp
       have b2:(prev.H != src.H)=false:=by rw [L];simp
       clear E L;go_wp2_with fail;go_meet;exact ⟨rfl,J⟩
      ·have I:MB=false:=by rw [D.out];simp [L]
       subst I;have b1:(prev.W != src.W)=false:=by rw [E];simp
       have b2:(prev.H != src.H)=true:=by simpa using L
       clear E L;go_wp2_with fail;go_meet;exact ⟨rfl,J⟩
     ·have I:MB=false:=by rw [D.out];simp [E]
      subst I;have b1:(prev.W != src.W)=true:=by simpa using E
      clear E;go_wp2_with fail;go_meet;exact ⟨rfl,J⟩
  case rest =>
   obtain ⟨rfl,HQc⟩:=hcut;have TL:=lh ((Y.out.q F.out).q HQc.out);cases hb:(!key && !MB) with
   | true =>
    have V:CK=some 12:=by rw [Uz.out,hb];rfl
    rw [V] at QF;clear V hb;exact nQ
   | false =>
    have M:Hid (CK=if qp<0\/15<qp\/reach<0\/7<reach then some 3 else none):=lh (by rw [Uz.out,hb];rfl);clear hb Uz;by_cases hx:qp<0\/15<qp\/reach<0\/7<reach
    ·rw [M.out,if_pos hx] at QF
     by_cases h1:qp<0
     ·clear hx
      exact nQ
     ·by_cases h2:15<qp
      ·clear hx
       exact nQ
      ·by_cases h3:reach<0
       ·clear hx
        exact nQ
       ·have h4:7<reach:=Qa
        clear hx;exact nQ
    ·rw [M.out,if_neg hx] at QF
     have h1:¬ qp<0:=Qa;have h2:¬ 15<qp:=Qa;have h3:¬ reach<0:=Qa;have h4:¬ 7<reach:=Qa;clear hx;exact nQ
end
def un (i:Nat):Nat:=i / 32*2+i % 8 / 4
def jp (b:List Int) (j k:Nat):List Int:=((List.range k).filter fun i=>un i == j).map fun i=>b.getD i 0
theorem wT (b:List Int) (j k:Nat):jp b j (k+1)=if un k=j then jp b j k ++ [b.getD k 0] else jp b j k:=by
 unfold jp;rw [Zh,List.filter_append,PN]
 split
 ·rename_i h;simp [h]
 ·rename_i h;simp [h]
theorem Bi (b:List Int) (j k:Nat):(jp b j k).length<=k:=by
 unfold jp;rw [Ps];exact Pw (List.length_filter_le _ _) Qb
theorem Bh (b:List Int) {j:Nat} (h:j<4):jp b j 64=av b j:=by
 have e:((List.range 64).filter fun i=>un i == j)=(List.range 16).map fun k:Nat=>(j / 2*4+k / 4)*8+j % 2*4+k % 4:=by
  match j,h with
  | 0,_=>decide +kernel
  | 1,_=>decide +kernel
  | 2,_=>decide +kernel
  | 3,_=>decide +kernel
 unfold jp av;rw [e,List.map_map]
 rfl
structure qE (base:Nat) (w:World) (vs:List Value) (L:Nat->List Int):Prop where
 len:vs.length=4
 own:∀ j,j<4->f9 .i64 3 base w (vs.getD j ai) (L j)
 apart:∀ i j,i<4->j<4->i≠j->∀ g,(vs.getD i ai).ownBlock=some g->(vs.getD j ai).ownBlock≠some g
theorem qE.quiet {base:Nat} {w w':World} {vs:List Value} {L:Nat->List Int} (h:qE base w vs L) (o:ae [] w w'):qE base w' vs L:=⟨h.len,fun j D=>(h.own j D).quiet o,h.apart⟩
theorem qE.out {base B:Nat} {w w':World} {vs:List Value} {L:Nat->List Int} (h:qE base w vs L) (o:ae [B] w w') (F:B<base):qE base w' vs L :=
 ⟨h.len,fun j D=>(h.own j D).only o (fun g E e=>by rw [i5] at E;have:=(h.own j D).at g e;omega),h.apart⟩
theorem dM {vs:List Value} {k:Nat} (h:k<vs.length) (v:Value):(vs.set k v).getD k ai=v:=by
 rw [Pd,PT h];rfl
theorem eO {vs:List Value} {k j:Nat} (h:j≠k) (v:Value):(vs.set k v).getD j ai=vs.getD j ai:=by
 rw [Pd,PS (Ne.symm h),<- Pd]
theorem qE.grow {base:Nat} {w w':World} {vs:List Value} {L L':Nat->List Int} {k:Nat} {v:Value} (h:qE base w vs L) (O:k<4) (a:p9 (vs.getD k ai) w v w') (Y:f9 .i64 3 base w' v (L' k)) (N:∀ j,j<4->j≠k->L' j=L j):qE base w' (vs.set k v) L':=by
 have V:=h.len;refine ⟨by rw [PF];exact V,fun j E=>?_,fun i j hi E D g hg e=>?_⟩
 ·by_cases F:j=k
  ·subst F
   rw [dM Qa];exact Y
  ·rw [eO F,N j E F]
   exact (h.own j E).only a.only (fun g hg e=>h.apart k j O E (Ne.symm F) g Qn e)
 ·by_cases I:i=k
  ·subst I
   have J:j≠i:=Ne.symm D;rw [dM Qa] at hg;rw [eO J] at e;rcases a.at_ with x | x
   ·exact h.apart i j hi E D g (ea x hg) e
   ·have h1:=x g hg
    have M:=(h.own j E).at g e;omega
  ·rw [eO I] at hg
   by_cases F:j=k
   ·subst F
    rw [dM Qa] at e;rcases a.at_ with x | x
    ·exact h.apart i j hi E D g hg (ea x e)
    ·have h1:=x g e
     have M:=(h.own i hi).at g hg;omega
   ·rw [eO F] at e
    exact h.apart i j hi E D g hg e
section
theorem Bk {lo hi:Nat} {bv:Value} {b:List Int} {w:World} (h:aj .i64 lo hi w bv b) (lb:b.length=64) :
  Calls prog 139 #[bv] w fun e w'=>∃ vs,e=.returned (.tuple #[.slice w.heap.size 4 4,.nilIface])/\w'.heap[w.heap.size]?=some (.cells vs.toArray 22)/\qE (w.heap.size+1) w' vs (fun j=>av b j)/\ae [] w w':=by
 refine aK fun Q QF=>?_
 have hI:=h.2;have Tg:=lh (fun k:Nat=>(by
  by_cases hk:k<b.length
  ·exact h.2 _ (by rw [Pd,Pe hk];exact PG _)
  ·rw [Pd,C3 Qa];simp [i7]:i7 .i64 (b.getD k 0)))
 obtain ⟨la,Rl,rfl,-,-,RO,QR⟩:=h.open;rw [lb] at RO QR |-
 have TT:=lh RO;have Rm:=lh QR;have UB:=lh (wT b);have Ta:=lh (Bi b);have Jay:=lh (fun j (h:j<4)=>Bh b h);have Uv:(Instr.makeSlice 221 (.int .i64 4) (.int .i64 4)).run prog w=.ok (.slice w.heap.size 4 4) (w.alloc (.cells (madeCells #[d8] 4) 22)):=run_make_row' (P:=prog) 221 22 (.slice none 0 0) 24 underlying221 Qc rfl .i64 .i64 4 Qa Qa w;have Z:madeCells #[d8] 4=[ai,ai,ai,ai].toArray:=Qc;have Vy:=lh (Sd w (.cells (madeCells #[d8] 4) 22));rw [Z] at Uv Vy;have N:=lh (ae.new w (.cells [ai,ai,ai,ai].toArray 22));have Yg:Hid ((w.alloc (.cells [ai,ai,ai,ai].toArray 22)).heap.size=w.heap.size+1):=lh Qb;clear h lb hI RO QR Z;go_enter func139,ntmps139;go_wp2_with fail;clear Uv;generalize Rs:World.alloc w _=W1 at *
 clear Rs;go_loopw [15,5,6,7] (fun i _ _ _ wr=>∃ (k:Nat) (vs:List Value),k<=64/\i=.int .i64 k/\Hid (wr.heap[w.heap.size]?=some (.cells vs.toArray 22))/\Hid (qE (w.heap.size+1) wr vs (fun j=>jp b j k))/\Hid (∀ j,bj (w.heap.size+1) (vs.getD j ai))/\Hid (ae [w.heap.size] W1 wr)) (fun i _ _ _ _=>64-(intOf i).toNat)
 case atStart=>exact ⟨0,[ai,ai,ai,ai],Qa,rfl,lh Vy.out,lh ⟨rfl,fun j E=>(by match j,E with
  | 0,_=>exact f9.nil _ _ _ _
  | 1,_=>exact f9.nil _ _ _ _
  | 2,_=>exact f9.nil _ _ _ _
  | 3,_=>exact f9.nil _ _ _ _),fun i j hi E hij g hg=>(by match i,hi with
  | 0,_=>simp [Value.ownBlock] at hg
  | 1,_=>simp [Value.ownBlock] at hg
  | 2,_=>simp [Value.ownBlock] at hg
  | 3,_=>simp [Value.ownBlock] at hg)⟩,lh (fun j=>(by match j with
  | 0=>exact bj.nil _
  | 1=>exact bj.nil _
  | 2=>exact bj.nil _
  | 3=>exact bj.nil _
  | (n+4)=>exact bj.nil _)),lh (AY)⟩
 case round =>
  obtain ⟨k,vs,hk,rfl,SA,L,UA,QP⟩:=hrel;by_cases QH:k<64
  ·have Rt:(k:Int)<64:=Qa
   have RA:(0:Int)<=(k:Int):=Qa;obtain ⟨lb,off,rfl,-,-⟩:=TT.out k QH;have c1:=Rm.out lb off rfl k QH;have Y:=s4 c1;have c0:=QP.out.cell (N.out.cell c1 Qb) (by rw [i5];simp only;simp only at Y;omega);have M:Hid (un k<4):=lh (by unfold un;omega);obtain ⟨D,O⟩:=bu (un k)
   have d1:(k:Int).tdiv 32=((k / 32:Nat):Int):=by rw [TY RA];rfl
   have d2:(k:Int).tmod 8=((k % 8:Nat):Int):=by rw [PR RA];rfl
   have d3:((k % 8:Nat):Int).tdiv 4=((k % 8 / 4:Nat):Int):=by rw [TY Qa];rfl
   have d4:IntKind.i64.wrap ((k / 32:Nat):Int)=((k / 32:Nat):Int):=Qe;have d5:IntKind.i64.wrap (((k / 32:Nat):Int)*2)=((k / 32:Nat):Int)*2:=Qe;have d6:IntKind.i64.wrap ((k % 8 / 4:Nat):Int)=((k % 8 / 4:Nat):Int):=Qe;have d7:IntKind.i64.wrap (((k / 32:Nat):Int)*2+((k % 8 / 4:Nat):Int))=(D:Int):=by rw [O,Pk];unfold un;omega
   generalize ((k / 32:Nat):Int)=D1 at *
   generalize ((k % 8:Nat):Int)=D2 at *
   generalize ((k % 8 / 4:Nat):Int)=D3 at *
   rw [<- O] at M;have F:D<4:=M.out;have JBe:(D:Int)<4:=Qa;have JBf:(0:Int)<=(D:Int):=Qa;have hvl:=L.out.len;have cv:wr.cell? ⟨w.heap.size,D,none⟩=some (vs.getD D ai):=by
    rw [RG SA.out,C4,Pd,Pe Qa];rfl
   have SG:=lh (L.out.own D F);have SU:=lh (UA.out D);have hx:=Tg.out k;have HM1:Hid (jp b D (k+1)=jp b D k ++ [b.getD k 0]):=lh (by rw [UB.out,if_pos O.symm]);have HM2:Hid (∀ j,j<4->j≠D->jp b j (k+1)=jp b j k):=lh (fun j E RX=>by rw [UB.out,if_neg (fun e=>RX (by rw [O,e]))]);generalize b.getD k 0=x at *
   have QS:∀ y∈[x],i7 .i64 y:=by simp only [i5,n7];exact hx
   have RI:=lh (fun (W:World)=>aU (k:=.i64) (w:=W) (t:=3) (l:=[x]) rfl Qj QS 1 rfl rfl);have TU:=lh (show ((jp b D k).length+[x].length)*8<=140737488355328 by have:=Ta.out D k;simp;omega);have Tn:=lh (fun (o:Obj)=>(show w.heap.size+1<=(wr.alloc o).heap.size by have:=QP.out.size;have:=Yg.out;simp;omega));have Hvl:=lh hvl;have HCv:=lh cv;obtain ⟨vk,I⟩:=bu (vs.getD D ai)
   rw [<- I] at cv SG SU;have Hvk:=lh I;clear QS hx hvl Y c1 O I
   go_wp2_with (first
    | (at_builtin;refine au rfl (.tmp 32) (.tmp 34) _ rfl EI (SG.out.quiet (BS)) rfl (RI.out _) rfl TU.out (Tn.out _) (fun v1 J QG Rc=>?_);obtain ⟨g1,Sb,UU,_,_⟩:=QG.form Qb;have SD:=lh QG;have Sa:=lh Rc;have SM:J.heap[w.heap.size]?=some (.cells vs.toArray 22):=Sa.out.only.rowAt ((ae.new wr _).rowAt SA.out Qb) (fun hm=>by have:=SU.out w.heap.size Qr;omega);have cx3:J.cell? ⟨w.heap.size,D,none⟩=some vk:=(by rw [RG SM,<- RG SA.out];exact cv);have fx3:=Sz J w.heap.size D _ _ SM;have Wk:=lh SM;clear QG Rc SM;obtain ⟨N1,V⟩:=bu ((jp b D k ++ [x]).length);rw [<- V] at UU;subst UU;clear V)
    | fail)
   have Uf:=WG J w.heap.size D _ _ (.slice g1 N1 Sb) Wk.out;rw [Pf] at Uf;have hso:ae [w.heap.size] J (J.setCell ⟨w.heap.size,D,none⟩ (.slice g1 N1 Sb)):=(AY).setCell Qb _;have hA:p9 (vs.getD D ai) (wr.alloc (.cells #[x] 3)) (.slice g1 N1 Sb) J:=by rw [<- Hvk.out];exact Sa.out
   have JhS:=((L.out.quiet (ae.new wr (.cells #[x] 3))).grow (L':=fun j=>jp b j (k+1)) F hA (by rw [HM1.out];exact SD.out) (fun j E RX=>HM2.out j E RX)).out hso Qa;refine ⟨⟨k+1,vs.set D (.slice g1 N1 Sb),Qa,Qh,lh Uf,lh JhS,lh (fun j=>?_),lh ?_⟩,Qf⟩
   ·by_cases XQ:j=D
    ·subst XQ
     rw [dM (bC Hvl F)];exact Sa.out.from_ SU.out (Tn.out _)
    ·rw [eO XQ];exact UA.out j
   ·exact (QP.out.trans ((ae.new wr _).trans Sa.out.only (U:=vk.ownBlock.toList) Qb (fun g h _=>h)) (U:=[w.heap.size]) (fun _ h _=>h) (fun g hg QH=>by have h1:=SU.out g Qn;have h2:=Yg.out;omega)).trans hso (fun _ h _=>h) (fun _ h _=>h)
  ·obtain rfl:k=64:=Qa
   have Rt:¬ ((64:Nat):Int)<64:=Qa;go_wp2_with fail;refine QF.out _ _ ⟨vs,rfl,SA.out,⟨L.out.len,fun j E=>?_,L.out.apart⟩,N.out.trans QP.out Qb (fun g hg QH=>Qd)⟩;rw [<- Jay.out j E];exact L.out.own j E
end
theorem vF {b top left:List Int} {corner:Int} (h:∀ m:Nat,dF b (bi m top left corner)<=16320):∀ (ms:List Nat) (r:Nat×Int),r.2<=16320->(r.2<0->ms≠[])->0<=(fF b top left corner ms r).2/\(fF b top left corner ms r).2<=16320
 | [],r,h1,h2=>⟨by (have:¬ r.2<0:=fun e=>h2 e rfl);show 0<=r.2;omega,h1⟩
 | m :: ms,r,h1,h2=>by
  unfold fF;have D:=mV b (bi m top left corner);refine vF h ms _ ?_ ?_
  ·split
   ·exact h m
   ·exact h1
  ·split
   ·intro e;simp only at e;omega
   ·rename_i hn;intro e;exact absurd (Or.inl e) hn
theorem ni {f:ah} (F:ar f.pix) {b:List Int} (J:ar b) (x y:Int) {n:Nat} (D:n=4\/n=8) (I:b.length=n*n):0<=(aI f b x y n).2/\(aI f b x y n).2<=16320:=by
 refine vF (fun m=>?_) _ _ Ql Qb;have E:=iR F x y (n:=n) (by rcases D with rfl | rfl <;> omega) m;exact (Fr (by rw [I];rcases D with rfl | rfl <;> omega) J E.2).2
section
theorem GV {q lo hi Wi Uq:Nat} {pv bv:Value} {f:ah} {b:List Int} {w:World} (Z:FrOk f) (h:aj .i64 lo hi w pv f.pix) (hb:aj .i64 Wi Uq w bv b) (lb:b.length=64) (sb:ar b) (x y:Int) (hx:0<=x) (Ry:x+8<=f.W) (hy:0<=y) (RJ:y+8<=f.H) (hq:q<=15) :
  Calls prog 75 #[.agg #[f.W,f.H,pv],bv,x,y,q] w fun e w'=>∃ vs,e=.returned (.tuple #[.agg (j1 3 0 (fp f b x y q).1 0 0 ai vs).toArray,.int .i64 (fp f b x y q).2.2])/\(fp f b x y q).1.length=4/\ep w.heap.size w'.heap.size w' ai vs [] (fp f b x y q).2.1/\ae [] w w':=by
 refine aK fun Q QF=>?_
 have QJ:=Z.len;have hWW:=Z.w0;have hHH:=Z.h0;have Rs:=Z.w1;have hH1:=Z.h1;have hWH:f.W*f.H<=32*32:=A3 Z.w1 Z.h1 Qa Qa;have Jkl:8*8<=f.W*f.H:=A3 Z.w0 Z.h0 Qa Qa;have UK:=lh (fun (W:World) (o:ae [] w W)=>qH (h.quiet o) Qa Qa);have HQu:=lh (fun (W:World) (o:ae [] w W)=>Bk (hb.quiet o) lb);have Zx:=lh (fun (W:World) (P:List Int) (l1 h1 l2 h2:Nat) (v1 v2:Value) (c:List Int) (D E:Int) (hP:FrOk ⟨f.W,f.H,P⟩) (i1:aj .i64 l1 h1 W v1 P) (i2:aj .i64 l2 h2 W v2 c) (lc:c.length=16) (sc:ar c) (hx:0<=D) (Ry:D+4<=f.W) (hy:0<=E) (RJ:E+4<=f.H)=>Au (n:=4) (q:=q) (f:=⟨f.W,f.H,P⟩) (.inl rfl) hP i1 i2 lc sc D E hx Ry hy RJ hq);have JxO:=lh (fun (W:World) (P:List Int) (lo hi g cap base:Nat) (lv:Value) (l:List Int) (D E mode:Int) (hP:FrOk ⟨f.W,f.H,P⟩) (hp:f9 .i64 3 base W (.slice g P.length cap) P) (hl:aj .i64 lo hi W lv l) (hg:g<lo\/hi<=g) (Th:l.length=16) (Re:cE l) (hm:0<=mode/\mode<=3) (hx:0<=D) (Ry:D+4<=f.W) (hy:0<=E) (RJ:E+4<=f.H)=>nN (n:=4) (q:=q) (f:=⟨f.W,f.H,P⟩) hP hp hl hg (.inl rfl) Th Re hq hm hx Ry hy RJ);have HDk:=lh (fun (P:List Int) (hP:FrOk ⟨f.W,f.H,P⟩) (c:List Int) (lc:c.length=16) (sc:ar c) (D E:Int) (hx:0<=D) (Ry:D+4<=f.W) (hy:0<=E) (RJ:E+4<=f.H)=>(⟨iD (n:=4) (q:=q) (.inl rfl) hP.sam lc sc D E hq,jl hP (n:=4) hx Ry hy RJ (iD (n:=4) (q:=q) (.inl rfl) hP.sam lc sc D E hq).1 Qa ((aI ⟨f.W,f.H,P⟩ c D E 4).1:Int) (q:Int),js _ _ _ _ _,ni hP.sam sc D E (n:=4) (.inl rfl) lc⟩:((fV ⟨f.W,f.H,P⟩ c D E 4 q).length=16/\cE (fV ⟨f.W,f.H,P⟩ c D E 4 q))/\FrOk (ek ⟨f.W,f.H,P⟩ D E 4 ((aI ⟨f.W,f.H,P⟩ c D E 4).1:Int) (q:Int) (fV ⟨f.W,f.H,P⟩ c D E 4 q))/\(aI ⟨f.W,f.H,P⟩ c D E 4).1<=3/\0<=(aI ⟨f.W,f.H,P⟩ c D E 4).2/\(aI ⟨f.W,f.H,P⟩ c D E 4).2<=16320));have HQs:=lh (fun j=>(⟨ii b j,iV sb j⟩:(av b j).length=16/\ar (av b j)));have HE:Hid (fp f b x y q=fB b x y q 4 0 ⟨f.W,f.H,f.pix⟩ [] [] 24):=lh rfl;have XN:=lh Z;have Ta:=lh (fun (P:List Int) (hP:FrOk ⟨f.W,f.H,P⟩)=>(by have h1:(P.length:Int)=f.W*f.H:=hP.len;omega:P.length=f.pix.length))
 obtain ⟨pa,pc,rfl,-⟩:=h.open;obtain ⟨qa,qc,rfl,-⟩:=hb.open;rw [lb];rw [lb] at HQu;have HLp:Hid (0<f.pix.length):=lh Qa;obtain ⟨FE,hFE⟩:=bu (fp f b x y q)
 rw [<- hFE] at HE QF;clear h hb lb sb Z hq QJ hWH Jkl hFE;generalize f.pix.length=NL at *
 have HP0:=lh (Ta.out f.pix XN.out);have QT:Hid (ae [] w ((w.alloc (.cells #[f.W,f.H,.slice pa NL pc] 24)).alloc (.cells xT 76))):=lh ((ae.new w _).alloc _);have HR0:Hid (((w.alloc (.cells #[f.W,f.H,.slice pa NL pc] 24)).alloc (.cells xT 76)).heap[w.heap.size]?=some (.cells #[f.W,f.H,.slice pa NL pc] 24)):=lh ((ae.new (w.alloc _) _).row (Sd w _));have Rg:Hid (bI (w.heap.size+1) ((w.alloc (.cells #[f.W,f.H,.slice pa NL pc] 24)).alloc (.cells xT 76)) 0 0 [0,0,0,0] 0 0 ai [ai,ai,ai,ai]):=ak Qb;have Xs:Hid (w.heap.size+1<((w.alloc (.cells #[f.W,f.H,.slice pa NL pc] 24)).alloc (.cells xT 76)).heap.size):=lh Qb;obtain ⟨a0,a1,a2⟩:=ag HR0.out;go_enter func75,ntmps75;go_wp2_with fail;generalize VZ:World.alloc (World.alloc w _) _=W2 at *
 clear VZ a0 a1 a2;refine (UK.out W2 QT.out).mono ?_;rintro e w3 ⟨v3,rfl,ZP,QQ⟩;obtain ⟨I,TA,rfl,hg0,Juy⟩:=ZP.form (by rw [HP0.out];exact HLp.out);rw [HP0.out] at ZP |-
 have Ui:=lh ZP;have QW:=lh QQ;have HG0:=lh (VL hg0 Juy);have JjN:=lh (QQ.row HR0.out);clear ZP QQ hg0 Juy UK;obtain ⟨a0,a1,a2⟩:=ag JjN.out;have f2:=Sz w3 w.heap.size 2 _ _ JjN.out;have XS:=WG w3 w.heap.size 2 _ _ (.slice I NL TA) JjN.out;have Jic:ae [w.heap.size] w3 (w3.setCell ⟨w.heap.size,2,none⟩ (.slice I NL TA)):=(AY).setCell Qb _;have HR4:Hid ((w3.setCell ⟨w.heap.size,2,none⟩ (.slice I NL TA)).heap[w.heap.size]?=some (.cells #[f.W,f.H,.slice I NL TA] 24)):=lh XS;have JjE:=lh Jic;clear XS Jic;go_wp2_with fail;have Jvw:(w3.setCell ⟨w.heap.size,2,none⟩ (.slice I NL TA)).heap.size=w3.heap.size:=by simp [World.setCell]
 have Jhd:=lh Jvw;clear Jvw;generalize XO:World.setCell w3 _ _=W4 at *
 clear XO a0 a1 a2 f2;have Rh:Hid (ae [] w W4):=lh ((QT.out.q QW.out).trans JjE.out Qb (fun g hg QH=>Qd));refine (HQu.out W4 Rh.out).mono ?_;rintro e w5 ⟨qs,rfl,hqr,hqf,RF⟩;have HQR:=lh hqr;have HQF:=lh hqf;have Rk:=lh RF;clear hqr hqf RF HQu;go_wp2_with fail;have WM:W4.heap.size=w3.heap.size:=Jhd.out;have HN:Hid (w.heap.size+1<W2.heap.size/\W2.heap.size<=I/\I<W4.heap.size/\W4.heap.size<w5.heap.size):=lh ⟨Xs.out,HG0.out.1,by rw [WM];exact HG0.out.2,(l8.1 HQR.out).1⟩;obtain ⟨J,hBS⟩:=bu w5.heap.size
 obtain ⟨GQ,hGQ⟩:=bu W4.heap.size
 have Vf:ae [] w5 (w5.alloc (.cells (j1 3 0 [0,0,0,0] 0 0 ai [ai,ai,ai,ai]).toArray 76)):=BS;have HRS:Hid (bI J (w5.alloc (.cells (j1 3 0 [0,0,0,0] 0 0 ai [ai,ai,ai,ai]).toArray 76)) 3 0 [0,0,0,0] 0 0 ai [ai,ai,ai,ai]):=lh (by rw [hBS];exact LD);have HR6:=lh (Vf.row (Rk.out.row HR4.out));have JyV:Hid (bI (w.heap.size+1) (w5.alloc (.cells (j1 3 0 [0,0,0,0] 0 0 ai [ai,ai,ai,ai]).toArray 76)) 0 0 [0,0,0,0] 0 0 ai [ai,ai,ai,ai]):=Vf.row (Rk.out.row (JjE.out.rowAt (QW.out.row Rg.out) Qb));have HQA:=lh (Vf.row HQR.out);have UM:=lh (fun j (hj:j<4)=>((HQF.out.own j hj).ints.quiet Vf:aj .i64 (W4.heap.size+1) w5.heap.size _ (qs.getD j ai) (av b j)));have HQl:=lh HQF.out.len;have XK:=lh ((((Ui.out.only JjE.out (fun g hg e=>by rw [i5] at hg;simp only [Value.ownBlock,PO] at e;have:=HN.out;omega)).quiet Rk.out).quiet Vf).lower (base':=w.heap.size) QT.out.size);have SJ:=lh ((Rh.out.q Rk.out).q Vf);have VN:Hid (J<(w5.alloc (.cells (j1 3 0 [0,0,0,0] 0 0 ai [ai,ai,ai,ai]).toArray 76)).heap.size):=lh (by rw [hBS];simp);rw [<- hBS] at HN UM;rw [<- hGQ] at HN HQA UM |-
 rw [<- hBS];have hw6:w5.alloc (.cells #[.int .i64 3,(),(),(),(),(),(),(),d8,d8,d8,d8,d8] 76)=w5.alloc (.cells (j1 3 0 [0,0,0,0] 0 0 ai [ai,ai,ai,ai]).toArray 76):=rfl;rw [hw6];clear hw6 Vf WM hBS hGQ HQR HQF Rk HR4 JjE QW JjN HR0 Rg Ui Jhd Rh QT HG0 Xs;generalize World.alloc w5 _=W6 at *
 have O:Hid (w.heap.size∉[I,J]/\w.heap.size+1∉[I,J]/\GQ∉[I,J]/\J≠I):=lh (by have:=HN.out;simp only [Pg,Ph,l7];omega);go_loopw [35,15] (fun i cv wr=>∃ (k:Nat) (P ms:List Int) (vs:List Value) (V:List (List Int)) (c:Int),k<=4/\i=.int .i64 k/\cv=.int .i64 c/\Hid (FrOk ⟨f.W,f.H,P⟩)/\Hid (f9 .i64 3 w.heap.size wr (.slice I NL TA) P)/\Hid (bI J wr 3 0 ms 0 0 ai vs)/\Hid (ms.length=4/\vs.length=4/\V.length=k)/\Hid (∀ j,j<k->aj .i64 (J+1) wr.heap.size wr (vs.getD j ai) (V.getD j []))/\Hid (fB b x y q (4-k) k ⟨f.W,f.H,P⟩ (ms.take k) V c=FE)/\Hid (0<=c/\c<=24+70000*k)/\Hid (ae [I,J] W6 wr)) (fun i _ _=>4-(intOf i).toNat)
 case atStart=>exact ⟨0,f.pix,[0,0,0,0],[ai,ai,ai,ai],[],24,Qa,rfl,rfl,XN,XK,HRS,lh ⟨rfl,rfl,rfl⟩,lh (fun j hj=>absurd hj Qa),lh HE.out.symm,lh Qa,lh (AY)⟩
 case round =>
  obtain ⟨k,P,ms,vs,V,c,hk,rfl,rfl,Us,QX,Xi,F,Jhk,Tk,Hc,QP⟩:=hrel;by_cases QH:k<4
  ·have Rt:(k:Int)<4:=Qa
   have RA:(0:Int)<=(k:Int):=Qa;have UL:Hid (P.length=NL):=Ta.out P Us.out;obtain ⟨a0,a1,a2⟩:=ag (QP.out.rowAt HR6.out O.out.1);have hqa:=QP.out.rowAt HQA.out O.out.2.2.1;have cq:wr.cell? ⟨GQ,k,none⟩=some (qs.getD k ai):=by
    rw [RG hqa,C4,Pd,Pe (j0 HQl.out)];rfl
   have hqi:=(UM.out k QH).only QP.out (fun g hg=>by have:=HN.out;simp only [Pg,Ph,l7] at hg;omega);have Yl:=HQs.out k;obtain ⟨ca,cc,hcv,-⟩:=hqi.open;rw [Yl.1] at hcv;rw [hcv] at cq hqi;have HQi:=lh hqi;have Hqs:=lh Yl;clear hqa hqi Yl hcv;have d1:(k:Int).tmod 2=((k % 2:Nat):Int):=by rw [PR RA];rfl
   have d2:(k:Int).tdiv 2=((k / 2:Nat):Int):=by rw [TY RA];rfl
   have d3:IntKind.i64.wrap (((k % 2:Nat):Int)*4)=((k % 2:Nat):Int)*4:=Qe;have d4:IntKind.i64.wrap ((k / 2:Nat):Int)=((k / 2:Nat):Int):=Qe;have d5:IntKind.i64.wrap (((k / 2:Nat):Int)*4)=((k / 2:Nat):Int)*4:=Qe;obtain ⟨M,hAX⟩:=bu (x+((k % 2:Nat):Int)*4)
   obtain ⟨N,hAY⟩:=bu (y+((k / 2:Nat):Int)*4)
   have bx:0<=M/\M+4<=f.W:=Qa;have bY:0<=N/\N+4<=f.H:=Qa;have d6:IntKind.i64.wrap (x+((k % 2:Nat):Int)*4)=M:=by rw [<- hAX,Pk];omega
   have d7:IntKind.i64.wrap (y+((k / 2:Nat):Int)*4)=N:=by rw [<- hAY,Pk];omega
   have HB:=lh (VL bx bY);have Tm:Hid (fB b x y q (4-k) k ⟨f.W,f.H,P⟩ (ms.take k) V c=fB b x y q (4-(k+1)) (k+1) (ek ⟨f.W,f.H,P⟩ M N 4 (aI ⟨f.W,f.H,P⟩ (av b k) M N 4).1 q (fV ⟨f.W,f.H,P⟩ (av b k) M N 4 q)) (ms.take k ++ [((aI ⟨f.W,f.H,P⟩ (av b k) M N 4).1:Int)]) (V ++ [fV ⟨f.W,f.H,P⟩ (av b k) M N 4 q]) (c+4*(aI ⟨f.W,f.H,P⟩ (av b k) M N 4).2)):=lh (by
    obtain ⟨k3,Ub⟩:∃ k3,4-k=k3+1:=⟨3-k,Qa⟩
    rw [Ub,show 4-(k+1)=k3 by omega,hAX,hAY]
    rfl)
   have hdk:=HDk.out P Us.out (av b k) Hqs.out.1 Hqs.out.2 M N bx.1 bx.2 bY.1 bY.2;have Vm:=Zx.out wr P _ _ _ _ _ _ (av b k) M N Us.out QX.out.ints HQi.out Hqs.out.1 Hqs.out.2 bx.1 bx.2 bY.1 bY.2;have Uh:=lh hdk.1;have HFr:=lh hdk.2.1;obtain ⟨hm3,hs0,Ru⟩:=hdk.2.2;have Sx:=lh Vm;generalize hbe:aI ⟨f.W,f.H,P⟩ (av b k) M N 4=BE at *
   obtain ⟨bm,bs⟩:=BE;simp only at hm3 hs0 Ru Tm HFr Sx;generalize hL:fV ⟨f.W,f.H,P⟩ (av b k) M N 4 q=L at *
   obtain ⟨TM,Sq⟩:=Hc.out;have e1:IntKind.i64.wrap (4*bs)=4*bs:=Qe;have e2:IntKind.i64.wrap (c+4*bs)=c+4*bs:=Qe;clear hdk Vm bx bY hAX hAY hbe hL;generalize ((k % 2:Nat):Int)=D1 at *
   generalize ((k / 2:Nat):Int)=D2 at *
   go_wp2_with fail;clear d1 d2 d3 d4 d5 d6 d7;refine Sx.out.mono ?_;rintro e w7 ⟨v7,rfl,ho7,TZ⟩;obtain ⟨gL,Jco,rfl,hgL,JJx⟩:=ho7.form (by rw [Uh.out.1];omega);rw [Uh.out.1] at ho7 |-
   have Uj:=lh ho7;have WS:=lh TZ;have hs7:bI J w7 3 0 ms 0 0 ai vs:=TZ.row Xi.out;clear ho7 TZ a0 a1 a2 cq Sx;have x1:=hs7.cell (ij F.out.1 QH);have y1:=Sz w7 J (2+k) _ _ hs7;obtain ⟨hsA,hoA⟩:=hs7.set (rJ F.out.1 QH (bm:Int));have RQ:(ms.set k (bm:Int)).length=4:=by rw [PF];exact F.out.1
   have x2:=hsA.cell (dO RQ F.out.2.1 QH);have y2:=Sz _ J (9+k) _ _ hsA;obtain ⟨hsB,hoB⟩:=hsA.set (qx RQ F.out.2.1 QH (.slice gL 16 Jco));have HSB:=lh hsB;have Y:=lh (hoA.trans hoB (U:=[J]) (fun _ h _=>h) (fun _ h _=>h));have Juc:(0:Int)<=(bm:Int):=Qa;clear hs7 hsA hoA hsB hoB RQ;have r7:=WS.out.row (QP.out.rowAt HR6.out O.out.1);have r8:=Y.out.rowAt r7 (by have:=O.out;simp only [i5,Pg,Ph,l7] at this |-;omega);obtain ⟨a0,a1,a2⟩:=ag r8;go_wp2_with fail;clear x1 y1 x2 y2 r7 a0 a1 a2;generalize hW8:World.setCell (World.setCell w7 _ _) _ _=W8 at *
   clear hW8 r8;have Ww:=lh ((QX.out.quiet WS.out).only Y.out (fun g hg e=>by rw [i5] at hg;simp only [Value.ownBlock,PO] at e;have:=O.out.2.2.2;omega));have HI8:=lh (Uj.out.ints.only Y.out (fun g hg=>by rw [i5] at hg;have:=QP.out.size;have:=VN.out;omega));have JAW:I<wr.heap.size:=by have:=HN.out;have:=QP.out.size;have:=VN.out;omega
   have JfB:=JxO.out W8 P _ _ I TA w.heap.size _ L M N (bm:Int) Us.out (by rw [UL.out];exact Ww.out) HI8.out (.inl JAW) Uh.out.1 Uh.out.2 ⟨Juc,Qa⟩ HB.out.1.1 HB.out.1.2 HB.out.2.1 HB.out.2.2;rw [UL.out] at JfB;have HDe:=lh JfB;clear JfB;refine HDe.out.mono ?_;rintro e w9 ⟨rfl,Vc,SR⟩;have HO9:=lh Vc;have SP:=lh SR;clear Vc SR HDe;go_wp2_with fail;have z1:=WS.out.size;have z2:=Y.out.size;have z3:=SP.out.size;have z4:=QP.out.size;have z5:=VN.out;have JdN:ae [I,J] wr w9:=((WS.out.mono (U:=[I,J]) Qb).trans Y.out (U:=[I,J]) (fun _ h _=>h) (fun g h _=>by rw [i5] at h;subst h;simp)).trans SP.out (U:=[I,J]) (fun _ h _=>h) (fun g h _=>by rw [i5] at h;subst h;simp);refine ⟨⟨k+1,(ek ⟨f.W,f.H,P⟩ M N 4 bm q L).pix,ms.set k bm,vs.set k (.slice gL 16 Jco),V ++ [L],c+4*bs,Qa,Qh,rfl,HFr,HO9,lh (SP.out.rowAt HSB.out (by have:=O.out.2.2.2;simp only [i5];omega)),lh ⟨by rw [PF];exact F.out.1,by rw [PF];exact F.out.2.1,by rw [Pn,F.out.2.2];rfl⟩,lh (fun j hj=>?_),lh ?_,lh ?_,lh (QP.out.trans JdN (fun _ h _=>h) (fun _ h _=>h))⟩,Qf⟩
   ·by_cases XQ:j=k
    ·subst XQ
     have e2:(V ++ [L]).getD j []=L:=by
      rw [Pd,Pt (by rw [F.out.2.2];exact Pm _),F.out.2.2,Nat.sub_self];rfl
     rw [dM (j0 F.out.2.1),e2];exact (HI8.out.only SP.out (fun g hg=>Qd)).mono Qa Qa
    ·have hjl:j<k:=Qa
     have e2:(V ++ [L]).getD j []=V.getD j []:=by
      rw [Pd,Pu (by rw [F.out.2.2];exact hjl),<- Pd]
     rw [eO XQ,e2];exact ((Jhk.out j hjl).only JdN (fun g hg=>by have:=HN.out;simp only [Pg,Ph,l7] at hg;omega)).mono (Pm _) JdN.size
   ·rw [xp F.out.1 QH,<- Tk.out,Tm.out];rfl
   ·have:=Hc.out;omega
  ·obtain rfl:k=4:=Qa
   have Rt:¬ ((4:Nat):Int)<4:=Qa;have HF:Hid (FE=(ms,V,c)):=lh (by rw [<- Tk.out,YN (j0 F.out.1)];rfl);have QS:ep (J+1) wr.heap.size wr ai vs [] V:=⟨aj.nil _ _ _ _,F.out.2.1,fun i hi=>Jhk.out i hi⟩
   have Tg:=lh QS;have Xo:=lh (iY (k:=3) (mo:=0) (ms:=ms) (vx:=0) (vy:=0) (lv:=ai) (vs:=vs) F.out.1 F.out.2.1);have Vq:=lh (eh (k:=3) (mo:=0) (ms:=ms) (vx:=0) (vy:=0) (lv:=ai) (vs:=vs) rfl QS.one.2);have YE:=lh (dD (k:=0) (mo:=0) (ms:=[0,0,0,0]) (vx:=0) (vy:=0) (lv:=ai) (vs:=[ai,ai,ai,ai]) (k':=3) (mo':=0) (ms':=ms) (vx':=0) (vy':=0) (lv':=ai) (vs':=vs) rfl rfl F.out.1 F.out.2.1);have RT:=lh underlying76;have HRt:=lh (QP.out.rowAt JyV.out O.out.2.1);have Vv:=lh (show bI (w.heap.size+1) (wr.setRow (w.heap.size+1) (j1 3 0 ms 0 0 ai vs).toArray) 3 0 ms 0 0 ai vs from m7 wr (w.heap.size+1) _ _ _ _ HRt.out);have VU:=lh (ae.setRow (S:=[w.heap.size+1]) (ae.refl _ wr) (g:=w.heap.size+1) (fun _=>Qb) (j1 3 0 ms 0 0 ai vs).toArray);clear QS
   go_wp2_with (first
    | (refine az rfl (.tmp 14) 76 rfl rfl Xi.out RT.out rfl Xo.out ?_)
    | (refine am rfl (.tmp 10) (.tmp 80) 76 rfl rfl rfl HRt.out Xo.out YE.out Vq.out ?_)
    | fail)
   rw [HF.out] at QF;have z1:=VU.out.size;have z2:=QP.out.size;have z3:=HN.out;have z4:=VN.out;refine TV (v:=.tuple #[.agg (j1 3 0 ms 0 0 ai vs).toArray,c]) (cw results75 _ _ (w.heap.size+1) _ _ _ _ _ rfl rfl Vv.out RT.out rfl Xo.out) rfl (QF.out _ _ ⟨vs,rfl,F.out.1,?_,?_⟩)
   ·have ZK:=Tg.out.only VU.out (fun g hg=>Qd)
    exact ⟨ZK.large.mono Qa Qa,ZK.len,fun i hi=>(ZK.small i hi).mono Qa Qa⟩
   ·exact ((SJ.out.trans QP.out (U:=[]) Qb (fun g hg QH=>by simp only [Pg,Ph,l7] at hg;omega))).trans VU.out (U:=[]) Qb (fun g hg QH=>Qd)
end
structure oC (BQ LB base:Nat) (w:World) (r:j4×Int):Prop where
 least:w.heap[LB]?=some (.cells #[r.2] 3)
 best:∃ lv vs,bI BQ w r.1.kind r.1.mode r.1.modes r.1.vx r.1.vy lv vs/\ep base w.heap.size w lv vs r.1.large r.1.small
 ml:r.1.modes.length=4
 lt:BQ<base/\LB<base/\BQ≠LB
theorem oC.quiet {BQ LB base:Nat} {w w':World} {r:j4×Int} (h:oC BQ LB base w r) (o:ae [] w w'):oC BQ LB base w' r:=by
 obtain ⟨lv,vs,h1,E⟩:=h.best;have D:=E.only o Qb;exact ⟨o.row h.least,⟨lv,vs,o.row h1,⟨D.large.mono (Pm _) o.size,D.len,fun i hi=>(D.small i hi).mono (Pm _) o.size⟩⟩,h.ml,h.lt⟩
theorem ep.grown {lo:Nat} {w w':World} {lv:Value} {vs:List Value} {L:List Int} {S:List (List Int)} (h:ep lo w.heap.size w lv vs L S) {T:List Nat} (o:ae T w w') (hT:∀ g∈T,g<lo):ep lo w'.heap.size w' lv vs L S:=by
 have D:=h.only o (fun g E=>.inl (hT g E));exact ⟨D.large.mono (Pm _) o.size,D.len,fun i hi=>(D.small i hi).mono (Pm _) o.size⟩
section
theorem Fp {p:Prop} (h:p:=by
 clear hc;go_enter func68,ntmps68
 go_wp2_with (first
  | (refine az rfl (.tmp 4) 76 rfl rfl JgM.out RT.out rfl HI.out ?_)
  | (refine am rfl (.tmp 3) (.tmp 13) 76 rfl rfl rfl HB.out HI.out HS.out H1.out ?_)
  | fail)
 exact y4 (y8 results68 _ _ _) rfl (QF.out _ _ ⟨rfl,RU.out⟩)):p:=h
theorem GW {LB BQ:Nat} {C D:Array Value} {E c:Int} {w:World} (L:w.heap[LB]?=some (.cells #[E] 3)) (J:w.heap[BQ]?=some (.cells C 76)) (RX:BQ≠LB) (h1:D.all (·.oneCell')=true) (hs:C.size=D.size) (hi:(prog.info? 76).map (·.size)=some D.size) :
  Calls prog 68 #[.agg D,c,.pointer LB,.pointer BQ] w fun e w'=>e=.returned (.tuple #[])/\w'.heap[LB]?=some (.cells #[.int .i64 (if E<0\/c<E then c else E)] 3)/\w'.heap[BQ]?=some (.cells (if E<0\/c<E then D else C) 76)/\ae [LB,BQ] w w':=by
 refine aK fun Q QF=>?_
 have M:=ae.new w (.cells D 76);have JgM:=lh (Sd w (.cells D 76));have N:=lh (M.row L);have HB:=lh (M.row J);have V:=lh M;have HI:=lh hi;have HS:=lh hs;have H1:=lh h1;have hlw:=(l8.1 L).1;have hbw:=(l8.1 J).1;have RT:=lh underlying76;have c0:(w.alloc (.cells D 76)).cell? ⟨LB,0,none⟩=some (.int .i64 E):=by rw [RG N.out];rfl
 clear M hi hs h1;have I:(E<0\/c<E)->Calls prog 68 #[.agg D,c,.pointer LB,.pointer BQ] w Q:=by
  intro hc;rw [if_pos hc,if_pos hc] at QF;have Z:=m7 (w.alloc (.cells D 76)) BQ _ D _ _ HB.out;have O:=ae.setRow (S:=[BQ]) (ae.refl _ (w.alloc (.cells D 76))) (g:=BQ) (fun _=>Qb) D;have F:=O.rowAt N.out (by simp only [i5];omega);have c2:((w.alloc (.cells D 76)).setRow BQ D).cell? ⟨LB,0,none⟩=some (.int .i64 E):=dx F
  have f2:=Sz _ LB 0 _ _ F;have SQ:=lh Z;have WI:=lh O;have Y:=WG _ LB 0 _ _ (.int .i64 c) F;have ZP:ae [LB] ((w.alloc (.cells D 76)).setRow BQ D) (((w.alloc (.cells D 76)).setRow BQ D).setCell ⟨LB,0,none⟩ (.int .i64 c)):=(AY).setCell Qb _;have Wk:=lh Y;have Ui:=lh ZP;clear Z O F Y ZP L J;have RU:Hid ((((w.alloc (.cells D 76)).setRow BQ D).setCell ⟨LB,0,none⟩ (.int .i64 c)).heap[LB]?=some (.cells #[c] 3)/\(((w.alloc (.cells D 76)).setRow BQ D).setCell ⟨LB,0,none⟩ (.int .i64 c)).heap[BQ]?=some (.cells D 76)/\ae [LB,BQ] w (((w.alloc (.cells D 76)).setRow BQ D).setCell ⟨LB,0,none⟩ (.int .i64 c))):=lh ⟨Wk.out,Ui.out.rowAt SQ.out (by simp only [i5];omega),((V.out.mono (U:=[LB,BQ]) Qb).trans WI.out (U:=[LB,BQ]) (fun _ h _=>h) (fun g h _=>by rw [i5] at h;subst h;simp)).trans Ui.out (fun _ h _=>h) (fun g h _=>by rw [i5] at h;subst h;simp)⟩;by_cases hn:E<0
  ·exact Fp
  ·have SE:c<E:=hc.elim (fun h=>absurd h hn) id
   exact Fp
 by_cases hc:E<0\/c<E
 ·exact I hc
 ·rw [if_neg hc,if_neg hc] at QF
  have n1:¬ E<0:=fun h=>hc (.inl h)
  have n2:¬ c<E:=fun h=>hc (.inr h)
  clear hc I L J;go_enter func68,ntmps68;go_wp2_with fail;exact y4 (y8 results68 _ _ _) rfl (QF.out _ _ ⟨rfl,N.out,HB.out,V.out.mono Qb⟩)
theorem oP {BQ LB base:Nat} {r:j4×Int} {s:j4} {c:Int} {w:World} {lv:Value} {vs:List Value} (h:oC BQ LB base w r) (J:s.modes.length=4) (I:ep base w.heap.size w lv vs s.large s.small) :
  Calls prog 68 #[.agg (j1 s.kind s.mode s.modes s.vx s.vy lv vs).toArray,c,.pointer LB,.pointer BQ] w fun e w'=>e=.returned (.tuple #[])/\oC BQ LB base w' (dZ r s c)/\ae [LB,BQ] w w':=by
 obtain ⟨L,M,hr,N⟩:=h.best;obtain ⟨Z,l2,Y⟩:=h.lt;refine (GW h.least hr Y (eh I.one.1 I.one.2) (dD h.ml N.len J I.len) (iY J I.len)).mono ?_;rintro e w' ⟨rfl,E,D,F⟩;have hT:∀ g∈[LB,BQ],g<base:=by intro g V;simp only [Pg,Ph,l7] at V;omega
 refine ⟨rfl,?_,F⟩;unfold dZ;by_cases O:r.2<0\/c<r.2
 ·rw [if_pos O] at E D |-
  exact ⟨E,⟨lv,vs,D,I.grown F hT⟩,J,h.lt⟩
 ·rw [if_neg O] at E D |-
  exact ⟨E,⟨L,M,D,N.grown F hT⟩,h.ml,h.lt⟩
end
section
theorem MJ {lo hi:Nat} {pv:Value} {w:World} {f:ah} (D:FrOk f) (h:aj .i64 lo hi w pv f.pix) (x y:Int) (hx:0<=x/\x<f.W) (hy:0<=y/\y<f.H) :
  Calls prog 125 #[.agg #[f.W,f.H,pv],x,y] w fun e w'=>e=.returned (.int .i64 (f.pix.getD (y*f.W+x).toNat 0))/\ae [] w w':=by
 have O:8<=f.W/\f.W<=32:=⟨D.w0,D.w1⟩
 have M:8<=f.H/\f.H<=32:=⟨D.h0,D.h1⟩
 obtain ⟨I,J,i3,i4⟩:=rU O M x y;rw [show min (max y 0) (f.H-1)=y by omega] at I J;rw [show min (max x 0) (f.W-1)=x by omega] at J;have QJ:=D.len;obtain ⟨b,off,cap,rfl,-,-,E⟩:=h.at (i:=(y*f.W+x).toNat) Qa;have Y:=lh (ae.new w (.cells #[f.W,f.H,.slice (some ⟨b,off,none⟩) f.pix.length cap] 24));have SE:=(ae.new w (.cells #[f.W,f.H,.slice (some ⟨b,off,none⟩) f.pix.length cap] 24)).cell E Qb;have Z:=lh (Sd w (.cells #[f.W,f.H,.slice (some ⟨b,off,none⟩) f.pix.length cap] 24));generalize f.pix.getD (y*f.W+x).toNat 0=v at *
 generalize f.pix.length=N at *
 generalize f.W=W at *
 generalize f.H=H at *
 obtain ⟨k,V⟩:∃ k:Nat,(y*W+x).toNat=k:=⟨_,rfl⟩
 have L:y*W+x=(k:Int):=Qa;rw [V] at E SE;obtain ⟨WL,RZ⟩:=hx;obtain ⟨Vo,XW⟩:=hy;obtain ⟨Rs,VZ⟩:=O;obtain ⟨hH1,hH2⟩:=M;have p1:¬ y<0:=Qa;have p2:¬ H-1<y:=Qa;have p3:¬ x<0:=Qa;have p4:¬ W-1<x:=Qa;have a1:IntKind.i64.wrap (H-1)=H-1:=Qe;have a2:IntKind.i64.wrap (W-1)=W-1:=Qe;have F:0<=y*W:=I;have a3:IntKind.i64.wrap (y*W)=y*W:=Qe;have a4:IntKind.i64.wrap (y*W+x)=(k:Int):=by rw [L,Pk];omega
 have q0:(0:Int)<=(k:Int):=Qa;have q1:(k:Int)<(N:Int):=Qa;clear E h D QJ I J i3 i4 V L F;obtain ⟨r0,r1,r2⟩:=ag Z.out;go_enter func125,ntmps125;go_wp2_with fail;go_ret;exact ⟨rfl,Y.out⟩
def ks (f:ah) (x y:Int) (k:Nat):List Int:=(List.range k).map fun i:Nat=>f.pix.getD ((y+((i / 8:Nat):Int))*f.W+(x+((i % 8:Nat):Int))).toNat 0
theorem kI (f:ah) (x y:Int) (k:Nat):(ks f x y k).length=k:=by simp [ks]
theorem vZ (f:ah) (x y:Int) {j i:Nat} (hi:i<8):ks f x y (j*8+i+1)=ks f x y (j*8+i) ++ [f.pix.getD ((y+(j:Int))*f.W+(x+(i:Int))).toNat 0]:=by
 have D:(j*8+i) / 8=j:=Qa;have e2:(j*8+i) % 8=i:=Qa;unfold ks;rw [Zh,PN,PU,PV,D,e2]
theorem zI (f:ah) (x y:Int):ks f x y 64=aP f x y 8:=by
 unfold ks aP;have e:∀ i:Nat,((y+((i / 8:Nat):Int))*f.W+(x+((i % 8:Nat):Int)))=(y+((i / 8:Nat):Int))*f.W+x+((i % 8:Nat):Int):=fun i=>by omega
 simp only [e]
 rfl
theorem Ku {lo hi:Nat} {pv:Value} {w:World} {f:ah} (D:FrOk f) (h:aj .i64 lo hi w pv f.pix) (x y:Int) (hx:0<=x/\x+8<=f.W) (hy:0<=y/\y+8<=f.H) :
  Calls prog 67 #[.agg #[f.W,f.H,pv],x,y,.int .i64 8] w fun e w'=>∃ v',e=.returned v'/\f9 .i64 3 w.heap.size w' v' (aP f x y 8)/\ae [] w w':=by
 refine aK fun Q QF=>?_
 obtain ⟨a,cap,rfl,-⟩:=h.open;have N:=ae.new w (sT f a cap);have Rg:=lh (Sd w (sT f a cap));have QO:=lh N;have HI:=lh (h.quiet N);have HM:=lh (fun (W:World) (o:aj .i64 lo hi W (.slice a f.pix.length cap) f.pix)=>by have:=jN f.W f.H o;rw [show cT ⟨f.W,f.H,f.pix⟩=true from dp.2 D] at this;exact this);have HA:=lh (fun (W:World) (o:aj .i64 lo hi W (.slice a f.pix.length cap) f.pix) (x y:Int) (hx:0<=x/\x<f.W) (hy:0<=y/\y<f.H)=>MJ D o x y hx hy);have YJ:=lh (fun k=>D.sam.at k);have HD:=lh (zI f x y);have hw1:=D.w1;have hh1:=D.h1;obtain ⟨WL,RZ⟩:=hx;obtain ⟨Vo,XW⟩:=hy;have x2:x<=24:=Qa;have y2:y<=24:=Qa;clear h N D;obtain ⟨r0,r1,r2⟩:=ag Rg.out;go_enter func67,ntmps67;go_wp2_with fail;clear r0 r1 r2;generalize Rs:World.alloc w _=W1 at *
 have UN:Hid (w.heap.size<W1.heap.size):=lh (by rw [<- Rs];simp);clear Rs;refine (HM.out W1 HI.out).mono ?_;rintro e w2 ⟨rfl,QN⟩;have QT:=lh QN;clear QN HM;go_wp2_with fail;go_loopw [40,9,44] (fun j r _ wr=>∃ (k:Nat),k<=8/\j=.int .i64 k/\Hid (f9 .i64 3 W1.heap.size wr r (ks f x y (k*8)))/\Hid (bj W1.heap.size r)/\Hid (ae [] W1 wr)) (fun j _ _ _=>8-(intOf j).toNat)
 case atStart=>exact ⟨0,Qa,rfl,lh (f9.nil _ _ _ _),lh (bj.nil _),QT⟩
 case round =>
  obtain ⟨k,hk,rfl,O,SU,QP⟩:=hrel;by_cases QH:k<8
  ·have Rt:(k:Int)<8:=Qa
   have RA:(0:Int)<=(k:Int):=Qa;go_wp2_with fail;go_loopw [44,9] (fun i r wr=>∃ (n:Nat),n<=8/\i=.int .i64 n/\Hid (f9 .i64 3 W1.heap.size wr r (ks f x y (k*8+n)))/\Hid (bj W1.heap.size r)/\Hid (ae [] W1 wr)) (fun i _ _=>8-(intOf i).toNat)
   case atStart=>exact ⟨0,Qa,rfl,O,SU,QP⟩
   case round =>
    obtain ⟨n,hn,rfl,F,L,E⟩:=hrel;by_cases M:n<8
    ·have Z:(n:Int)<8:=Qa
     have Xz:(0:Int)<=(n:Int):=Qa;have Sy:=lh (vZ f x y (j:=k) M);have HC:=lh (fun W o=>HA.out W o (x+(n:Int)) (y+(k:Int)) Qa Qa);have QS:=YJ.out ((y+(k:Int))*f.W+(x+(n:Int))).toNat;generalize f.pix.getD ((y+(k:Int))*f.W+(x+(n:Int))).toNat 0=hv at *
     have UF:∀ z∈[hv],i7 .i64 z:=by simp only [i5,n7,i7];omega
     have RI:=lh (fun (W:World)=>aU (k:=.i64) (w:=W) (t:=3) (l:=[hv]) rfl Qj UF 1 rfl rfl);have TU:=lh (show ((ks f x y (k*8+n)).length+[hv].length)*8<=140737488355328 by rw [kI];simp;omega);have Ra:Hid ((ks f x y (k*8+n) ++ [hv]).length=k*8+n+1):=lh (by rw [Pn,kI];rfl);obtain ⟨ra,VK,rfl,-⟩:=F.out.ints.open;rw [kI] at F L |-
     obtain ⟨r0,r1,r2⟩:=ag (E.out.row Rg.out);have Tg:=lh (HI.out.quiet E.out);clear UF QS;go_wp2_with fail;refine (HC.out _ Tg.out).mono ?_;rintro e w3 ⟨rfl,J⟩;have QW:=lh J;have Ui:=lh (F.out.quiet J);have Tn:=lh (fun (o:Obj)=>(show W1.heap.size<=(w3.alloc o).heap.size by have:=E.out.size;have:=J.size;simp;omega));clear J
     go_wp2_with (first
      | (at_builtin;refine au rfl (.tmp 47) (.tmp 56) _ rfl EI (Ui.out.quiet (BS)) rfl (RI.out _) rfl TU.out (Tn.out _) (fun v1 w4 I V=>?_);obtain ⟨x1,SV,RZ,_⟩:=I.ints.open;subst RZ;rw [Ra.out] at I V |-;have SD:=lh I;have Sa:=lh V;clear I V)
      | fail)
     refine ⟨⟨n+1,Qa,Qh,lh ?_,lh (Sa.out.from_ L.out (Tn.out _)),lh (((E.out.q QW.out).q (BS)).acc Sa.out L.out)⟩,Qf⟩;rw [<- Nat.add_assoc,Sy.out];exact SD.out
    ·obtain rfl:n=8:=Qa
     have Z:¬ ((8:Nat):Int)<8:=Qa;have Y:Hid (ks f x y (k*8+8)=ks f x y ((k+1)*8)):=lh (by rw [show (k+1)*8=k*8+8 by omega]);rw [Y.out] at F;go_wp2_with fail;exact ⟨⟨k+1,Qa,Qh,F,L,E⟩,Qf⟩
  ·obtain rfl:k=8:=Qa
   have Rt:¬ ((8:Nat):Int)<8:=Qa;have Y:Hid (ks f x y (8*8)=aP f x y 8):=HD;rw [Y.out] at O;go_wp2_with fail;exact QF.out _ _ ⟨_,rfl,O.out.lower (Nat.le_of_lt UN.out),QO.out.q QP.out⟩
end
end Go.Proofs.YthcafdfdglfabaaGreatDoor
