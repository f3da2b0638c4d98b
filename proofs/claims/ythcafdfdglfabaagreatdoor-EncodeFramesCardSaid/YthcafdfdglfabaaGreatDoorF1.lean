/- Joined texts: EFit, EPln, EFst. Conditions: each part names its own. -/
import Derived.Test.YthcafdfdglfabaaGreatDoorWD
import Derived.Test.YthcafdfdglfabaaGreatDoorZEGrey
namespace Go.Proofs.YthcafdfdglfabaaGreatDoor
open Go.RowKit
set_option linter.unusedVariables false
set_option linter.unusedSimpArgs false
set_option maxRecDepth 100000
set_option maxHeartbeats 16000000
def fV (src prev:ai) (key:Bool) (reach most:Int):Nat->Int->Except Int (kH×ai)
 | 0,_=>.ok (if key then (⟨4,[]⟩,ed src.W src.H 128) else (⟨3,[]⟩,prev))
 | n+1,qp=>match bP src prev key qp reach with
  | some k=>.error k
  | none=>if ((bT src prev key qp reach.toNat).data.length:Int)+8<=most then .ok (bT src prev key qp reach.toNat,(cG src prev key qp reach.toNat).1) else fV src prev key reach most n (qp+1)
def kE (src prev:ai) (key:Bool) (c:Cfg) (most:Int):Except Int (kH×ai) :=
 if mD c=false then .error 11 else if most<8 then .error 3 else fV src prev key c.reach most (c.qmax+1-c.qmin).toNat c.qmin
def Kw (src prev:ai) (key:Bool) (c:Cfg) (most:Int) (w:World) (e:Ending) (w':World):Prop :=
 ae [] w w'/\match kE src prev key c most with
  | .error k=>e=.returned (.tuple #[.agg #[(),JEu],.agg #[(),(),JEu],.iface 36 (.int .i64 k)])
  | .ok x=>∃ dv fv,e=.returned (.tuple #[.agg #[x.1.kind,dv],.agg #[x.2.W,x.2.H,fv],.nilIface])/\ah .u8 w.heap.size w'.heap.size w' dv x.1.data/\ah .i64 w.heap.size w'.heap.size w' fv x.2.pix
theorem jW {src prev:ai} {key:Bool} {reach most:Int} {n:Nat} {q:Int} (h:bP src prev key q reach=none) (hb:¬ ((bT src prev key q reach.toNat).data.length:Int)+8<=most):fV src prev key reach most (n+1) q=fV src prev key reach most n (q+1):=by
 simp only [fV,h,if_neg hb]
theorem qT {src prev:ai} {key:Bool} {reach most:Int} {n:Nat} {q:Int} (h:bP src prev key q reach=none) (hb:((bT src prev key q reach.toNat).data.length:Int)+8<=most):fV src prev key reach most (n+1) q=.ok (bT src prev key q reach.toNat,(cG src prev key q reach.toNat).1):=by
 simp only [fV,h,if_pos hb]
theorem oW {src prev:ai} {key:Bool} {reach most:Int} {n:Nat} {q k:Int} (h:bP src prev key q reach=some k):fV src prev key reach most (n+1) q=.error k:=by
 simp only [fV,h]
theorem dI {w:World} {g:Nat} {v0 v1 v2 v3 v4 v5 v6 v7:Value} {t:TypeId} (h:w.heap[g]?=some (.cells #[v0,v1,v2,v3,v4,v5,v6,v7] t (0,0))) :
  w.cell? ⟨g,0,none⟩=some v0/\w.cell? ⟨g,1,none⟩=some v1/\w.cell? ⟨g,2,none⟩=some v2/\w.cell? ⟨g,3,none⟩=some v3/\w.cell? ⟨g,4,none⟩=some v4/\w.cell? ⟨g,5,none⟩=some v5/\w.cell? ⟨g,6,none⟩=some v6/\w.cell? ⟨g,7,none⟩=some v7:=by
 refine ⟨?_,?_,?_,?_,?_,?_,?_,?_⟩ <;> (rw [cell_of_row _ _ _ _ _ _ h];rfl)
section
theorem Ig {p:Prop} (h:p:=by
 rw [HE.out];exact ⟨OI.trans HO Mg (fun g hg MO=>by simp only [Lh,Li,or_false] at hg;omega),rfl⟩):p:=h
theorem qM {lo hi lo' hi':Nat} {sv pv:Value} {src prev:ai} {w:World} (key:Bool) (c:Cfg) (most:Int) (hs:ah .i64 lo hi w sv src.pix) (hp:ah .i64 lo' hi' w pv prev.pix) (hh:hi<=w.heap.size) (UZ:hi'<=w.heap.size) :
  Calls Tryz.prog 16 #[.agg #[src.W,src.H,sv],.agg #[prev.W,prev.H,pv],.bool key,c.v,most] w (Kw src prev key c most w):=by
 refine aN fun Q MM=>?_
 have Tq:=lh (fun (W:World) (q:Int) (o:ae [] w W)=>jV key q c.reach (hs.quiet o) (hp.quiet o) (Lz hh o.size) (Lz UZ o.size));have QN:=lh (fun (W:World) (o:ae [] w W) (h0:0<prev.pix.length) (hl:prev.pix.length<=1000000)=>oQ (hp.quiet o) h0 hl);have Jfm:=lh (fun (W:World)=>CV c W);have Tv:Hid (kE src prev key c most=if mD c=false then .error 11 else if most<8 then .error 3 else fV src prev key c.reach most (c.qmax+1-c.qmin).toNat c.qmin):=lh rfl;have XV:Hid (mD c=true->0<=c.qmin/\c.qmin<=c.qmax/\c.qmax<=15/\0<=c.reach/\c.reach<=7):=lh (fun h=>by unfold mD at h;rw [decide_eq_true_eq] at h;exact ⟨h.1,h.2.1,h.2.2.1,h.2.2.2.1,h.2.2.2.2.1⟩);obtain ⟨sa,sc,rfl,-⟩:=hs.open;obtain ⟨pa,pc,rfl,-⟩:=hp.open;unfold Cfg.v at Jfm |-
 unfold Kw at MM;generalize kE src prev key c most=FE at *
 generalize mD c=MC at *
 obtain ⟨a0,a1,a2,a3,a4,a5,a6,a7⟩:=c;simp only at Tq Tv XV Jfm |-
 have Nz:Hid (ae [] w (((((w.alloc (.cells #[src.W,src.H,.slice sa src.pix.length sc] 24)).alloc (.cells #[prev.W,prev.H,.slice pa prev.pix.length pc] 24)).alloc (.cells #[a0,a1,a2,a3,a4,a5,a6,a7] 47)).alloc (.cells #[(),JEu] 31)).alloc (.cells #[(),(),JEu] 24))):=lh (((((ae.new w _).alloc _).alloc _).alloc _).alloc _);have Jbt:Hid ((((((w.alloc (.cells #[src.W,src.H,.slice sa src.pix.length sc] 24)).alloc (.cells #[prev.W,prev.H,.slice pa prev.pix.length pc] 24)).alloc (.cells #[a0,a1,a2,a3,a4,a5,a6,a7] 47)).alloc (.cells #[(),JEu] 31)).alloc (.cells #[(),(),JEu] 24)).heap[w.heap.size]?=some (.cells #[src.W,src.H,.slice sa src.pix.length sc] 24 (0,0))):=lh (((((ae.new (w.alloc _) _).alloc _).alloc _).alloc _).row (heap_alloc_new w _));have JcU:Hid ((((((w.alloc (.cells #[src.W,src.H,.slice sa src.pix.length sc] 24)).alloc (.cells #[prev.W,prev.H,.slice pa prev.pix.length pc] 24)).alloc (.cells #[a0,a1,a2,a3,a4,a5,a6,a7] 47)).alloc (.cells #[(),JEu] 31)).alloc (.cells #[(),(),JEu] 24)).heap[w.heap.size+1]?=some (.cells #[prev.W,prev.H,.slice pa prev.pix.length pc] 24 (0,0))):=lh ((((ae.new ((w.alloc _).alloc _) _).alloc _).alloc _).row (ak Mg));have JiR:Hid ((((((w.alloc (.cells #[src.W,src.H,.slice sa src.pix.length sc] 24)).alloc (.cells #[prev.W,prev.H,.slice pa prev.pix.length pc] 24)).alloc (.cells #[a0,a1,a2,a3,a4,a5,a6,a7] 47)).alloc (.cells #[(),JEu] 31)).alloc (.cells #[(),(),JEu] 24)).heap[w.heap.size+1+1]?=some (.cells #[a0,a1,a2,a3,a4,a5,a6,a7] 47 (0,0))):=lh (((ae.new (((w.alloc _).alloc _).alloc _) _).alloc _).row (ak Mg));have Ym:Hid ((((((w.alloc (.cells #[src.W,src.H,.slice sa src.pix.length sc] 24)).alloc (.cells #[prev.W,prev.H,.slice pa prev.pix.length pc] 24)).alloc (.cells #[a0,a1,a2,a3,a4,a5,a6,a7] 47)).alloc (.cells #[(),JEu] 31)).alloc (.cells #[(),(),JEu] 24)).heap[w.heap.size+1+1+1]?=some (.cells #[(),JEu] 31 (0,0))):=lh ((ae.new ((((w.alloc _).alloc _).alloc _).alloc _) _).row (ak Mg));have ZM:Hid ((((((w.alloc (.cells #[src.W,src.H,.slice sa src.pix.length sc] 24)).alloc (.cells #[prev.W,prev.H,.slice pa prev.pix.length pc] 24)).alloc (.cells #[a0,a1,a2,a3,a4,a5,a6,a7] 47)).alloc (.cells #[(),JEu] 31)).alloc (.cells #[(),(),JEu] 24)).heap[w.heap.size+1+1+1+1]?=some (.cells #[(),(),JEu] 24 (0,0))):=lh (ak Mg)
 have SK:Hid ((((((w.alloc (.cells #[src.W,src.H,.slice sa src.pix.length sc] 24)).alloc (.cells #[prev.W,prev.H,.slice pa prev.pix.length pc] 24)).alloc (.cells #[a0,a1,a2,a3,a4,a5,a6,a7] 47)).alloc (.cells #[(),JEu] 31)).alloc (.cells #[(),(),JEu] 24)).heap.size=w.heap.size+1+1+1+1+1):=lh Mg;have XT:=lh (And.intro hh UZ);have JvX:=lh Tryz.underlying47;clear hs hp hh UZ;obtain ⟨k0,k1,k2,k3,k4,k5,k6,k7⟩:=dI JiR;go_enter Tryz.func16,Tryz.ntmps16;go_wp2_with fail;go_at_call 49;refine (Jfm.out _).mono ?_;rintro e w6 ⟨rfl,Ob⟩;have OI:=lh (Nz.q Ob);have Jnn:=lh (Ob.row Jbt);have Jnj:=lh (Ob.row JcU);have Jnf:=lh (Ob.row JiR);have WS:=lh (Ob.row Ym);have ZN:=lh (Ob.row ZM);have RX:Hid (w.heap.size+1+1+1+1+1<=w6.heap.size):=lh (by have:=Ob.size;have:=SK.out;omega);clear Ob Jbt JcU JiR Ym ZM SK Nz Jfm k0 k1 k2 k3 k4 k5 k6 k7;cases MC with
 | false =>
  have HE:Hid (FE=.error 11):=lh (by rw [Tv.out];rfl);simp only [Bool.false_eq_true,if_false,mG];have OT:w.heap.size+1+1+1≠w.heap.size+1+1+1+1:=Mf;obtain ⟨t0,t1,y0,y1,-⟩:=aJ WS;obtain ⟨hc,hf,ho⟩:=fQ (x:=.int .i64 0) (y:=.slice none 0 0) (u:=.int .i64 0) (v:=.int .i64 0) (z:=.slice none 0 0) WS ZN OT;obtain ⟨QZ,OU⟩:=aH (x:=.int .i64 0) (y:=.slice none 0 0) WS;have Qc:=OU.rowAt ZN Mg;obtain ⟨f0,f1,f2⟩:=ag Qc;have g0:=frozen_of_row _ (w.heap.size+1+1+1+1) 0 _ _ Qc;have g1:=frozen_of_row _ (w.heap.size+1+1+1+1) 1 _ _ Qc;have g2:=frozen_of_row _ (w.heap.size+1+1+1+1) 2 _ _ Qc;have HC:=lh hc;have HF:=lh hf;have HO:=lh ho;clear hc hf ho QZ OU Qc;go_wp2_with fail;refine bodyPost_ret (v:=.tuple #[.agg #[(),JEu],.agg #[(),(),JEu],.iface 36 (.int .i64 11)]) (ei Tryz.results16 _ _ (w.heap.size+1+1+1) (w.heap.size+1+1+1+1) _ _ _ _ _ _ _ _ _ rfl rfl rfl HC HF Tryz.underlying31 rfl Mh Tryz.underlying24 rfl Mh) rfl (MM.out _ _ ?_);exact Ig
 | true =>
  simp only [if_true,mG];by_cases hm:most<8
  ·have HE:Hid (FE=.error 3):=lh (by rw [Tv.out,if_neg Mn,if_pos hm])
   have OT:w.heap.size+1+1+1≠w.heap.size+1+1+1+1:=Mf;obtain ⟨t0,t1,y0,y1,-⟩:=aJ WS;obtain ⟨hc,hf,ho⟩:=fQ (x:=.int .i64 0) (y:=.slice none 0 0) (u:=.int .i64 0) (v:=.int .i64 0) (z:=.slice none 0 0) WS ZN OT;obtain ⟨QZ,OU⟩:=aH (x:=.int .i64 0) (y:=.slice none 0 0) WS;have Qc:=OU.rowAt ZN Mg;obtain ⟨f0,f1,f2⟩:=ag Qc;have g0:=frozen_of_row _ (w.heap.size+1+1+1+1) 0 _ _ Qc;have g1:=frozen_of_row _ (w.heap.size+1+1+1+1) 1 _ _ Qc;have g2:=frozen_of_row _ (w.heap.size+1+1+1+1) 2 _ _ Qc;have HC:=lh hc;have HF:=lh hf;have HO:=lh ho;clear hc hf ho QZ OU Qc;go_wp2_with fail;refine bodyPost_ret (v:=.tuple #[.agg #[(),JEu],.agg #[(),(),JEu],.iface 36 (.int .i64 3)]) (ei Tryz.results16 _ _ (w.heap.size+1+1+1) (w.heap.size+1+1+1+1) _ _ _ _ _ _ _ _ _ rfl rfl rfl HC HF Tryz.underlying31 rfl Mh Tryz.underlying24 rfl Mh) rfl (MM.out _ _ ?_);exact Ig
  ·have Jms:Hid (FE=fV src prev key a2 most (a1+1-a0).toNat a0):=lh (by rw [Tv.out,if_neg Mn,if_neg hm])
   have HB:Hid (0<=a0/\a0<=a1/\a1<=15/\0<=a2/\a2<=7):=lh (XV.out rfl);clear XV Tv;obtain ⟨k0,k1,k2,k3,k4,k5,k6,k7⟩:=dI Jnf;go_wp2_with fail;clear k0 k1 k2 k3 k4 k5 k6 k7;go_loopw [14] (fun qv wr=>∃ q:Int,qv=.int .i64 q/\Hid (a0<=q/\q<=a1+1)/\Hid (FE=fV src prev key a2 most (a1+1-q).toNat q)/\Hid (ae [] w6 wr)/\Hid (a0<q->FrOk src/\(key=false->eP prev src.W src.H=true))) (fun qv _=>(16-intOf qv).toNat)
   case atStart=>exact ⟨a0,rfl,lh (by have:=HB.out;omega),Jms,lh (ae.refl _ _),lh (fun h=>absurd h Mf)⟩
   case round =>
    obtain ⟨q,rfl,Hq,Pn,QY,JnM⟩:=hrel;obtain ⟨k0,k1,k2,k3,k4,k5,k6,k7⟩:=dI (QY.row Jnf);have SV:Hid (w.heap.size+1+1+1+1+1<=wr.heap.size):=lh (by have:=QY.size;have:=RX.out;omega);by_cases hlq:q<=a1
    ·have Wh:IntKind.i64.wrap (q+1)=q+1:=by rw [Ll];have:=Hq.out;have:=HB.out;omega
     have Jmu:=lh (Tq.out wr q (OI.q QY));have HN:Hid ((a1+1-q).toNat=(a1-q).toNat+1/\(a1+1-(q+1)).toNat=(a1-q).toNat):=lh Mf;obtain ⟨s0,s1,s2⟩:=ag (QY.row Jnn);obtain ⟨p0,p1,p2⟩:=ag (QY.row Jnj);go_wp2_with fail;clear k0 k1 k2 k3 k4 k5 k6 k7 s0 s1 s2 p0 p1 p2;go_at_call 9;refine Jmu.mono ?_;rintro e w7 ⟨Tl,hm7⟩;have Vn:=lh ((OI.q QY).q Tl);have Jbq:=lh (QY.q Tl);have HZ7:Hid (w.heap.size+1+1+1+1+1<=w7.heap.size/\wr.heap.size<=w7.heap.size):=lh ⟨by have:=RX.out;have:=Jbq.size;omega,Tl.size⟩;clear Tl Jmu;cases Ra:bP src prev key q a2 with
     | some k =>
      rw [Ra] at hm7;obtain rfl:=hm7;have HE:Hid (FE=.error k):=lh (by rw [Pn.out,HN.1];exact oW Ra);clear Ra;go_upto_region 10 with (fail)
      have Oh:=lh ((ae.new w7 (.cells #[(),JEu] 31)).alloc (.cells #[(),(),JEu] 24));generalize hW8:World.alloc (World.alloc w7 _) _=W8 at *
      clear hW8;have QQ:=lh (Vn.q Oh);have Ui:=lh ((Jbq.q Oh).row WS);have JcT:=lh ((Jbq.q Oh).row ZN);have OT:w.heap.size+1+1+1≠w.heap.size+1+1+1+1:=Mf;obtain ⟨t0,t1,y0,y1,-⟩:=aJ Ui;obtain ⟨hc,hf,ho⟩:=fQ (x:=.int .i64 0) (y:=.slice none 0 0) (u:=.int .i64 0) (v:=.int .i64 0) (z:=.slice none 0 0) Ui JcT OT;obtain ⟨QZ,OU⟩:=aH (x:=.int .i64 0) (y:=.slice none 0 0) Ui;have Qc:=OU.rowAt JcT Mg;obtain ⟨f0,f1,f2⟩:=ag Qc;have g0:=frozen_of_row _ (w.heap.size+1+1+1+1) 0 _ _ Qc;have g1:=frozen_of_row _ (w.heap.size+1+1+1+1) 1 _ _ Qc;have g2:=frozen_of_row _ (w.heap.size+1+1+1+1) 2 _ _ Qc;have HC:=lh hc;have HF:=lh hf;have HO:=lh ho;clear hc hf ho QZ OU Qc;go_wp2_with fail;refine bodyPost_ret (v:=.tuple #[.agg #[(),JEu],.agg #[(),(),JEu],.iface 36 (.int .i64 k)]) (ei Tryz.results16 _ _ (w.heap.size+1+1+1) (w.heap.size+1+1+1+1) _ _ _ _ _ _ _ _ _ rfl rfl rfl HC HF Tryz.underlying31 rfl Mh Tryz.underlying24 rfl Mh) rfl (MM.out _ _ ?_);rw [HE.out];exact ⟨QQ.trans HO Mg (fun g hg MO=>by simp only [Lh,Li,or_false] at hg;omega),rfl⟩
     | none =>
      rw [Ra] at hm7;obtain ⟨dv,fv,rfl,hid,hif⟩:=hm7;obtain ⟨Pb,Zr,QH,MP,RQ,Pz⟩:=fK Ra;have Nc:=lh (And.intro Pb Zr);have MR:(bT src prev key q a2.toNat).data.length<=65000:=by
       have h5:=(lz (q:=q.toNat) (reach:=a2.toNat) Pb Zr Mf Mf).2;rwa [Int.toNat_of_nonneg QH] at h5
      have hpe:=wJ (q:=q.toNat) (reach:=a2.toNat) Pb (fun h=>jE (Zr h)) Mf Mf;rw [Int.toNat_of_nonneg QH] at hpe;have hW:=And.intro hpe.2.1 hpe.2.2.1;have WP:Hid ((((bT src prev key q a2.toNat).data.length:Int)+8<=most)->FE=.ok (bT src prev key q a2.toNat,(cG src prev key q a2.toNat).1)):=lh (fun hb=>by rw [Pn.out,HN.1];exact qT Ra hb);have XY:Hid (¬ (((bT src prev key q a2.toNat).data.length:Int)+8<=most)->FE=fV src prev key a2 most (a1+1-(q+1)).toNat (q+1)):=lh (fun hb=>by rw [Pn.out,HN.1,HN.2];exact jW Ra hb);clear Ra Pb Zr QH MP RQ Pz hpe;generalize bT src prev key q a2.toNat=X at *
      generalize cG src prev key q a2.toNat=Y at *
      obtain ⟨KK,DD⟩:=X;obtain ⟨⟨YW,YH,YP⟩,YM⟩:=Y;simp only at hid hif MR hW WP XY |-
      obtain ⟨rfl,rfl⟩:=hW;have SQ:=lh (fun (W:World) (o:ae [] w7 W)=>ED (k:=KK) (hid.quiet o) Mf);have HD:=lh hid;have HY:=lh hif;obtain ⟨d4,c4,rfl,-⟩:=hid.open;obtain ⟨f4,e4,rfl,-⟩:=hif.open;obtain ⟨ND,hND⟩:∃ z,z=DD.length:=⟨_,rfl⟩
      obtain ⟨NP,hNP⟩:∃ z,z=YP.length:=⟨_,rfl⟩
      rw [<- hND] at SQ WP XY HD |-
      rw [<- hNP] at HY |-
      clear hid hif MR hND hNP;have Oh:=lh ((ae.new w7 (.cells #[KK,.slice d4 ND c4] 31)).alloc (.cells #[src.W,src.H,.slice f4 NP e4] 24));have HVc:Hid (((w7.alloc (.cells #[KK,.slice d4 ND c4] 31)).alloc (.cells #[src.W,src.H,.slice f4 NP e4] 24)).heap[w7.heap.size]?=some (.cells #[KK,.slice d4 ND c4] 31 (0,0))):=lh ((ae.new (w7.alloc _) _).row (heap_alloc_new w7 _));have Xy:Hid (((w7.alloc (.cells #[KK,.slice d4 ND c4] 31)).alloc (.cells #[src.W,src.H,.slice f4 NP e4] 24)).heap[w7.heap.size+1]?=some (.cells #[src.W,src.H,.slice f4 NP e4] 24 (0,0))):=lh (ak Mg);go_upto_region 10 with (fail)
      generalize hW8:World.alloc (World.alloc w7 _) _=W8 at *
      clear hW8;obtain ⟨VC,hVC⟩:∃ z,z=w7.heap.size:=⟨_,rfl⟩
      have HVC:=lh hVC;rw [<- hVC] at HVc Xy |-
      clear hVC;obtain ⟨v0,v1,-⟩:=aJ HVc;go_wp2_with fail;clear v0 v1;go_at_call 50;refine (SQ.out W8 Oh).mono ?_;rintro e w9 ⟨rfl,Rm⟩;have Uh:=lh (Oh.q Rm);have Ph:=lh (Vn.q Uh);have QR:w9.heap[w.heap.size+1+1+1]?=some (.cells #[(),JEu] 31 (0,0)):=(Jbq.q Uh).row WS;have SA:w9.heap[w.heap.size+1+1+1+1]?=some (.cells #[(),(),JEu] 24 (0,0)):=(Jbq.q Uh).row ZN;obtain ⟨v0,v1,-⟩:=aJ (Rm.row HVc);obtain ⟨t0,t1,t2⟩:=ag (Rm.row Xy);clear Rm SQ Oh;by_cases Xa:(ND:Int)+8<=most
      ·have HE:=lh (WP.out Xa)
       go_wp2_with fail;obtain ⟨x0,x1,y0,y1,-⟩:=aJ QR;obtain ⟨QZ,OU⟩:=aH (x:=.int .i64 KK) (y:=.slice d4 ND c4) QR;have Qc:=OU.rowAt SA Mg;obtain ⟨f0,f1,f2⟩:=ag Qc;have g0:=frozen_of_row _ (w.heap.size+1+1+1+1) 0 _ _ Qc;have g1:=frozen_of_row _ (w.heap.size+1+1+1+1) 1 _ _ Qc;have g2:=frozen_of_row _ (w.heap.size+1+1+1+1) 2 _ _ Qc;obtain ⟨hc,hf,ho⟩:=fQ (x:=.int .i64 KK) (y:=.slice d4 ND c4) (u:=.int .i64 src.W) (v:=.int .i64 src.H) (z:=.slice f4 NP e4) QR SA Mf;have RG:Hid (VC∉[w.heap.size+1+1+1]/\VC+1∉[w.heap.size+1+1+1]/\VC∉[w.heap.size+1+1+1,w.heap.size+1+1+1+1]/\VC+1∉[w.heap.size+1+1+1,w.heap.size+1+1+1+1]):=lh (by have:=HVC.out;have:=HZ7.1;simp only [mSg,Lh,Li,or_false];omega);have q0:=OU.drew.cell v0 RG.1;have q1:=OU.drew.cell v1 RG.1;have q2:=OU.drew.cell t0 RG.2.1;have q3:=OU.drew.cell t1 RG.2.1;have q4:=OU.drew.cell t2 RG.2.1;have r0:=ho.drew.cell v0 RG.2.2.1;have r1:=ho.drew.cell v1 RG.2.2.1;have r2:=ho.drew.cell t0 RG.2.2.2;have r3:=ho.drew.cell t1 RG.2.2.2;have r4:=ho.drew.cell t2 RG.2.2.2;have HC:=lh (gR hc);have HF:=lh (gR hf);have SI:=lh ho.drew;clear hc hf QZ Qc QR SA;refine wp_region_held_drew (S:=(fun w'=>w'.cell? ⟨VC,0,none⟩=some (.int .i64 KK)/\w'.cell? ⟨VC,1,none⟩=some (.slice d4 ND c4)/\w'.cell? ⟨VC+1,0,none⟩=some (.int .i64 src.W)/\w'.cell? ⟨VC+1,1,none⟩=some (.int .i64 src.H)/\w'.cell? ⟨VC+1,2,none⟩=some (.slice f4 NP e4))) Mh ?_ (fun hHeld=>?_)
       ·exact ⟨v0,v1,t0,t1,t2⟩
       refine tk 0 62 ?_;refine tk 1 63 ?_;refine rdy (rdn 2 (fun K hK=>?_) .nil);go_simp;refine hK.out _ _ ?_ (fun hHeld=>?_)
       ·exact ⟨q0,q1,q2,q3,q4⟩
       clear hK K
       try simp only [Act.put,Lg,Lj,Lk]
       refine rdy (rdn 3 (fun K hK=>?_) .nil);go_simp;refine hK.out _ _ ?_ (fun hHeld=>?_)
       ·exact ⟨r0,r1,r2,r3,r4⟩
       clear hK K
       try simp only [Act.put,Lg,Lj,Lk]
       refine tk 4 12 ?_;refine wpAnyH_done Mh ?_ _;go_wp2_with fail;refine bodyPost_ret (v:=.tuple #[.agg #[KK,.slice d4 ND c4],.agg #[src.W,src.H,.slice f4 NP e4],.nilIface]) (ei Tryz.results16 _ _ (w.heap.size+1+1+1) (w.heap.size+1+1+1+1) _ _ _ _ _ _ _ _ _ rfl rfl rfl HC HF Tryz.underlying31 rfl Mh Tryz.underlying24 rfl Mh) rfl (MM.out _ _ ?_);rw [HE.out];have hzr:=SV.out;have hwz:=Vn.size;refine ⟨Ph.trans SI (U:=[]) Mg (fun g hg MO=>by simp only [Lh,Li,or_false] at hg;omega),.slice d4 ND c4,.slice f4 NP e4,rfl,?_,?_⟩
       ·have h4:=(HD.quiet Uh).only SI (fun g hg=>by simp only [Lh,Li,or_false] at hg;exact .inl Mf)
        exact h4.mono Mf (Lz Uh.size SI.size)
       ·have h4:=(HY.quiet Uh).only SI (fun g hg=>by simp only [Lh,Li,or_false] at hg;exact .inl Mf)
        exact h4.mono Mf (Lz Uh.size SI.size)
      ·go_wp2_with fail
       exact ⟨⟨q+1,by first | rfl | rw [Wh],lh (by have:=Hq.out;omega),lh (XY.out Xa),lh (Jbq.q Uh),lh (fun _=>Nc.out)⟩,by have:=HB.out;have:=Hq.out;simp only [intOf];omega⟩
    ·have JhW:=JnM.out (by have:=HB.out;have:=Hq.out;omega)
     have UF:=lh JhW;have Rh:Hid (FE=.ok (if key then (⟨4,[]⟩,ed src.W src.H 128) else (⟨3,[]⟩,prev))):=lh (by rw [Pn.out,show (a1+1-q).toNat=0 by omega];rfl);have Vn:=lh (OI.q QY);have Jnd:=lh (QY.row WS);have Jne:=lh (QY.row ZN);clear JhW;cases key with
     | true =>
      have Pb:=UF.1;have hn:io src.W src.H 128=true:=gV.2 ⟨⟨Pb.w0,Pb.w1,Pb.w8⟩,⟨Pb.h0,Pb.h1,Pb.h8⟩,Mn,Mn⟩;have HNw:=lh (uh src.W src.H 128 wr hn);have HE:Hid (FE=.ok (⟨4,[]⟩,⟨src.W,src.H,(ed src.W src.H 128).pix⟩)):=lh Rh;obtain ⟨s0,s1,s2⟩:=ag (QY.row Jnn);obtain ⟨YP,hYP⟩:∃ z,z=(ed src.W src.H 128).pix:=⟨_,rfl⟩
      rw [<- hYP] at HNw HE;obtain ⟨NP,hNP⟩:∃ z,z=YP.length:=⟨_,rfl⟩
      rw [<- hNP] at HNw;clear Pb hn hYP hNP Rh UF;go_wp2_with fail;clear s0 s1 s2 k0 k1 k2 k3 k4 k5 k6 k7;go_at_call 29;refine HNw.mono ?_;rintro e w8 ⟨g9,QC,rfl,QG,RZ⟩;have Ye:=lh QG;have HG:=lh (QG.at g9 rfl);have Xy:Hid ((w8.alloc (.cells #[src.W,src.H,.slice (some ⟨g9,0,none⟩) NP QC] 24)).heap[w8.heap.size]?=some (.cells #[src.W,src.H,.slice (some ⟨g9,0,none⟩) NP QC] 24 (0,0))):=lh (heap_alloc_new w8 _);have Oh:=lh (ae.new w8 (.cells #[src.W,src.H,.slice (some ⟨g9,0,none⟩) NP QC] 24));have QQ:=lh RZ;have ZU:Hid (w.heap.size+1+1+1+1+1<=w8.heap.size):=lh (by have:=SV.out;have:=RZ.size;omega);clear QG RZ HNw;go_wp2_with fail;generalize hW9:World.alloc w8 _=w9 at *
      clear hW9;obtain ⟨VC,hVC⟩:∃ z,z=w8.heap.size:=⟨_,rfl⟩
      have HVC:=lh hVC;rw [<- hVC] at Xy |-
      clear hVC;have Uh:=lh (QQ.q Oh);have Ph:=lh (Vn.q Uh);have QR:w9.heap[w.heap.size+1+1+1]?=some (.cells #[(),JEu] 31 (0,0)):=Uh.row Jnd;have SA:w9.heap[w.heap.size+1+1+1+1]?=some (.cells #[(),(),JEu] 24 (0,0)):=Uh.row Jne;obtain ⟨t0,t1,t2⟩:=ag Xy;obtain ⟨x0,x1,y0,y1,-⟩:=aJ QR;obtain ⟨QZ,OU⟩:=aH (x:=.int .i64 4) (y:=.slice none 0 0) QR;have Qc:=OU.rowAt SA Mg;obtain ⟨f0,f1,f2⟩:=ag Qc;have g0:=frozen_of_row _ (w.heap.size+1+1+1+1) 0 _ _ Qc;have g1:=frozen_of_row _ (w.heap.size+1+1+1+1) 1 _ _ Qc;have g2:=frozen_of_row _ (w.heap.size+1+1+1+1) 2 _ _ Qc;obtain ⟨hc,hf,ho⟩:=fQ (x:=.int .i64 4) (y:=.slice none 0 0) (u:=.int .i64 src.W) (v:=.int .i64 src.H) (z:=.slice (some ⟨g9,0,none⟩) NP QC) QR SA Mf;have RG:Hid (VC∉[w.heap.size+1+1+1]/\VC∉[w.heap.size+1+1+1,w.heap.size+1+1+1+1]):=lh (by have:=HVC.out;have:=ZU.out;simp only [mSg,Lh,Li,or_false];omega);have q2:=OU.drew.cell t0 RG.1;have q3:=OU.drew.cell t1 RG.1;have q4:=OU.drew.cell t2 RG.1;have r2:=ho.drew.cell t0 RG.2;have r3:=ho.drew.cell t1 RG.2;have r4:=ho.drew.cell t2 RG.2;have HC:=lh (gR hc);have HF:=lh (gR hf);have SI:=lh ho.drew;clear hc hf QZ Qc QR SA;refine wp_region_held_drew (S:=(fun w'=>w'.cell? ⟨VC,0,none⟩=some (.int .i64 src.W)/\w'.cell? ⟨VC,1,none⟩=some (.int .i64 src.H)/\w'.cell? ⟨VC,2,none⟩=some (.slice (some ⟨g9,0,none⟩) NP QC))) Mh ?_ (fun hHeld=>?_)
      ·exact ⟨t0,t1,t2⟩
      refine tk 0 73 ?_;refine tk 1 74 ?_;refine tk 2 75 ?_;refine rdy (rdn 3 (fun K hK=>?_) .nil);go_simp;refine hK.out _ _ ?_ (fun hHeld=>?_)
      ·exact ⟨q2,q3,q4⟩
      clear hK K
      try simp only [Act.put,Lg,Lj,Lk]
      refine rdy (rdn 4 (fun K hK=>?_) .nil);go_simp;refine hK.out _ _ ?_ (fun hHeld=>?_)
      ·exact ⟨r2,r3,r4⟩
      clear hK K
      try simp only [Act.put,Lg,Lj,Lk]
      refine tk 5 12 ?_;refine wpAnyH_done Mh ?_ _;go_wp2_with fail;refine bodyPost_ret (v:=.tuple #[.agg #[.int .i64 4,JEu],.agg #[src.W,src.H,.slice (some ⟨g9,0,none⟩) NP QC],.nilIface]) (ei Tryz.results16 _ _ (w.heap.size+1+1+1) (w.heap.size+1+1+1+1) _ _ _ _ _ _ _ _ _ rfl rfl rfl HC HF Tryz.underlying31 rfl Mh Tryz.underlying24 rfl Mh) rfl (MM.out _ _ ?_);rw [HE.out];have hzr:=SV.out;have hwz:=Vn.size;have hg9:=HG.out;refine ⟨Ph.trans SI (U:=[]) Mg (fun g hg MO=>by simp only [Lh,Li,or_false] at hg;omega),.slice none 0 0,.slice (some ⟨g9,0,none⟩) NP QC,rfl,ah.nil _ _ _ _,?_⟩;have h4:=(Ye.quiet Oh).only SI (fun g hg e=>by simp only [Value.ownBlock,LU] at e;simp only [Lh,Li,or_false] at hg;omega);exact h4.ints.mono Mf (Lm _)
     | false =>
      have Xi:=(jE (UF.2 rfl)).1;have WC:0<prev.pix.length:=by have h1:(prev.pix.length:Int)=prev.W*prev.H:=Xi.len;have h2:(8:Int)*8<=prev.W*prev.H:=Int.mul_le_mul Xi.w0 Xi.h0 Mf (by have:=Xi.w0;omega);omega
      have Pf:prev.pix.length<=1000000:=by have h1:(prev.pix.length:Int)=prev.W*prev.H:=Xi.len;have h2:prev.W*prev.H<=32*32:=Int.mul_le_mul Xi.w1 Xi.h1 (by have:=Xi.h0;omega) Mf;omega
      have Jmj:=lh (QN.out wr Vn WC Pf);have HE:Hid (FE=.ok (⟨3,[]⟩,prev)):=lh Rh;have HL0:=lh WC;have Jnk:=lh (QY.row Jnj);obtain ⟨p0,p1,p2⟩:=ag Jnk;clear Xi WC Pf Rh UF;go_wp2_with fail;clear p0 p1 p2 k0 k1 k2 k3 k4 k5 k6 k7;go_at_call 51;refine Jmj.mono ?_;rintro e w8 ⟨v8,rfl,QG,RZ⟩;obtain ⟨g9,QC,rfl,Jpf,Jpg⟩:=QG.form HL0;have Ye:=lh QG;have HG:=lh (And.intro Jpf Jpg);have QQ:=lh RZ;have ZU:Hid (w.heap.size+1+1+1+1+1<=w8.heap.size):=lh (by have:=SV.out;have:=RZ.size;omega);have hrp:=RZ.row Jnk;have Jnm:=lh (heap_setCell_same _ (w.heap.size+1) 2 _ _ (.slice (some ⟨g9,0,none⟩) prev.pix.length QC) hrp);have Oh:Hid (ae [w.heap.size+1] w8 (w8.setCell ⟨w.heap.size+1,2,none⟩ (.slice (some ⟨g9,0,none⟩) prev.pix.length QC))):=lh ((ae.refl _ _).setCell Mg _);obtain ⟨p0,p1,p2⟩:=ag hrp;have u2:=frozen_of_row _ (w.heap.size+1) 2 _ _ hrp;clear QG RZ Jpf Jpg hrp Jmj;go_wp2_with fail;generalize hW9:World.setCell w8 _ _=w9 at *
      clear hW9 p0 p1 p2 u2;have Xy:Hid (w9.heap[w.heap.size+1]?=some (.cells #[prev.W,prev.H,.slice (some ⟨g9,0,none⟩) prev.pix.length QC] 24 (0,0))):=Jnm;have QR:w9.heap[w.heap.size+1+1+1]?=some (.cells #[(),JEu] 31 (0,0)):=Oh.rowAt (QQ.row Jnd) Mq;have SA:w9.heap[w.heap.size+1+1+1+1]?=some (.cells #[(),(),JEu] 24 (0,0)):=Oh.rowAt (QQ.row Jne) Mq;have Ph:Hid (ae [] w w9):=lh ((Vn.q QQ).trans Oh (U:=[]) Mg (fun g hg MO=>by simp only [mSg] at hg;omega));obtain ⟨NP,hNP⟩:∃ z,z=prev.pix.length:=⟨_,rfl⟩
      rw [<- hNP] at Xy Ye |-
      clear hNP Jnm;obtain ⟨t0,t1,t2⟩:=ag Xy;obtain ⟨x0,x1,y0,y1,-⟩:=aJ QR;obtain ⟨QZ,OU⟩:=aH (x:=.int .i64 3) (y:=.slice none 0 0) QR;have Qc:=OU.rowAt SA Mg;obtain ⟨f0,f1,f2⟩:=ag Qc;have g0:=frozen_of_row _ (w.heap.size+1+1+1+1) 0 _ _ Qc;have g1:=frozen_of_row _ (w.heap.size+1+1+1+1) 1 _ _ Qc;have g2:=frozen_of_row _ (w.heap.size+1+1+1+1) 2 _ _ Qc;obtain ⟨hc,hf,ho⟩:=fQ (x:=.int .i64 3) (y:=.slice none 0 0) (u:=.int .i64 prev.W) (v:=.int .i64 prev.H) (z:=.slice (some ⟨g9,0,none⟩) NP QC) QR SA Mf;have RG:Hid (w.heap.size+1∉[w.heap.size+1+1+1]/\w.heap.size+1∉[w.heap.size+1+1+1,w.heap.size+1+1+1+1]):=lh (by simp only [mSg,Lh,Li,or_false];omega);have q2:=OU.drew.cell t0 RG.1;have q3:=OU.drew.cell t1 RG.1;have q4:=OU.drew.cell t2 RG.1;have r2:=ho.drew.cell t0 RG.2;have r3:=ho.drew.cell t1 RG.2;have r4:=ho.drew.cell t2 RG.2;have HC:=lh (gR hc);have HF:=lh (gR hf);have SI:=lh ho.drew;clear hc hf QZ Qc QR SA;refine wp_region_held_drew (S:=(fun w'=>w'.cell? ⟨w.heap.size+1,0,none⟩=some (.int .i64 prev.W)/\w'.cell? ⟨w.heap.size+1,1,none⟩=some (.int .i64 prev.H)/\w'.cell? ⟨w.heap.size+1,2,none⟩=some (.slice (some ⟨g9,0,none⟩) NP QC))) Mh ?_ (fun hHeld=>?_)
      ·exact ⟨t0,t1,t2⟩
      refine tk 0 80 ?_;refine tk 1 81 ?_;refine rdy (rdn 2 (fun K hK=>?_) .nil);go_simp;refine hK.out _ _ ?_ (fun hHeld=>?_)
      ·exact ⟨q2,q3,q4⟩
      clear hK K
      try simp only [Act.put,Lg,Lj,Lk]
      refine rdy (rdn 3 (fun K hK=>?_) .nil);go_simp;refine hK.out _ _ ?_ (fun hHeld=>?_)
      ·exact ⟨r2,r3,r4⟩
      clear hK K
      try simp only [Act.put,Lg,Lj,Lk]
      refine tk 4 12 ?_;refine wpAnyH_done Mh ?_ _;go_wp2_with fail;refine bodyPost_ret (v:=.tuple #[.agg #[.int .i64 3,JEu],.agg #[prev.W,prev.H,.slice (some ⟨g9,0,none⟩) NP QC],.nilIface]) (ei Tryz.results16 _ _ (w.heap.size+1+1+1) (w.heap.size+1+1+1+1) _ _ _ _ _ _ _ _ _ rfl rfl rfl HC HF Tryz.underlying31 rfl Mh Tryz.underlying24 rfl Mh) rfl (MM.out _ _ ?_);rw [HE.out];have hzr:=SV.out;have hwz:=Vn.size;have hg9:=HG.out;refine ⟨Ph.trans SI (U:=[]) Mg (fun g hg MO=>by simp only [Lh,Li,or_false] at hg;omega),.slice none 0 0,.slice (some ⟨g9,0,none⟩) NP QC,rfl,ah.nil _ _ _ _,?_⟩;have h4:=(Ye.only Oh (fun g hg e=>by simp only [Value.ownBlock,LU] at e;rw [mSg] at hg;omega)).only SI (fun g hg e=>by simp only [Value.ownBlock,LU] at e;simp only [Lh,Li,or_false] at hg;omega);exact h4.ints.mono Mf (Lm _)
end
def am (v:Int):ai:=⟨8,8,List.replicate 64 v⟩
section
theorem pg (v:Int) (w:World) (hv:InK .i64 v) :
  Calls Tryz.prog 25 #[v] w fun e w'=>∃ g cap,e=.returned (.agg #[.int .i64 8,.int .i64 8,.slice (some ⟨g,0,none⟩) 64 cap])/\Own .i64 3 w.heap.size w' (.slice (some ⟨g,0,none⟩) 64 cap) (am v).pix/\ae [] w w':=by
 refine aN fun Q MM=>?_
 have MX:∀ z∈[v],InK .i64 z:=by simp only [mSg,forall_eq];exact hv
 have Ye:=lh (fun (W:World)=>kW (k:=.i64) (w:=W) (t:=3) (l:=[v]) (vs:=#[v]) rfl Mo MX 1 rfl rfl);have Yl:Hid (((w.alloc (.cells #[(),(),JEu] 24)).alloc (.cells #[.int .i64 8,.int .i64 8,JEu] 24)).heap[w.heap.size]?=some (.cells #[(),(),JEu] 24 (0,0))):=lh ((ae.new (w.alloc _) _).row (heap_alloc_new w _));have Nq:Hid (((w.alloc (.cells #[(),(),JEu] 24)).alloc (.cells #[.int .i64 8,.int .i64 8,JEu] 24)).heap[w.heap.size+1]?=some (.cells #[.int .i64 8,.int .i64 8,JEu] 24 (0,0))):=lh (ak Mg);have Na:Hid (ae [] w ((w.alloc (.cells #[(),(),JEu] 24)).alloc (.cells #[.int .i64 8,.int .i64 8,JEu] 24))):=lh ((ae.new w _).alloc _);have Vo:Hid (((w.alloc (.cells #[(),(),JEu] 24)).alloc (.cells #[.int .i64 8,.int .i64 8,JEu] 24)).heap.size=w.heap.size+1+1):=lh Mg;clear MX hv;go_enter Tryz.func25,Tryz.ntmps25;go_wp2_with fail;generalize Tg:World.alloc (World.alloc w _) _=W2 at *
 clear Tg;go_loopw [4] (fun iv wr=>∃ (i:Nat) (sv:Value),i<=64/\iv=.int .i64 (i:Int)/\Hid (Own .i64 3 (w.heap.size+1+1) wr sv (List.replicate i v))/\Hid (wr.heap[w.heap.size+1]?=some (.cells #[.int .i64 8,.int .i64 8,sv] 24 (0,0)))/\Hid (ae [w.heap.size+1] W2 wr)) (fun iv _=>(64-intOf iv).toNat)
 case atStart=>exact ⟨0,.slice none 0 0,Mf,rfl,lh (Own.nil _ _ _ _),Nq,lh (ae.refl _ _)⟩
 case round =>
  obtain ⟨i,sv,hi,rfl,HO,HR,HK⟩:=hrel;obtain ⟨t0,t1,t2⟩:=ag HR;by_cases MO:i<64
  ·obtain ⟨sa,sn,sc,rfl⟩:∃ sa sn sc,sv=.slice sa sn sc:=by
    obtain ⟨a,cap,e,-⟩:=HO.ints.open;exact ⟨a,_,cap,e⟩
   have Jun:(i:Int)<64:=Mf;have Jgj:IntKind.i64.wrap ((i:Int)+1)=((i+1:Nat):Int):=Mi;have Jaf:=lh ((Ye.out wr).ints);have Hq1:=lh (ae.new wr (.cells #[v] 3));have Qj:((List.replicate i v).length+[v].length)*8<=140737488355328:=Mq;have Hby:=lh Qj;have HL1:Hid ((List.replicate i v ++ [v]).length=i+1/\List.replicate i v ++ [v]=List.replicate (i+1) v):=lh ⟨Mg,List.replicate_succ'.symm⟩;have SV:Hid (w.heap.size+1+1<=(wr.alloc (.cells #[v] 3)).heap.size):=lh (by have:=HK.size;have:=Vo.out;have:=Hq1.size;omega);clear Qj;have HRa:=lh (Hq1.row HR);have HFo:Hid (w.heap.size+1∉(Value.slice sa sn sc).ownBlock.toList):=lh (fun hm=>by have:=HO.at (w.heap.size+1) Mu;omega);have HKa:=lh (HK.trans Hq1 (U:=[w.heap.size+1]) Mg Mg)
   go_wp2_with (at_builtin;refine aw rfl (.tmp 11) (.tmp 13) _ rfl EI (HO.quiet Hq1) rfl Jaf rfl Hby SV (fun v1 w1 MN Nu=>?_);obtain ⟨g1,Pc,Rg,OL,Jpe⟩:=MN.form (by rw [HL1.1];omega);rw [HL1.1] at Rg;subst Rg;rw [HL1.2] at MN;have Oy:=lh MN;have Od:=lh Nu;have Pz:=Nu.only.rowAt HRa HFo;have Jsu:=lh Pz;obtain ⟨z0,z1,z2⟩:=ag Pz;have zf:=frozen_of_row _ (w.heap.size+1) 2 _ _ Pz;have HG1:=lh (And.intro OL Jpe);clear MN Nu Pz OL Jpe)
   have Rn:=heap_setCell_same _ (w.heap.size+1) 2 _ _ (.slice (some ⟨g1,0,none⟩) (i+1) Pc) Jsu;have OU:ae [w.heap.size+1] _ _:=((ae.refl [w.heap.size+1] w1).setCell Mg (.slice (some ⟨g1,0,none⟩) (i+1) Pc) (p:=⟨w.heap.size+1,2,none⟩))
   refine ⟨⟨i+1,.slice (some ⟨g1,0,none⟩) (i+1) Pc,Mf,by first | rfl | rw [Jgj],lh (Oy.only OU (fun g hg e=>by simp only [Value.ownBlock,LU] at e;rw [mSg] at hg;have:=HG1.1;omega)),lh Rn,lh ((HKa.trans Od.only (U:=[w.heap.size+1]) Mg (fun g hg MO=>by have:=HO.at g Mt;have:=Vo.out;omega)).trans OU (U:=[w.heap.size+1]) Mg Mg)⟩,by simp only [intOf];omega⟩
  ·obtain rfl:i=64:=Mf
   have Jun:¬ ((64:Nat):Int)<64:=Mf;obtain ⟨g9,QC,hv9,OL,Nl⟩:=HO.form (by rw [LJ];omega);rw [LJ] at hv9;subst hv9;have HG:=lh (And.intro OL Nl);have RQ:=HK.rowAt Yl Mg;obtain ⟨u0,u1,u2⟩:=ag RQ;have x0:=frozen_of_row _ w.heap.size 0 _ _ RQ;have x1:=frozen_of_row _ w.heap.size 1 _ _ RQ;have x2:=frozen_of_row _ w.heap.size 2 _ _ RQ;have h3:=heap_setCell_same _ w.heap.size 0 _ _ (.int .i64 8) RQ;have h4:=heap_setCell_same _ w.heap.size 1 _ _ (.int .i64 8) h3;have h5:=heap_setCell_same _ w.heap.size 2 _ _ (.slice (some ⟨g9,0,none⟩) 64 QC) h4;have H5:=lh h5;have HOz:=lh ((((ae.refl [w.heap.size] wr).setCell (p:=⟨w.heap.size,0,none⟩) Mg (.int .i64 8)).setCell (p:=⟨w.heap.size,1,none⟩) Mg (.int .i64 8)).setCell (p:=⟨w.heap.size,2,none⟩) Mg (.slice (some ⟨g9,0,none⟩) 64 QC));clear RQ h3 h4 h5 OL Nl;go_wp2_with fail;refine bodyPost_ret (v:=.agg #[.int .i64 8,.int .i64 8,.slice (some ⟨g9,0,none⟩) 64 QC]) (results_cell_row Tryz.results25 _ _ w.heap.size _ _ _ _ rfl H5 Tryz.underlying24 rfl Mh) rfl (MM.out _ _ ⟨g9,QC,rfl,?_,?_⟩)
   ·exact (HO.only HOz (fun g hg e=>by simp only [Value.ownBlock,LU] at e;rw [mSg] at hg;have:=HG.1;omega)).lower Mf
   ·exact (Na.trans HK (U:=[]) Mg (fun g hg MO=>Mj)).trans HOz (U:=[]) Mg (fun g hg MO=>Mj)
end
set_option linter.constructorNameAsVariable false
theorem mW {src prev:ai} {key:Bool} {reach:Int}:∀ (n:Nat) (q:Int),(∀ i:Nat,i<n->bP src prev key (q+i) reach=none)->fV src prev key reach 8 n q=.ok (if key then (⟨4,[]⟩,ed src.W src.H 128) else (⟨3,[]⟩,prev))
 | 0,_,_=>rfl
 | n+1,q,h=>by
  have h0:=h 0 Mf;rw [show q+((0:Nat):Int)=q by omega] at h0;rw [jW h0 (by unfold bT;simp only [Lr];omega)];exact mW n (q+1) (fun i hi=>by have:=h (i+1) Mf;rw [show q+((i+1:Nat):Int)=q+1+(i:Int) by omega] at this;exact this)
def uS:Cfg:=⟨0,3,0,0,1,8,8,8⟩
theorem oP {src prev:ai} {key:Bool} {q reach:Int} (h1:dV src=true) (h2:(!key && !eP prev src.W src.H)=false) (h3:0<=q/\q<=15) (h4:0<=reach/\reach<=7):bP src prev key q reach=none:=by
 unfold bP;rw [if_neg (by rw [h1];decide),if_neg (by rw [h2];decide),if_neg Mf]
theorem lT (v:Int) (h:0<=v/\v<=255):dV (am v)=true:=dL.2 ⟨(by decide:(8:Int)<=8),(by decide:(8:Int)<=32),(by decide:(8:Int) % 8=0),(by decide:(8:Int)<=8),(by decide:(8:Int)<=32),(by decide:(8:Int) % 8=0),by rfl,fun x hx=>by have:=(List.mem_replicate.1 hx).2;omega⟩
theorem ET:kE (am 7) dQ true uS 8=.ok (⟨4,[]⟩,am 128):=by
 unfold kE;rw [if_neg Mn,if_neg Mn];exact mW _ _ (fun i hi=>oP (lT 7 Mn) Mn (by have h4:i<4:=hi;have:uS.qmin=0:=rfl;omega) Mn)
theorem EU:kE (am 7) (am 200) false uS 8=.ok (⟨3,[]⟩,am 200):=by
 unfold kE;rw [if_neg Mn,if_neg Mn];exact mW _ _ (fun i hi=>oP (lT 7 Mn) (by unfold eP;rw [lT 200 Mn];decide) (by have h4:i<4:=hi;have:uS.qmin=0:=rfl;omega) Mn)
theorem Aw {p:Prop} (h:p:=by
 obtain ⟨fa,fc,rfl,-⟩:=h5.open;exact ⟨da,_,dc,fa,fc,rfl,h5,o⟩):p:=h
theorem Dh {lo hi:Nat} {sv:Value} {w:World} (hs:ah .i64 lo hi w sv (am 128).pix) (hh:hi<=w.heap.size) :
  Calls Tryz.prog 9 #[.agg #[.int .i64 8,.int .i64 8,sv],.agg #[(),(),JEu],.bool true,(),()] w fun e w'=>∃ da dn dc fa fc,e=.returned (.tuple #[.agg #[.int .i64 1,.slice da dn dc],.agg #[.int .i64 8,.int .i64 8,.slice fa 64 fc],.nilIface])/\ah .i64 w.heap.size w'.heap.size w' (.slice fa 64 fc) (am 128).pix/\ae [] w w':=by
 have h:=jV (src:=am 128) (prev:=dQ) true 0 0 hs (ah.nil .i64 0 0 w) hh Mf;refine h.mono ?_;rintro e w' ⟨o,hm⟩;rw [oP (lT 128 Mn) Mn Mn Mn] at hm;obtain ⟨dv,fv,rfl,hd,h5⟩:=hm;obtain ⟨da,dc,rfl,-⟩:=hd.open;have hg:=Fm (prev:=dQ) (q:=0) (reach:=0) Mf Mf;have e:(cG (am 128) dQ true 0 (0:Int).toNat).1=am 128:=hg.2;rw [e] at h5;exact Aw
theorem Fg {w:World} :
  Calls Tryz.prog 9 #[.agg #[(),(),JEu],.agg #[(),(),JEu],.bool true,(),()] w fun e w'=>e=.returned (.tuple #[.agg #[(),JEu],.agg #[(),(),JEu],.iface 36 (.int .i64 2)])/\ae [] w w':=by
 have h:=jV (src:=dQ) (prev:=dQ) true 0 0 (ah.nil .i64 0 0 w) (ah.nil .i64 0 0 w) Mf Mf;refine h.mono ?_;rintro e w' ⟨o,hm⟩;rw [show bP dQ dQ true 0 0=some 2 by decide] at hm;exact ⟨hm,o⟩
theorem Ff {lo hi:Nat} {sv:Value} {w:World} (hs:ah .i64 lo hi w sv (am 7).pix) (hh:hi<=w.heap.size) :
  Calls Tryz.prog 16 #[.agg #[.int .i64 8,.int .i64 8,sv],.agg #[(),(),JEu],.bool true,uS.v,.int .i64 8] w fun e w'=>∃ da dn dc fa fc,e=.returned (.tuple #[.agg #[.int .i64 4,.slice da dn dc],.agg #[.int .i64 8,.int .i64 8,.slice fa 64 fc],.nilIface])/\ah .i64 w.heap.size w'.heap.size w' (.slice fa 64 fc) (am 128).pix/\ae [] w w':=by
 have h:=qM (src:=am 7) (prev:=dQ) true uS 8 hs (ah.nil .i64 0 0 w) hh Mf;refine h.mono ?_;rintro e w' ⟨o,hm⟩;rw [ET] at hm;obtain ⟨dv,fv,rfl,hd,h5⟩:=hm;obtain ⟨da,dc,rfl,-⟩:=hd.open;exact Aw
theorem Fh {lo hi lo' hi':Nat} {sv pv:Value} {w:World} (hs:ah .i64 lo hi w sv (am 7).pix) (hp:ah .i64 lo' hi' w pv (am 200).pix) (hh:hi<=w.heap.size) (UZ:hi'<=w.heap.size) :
  Calls Tryz.prog 16 #[.agg #[.int .i64 8,.int .i64 8,sv],.agg #[.int .i64 8,.int .i64 8,pv],.bool false,uS.v,.int .i64 8] w fun e w'=>∃ da dn dc fa fc,e=.returned (.tuple #[.agg #[.int .i64 3,.slice da dn dc],.agg #[.int .i64 8,.int .i64 8,.slice fa 64 fc],.nilIface])/\ah .i64 w.heap.size w'.heap.size w' (.slice fa 64 fc) (am 200).pix/\ae [] w w':=by
 have h:=qM (src:=am 7) (prev:=am 200) false uS 8 hs hp hh UZ;refine h.mono ?_;rintro e w' ⟨o,hm⟩;rw [EU] at hm;obtain ⟨dv,fv,rfl,hd,h5⟩:=hm;obtain ⟨da,dc,rfl,-⟩:=hd.open;exact Aw
end Go.Proofs.YthcafdfdglfabaaGreatDoor
