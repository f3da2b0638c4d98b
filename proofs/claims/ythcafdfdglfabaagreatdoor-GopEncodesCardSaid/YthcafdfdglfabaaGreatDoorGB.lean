/- Joined texts: GPl, GEnc, GPln, GFst, GFirst. Conditions: each part names its own. -/
import Derived.Test.YthcafdfdglfabaaGreatDoorB3
import Derived.Test.YthcafdfdglfabaaGreatDoorG2
namespace Go.Proofs.YthcafdfdglfabaaGreatDoor
open Go.Proofs.Tryz
open Go.RowKit
set_option linter.unusedVariables false
set_option linter.unusedSimpArgs false
set_option maxRecDepth 100000
set_option maxHeartbeats 16000000
theorem Jq {src prev:ah} {key:Bool} {c:j3} {most:Int} (D:fM c=true) (I:8<=most) (F:FrOk src) (J:key=false->ej prev src.W src.H=true) :
  sU src prev key c most=.nilIface/\vz src prev key c most (mH src prev key c most) (lq src prev key c most):=by
 rcases Gd src prev key c most with ⟨k,h1,-,-,-⟩ | h
 ·exfalso
  unfold sU at h1;cases hf:kG src prev key c most with
  | ok x=>rw [hf] at h1;cases h1
  | error k' =>
   unfold kG at hf;rw [if_neg (by rw [D];decide),if_neg Qa] at hf;obtain ⟨p,L,M,E⟩:=mI _ _ hf;obtain ⟨N,O,V,r0,r1⟩:=rZ D;have:=vJ (src:=src) (prev:=prev) (key:=key) (q:=p) (reach:=c.reach) (dp.2 F) (by cases key <;> simp_all) ⟨Qa,Qa⟩ ⟨r0,r1⟩;rw [this] at E;cases E
 ·exact h
theorem Jr {src prev:ah} {key:Bool} {c:j3} {most:Int} {C:bw} {B:ah} (h:vz src prev key c most C B):B.W=src.W/\B.H=src.H:=by
 rcases h.how with ⟨q,-,-,hc,-,rfl⟩ | ⟨⟨-,-,rfl⟩ | ⟨hk,-,rfl⟩,-⟩
 ·exact (zx hc).2
 ·exact ⟨rfl,rfl⟩
 ·exact (iO (h.prv hk)).2
theorem Ge {src prev:ah} {key:Bool} {c:j3} {most:Int} {C:bw} {B:ah} (h:vz src prev key c most C B):ej B src.W src.H=true:=by
 obtain ⟨h1,D⟩:=Jr h;unfold ej;rw [dp.2 h.ok];simp [h1,D]
theorem zz {src prev:ah} {key:Bool} {c:j3} {most:Int} {C:bw} {B:ah} (h:vz src prev key c most C B):1<=C.kind/\C.kind<=4/\(C.kind=1\/C.kind=4↔key=true) /\
  (C.kind<=2->∃ q,c.qmin<=q/\q<=c.qmax/\cy src prev key q c.reach=none/\C=bP src prev key q c.reach.toNat/\B=(dJ src prev key q c.reach.toNat).1):=by
 rcases h.how with ⟨q,h1,h2,h3,e1,e2⟩ | ⟨⟨D,rfl,-⟩ | ⟨D,rfl,-⟩,-⟩
 ·have D:C.kind=if key then 1 else 2:=by rw [e1];rfl
  refine ⟨?_,?_,?_,fun _=>⟨q,h1,h2,h3,e1,e2⟩⟩
  all_goals (rw [D];cases key <;> decide)
 ·subst D;exact ⟨Ql,Ql,Ql,fun e=>absurd e Ql⟩
 ·subst D;exact ⟨Ql,Ql,Ql,fun e=>absurd e Ql⟩
def og (c:j3) (g:Nat->Int):List ah->Nat->ah->List (bw×ah)
 | [],_,_=>[]
 | f :: l,i,p=>(mH f p (i == 0) c (g i),lq f p (i == 0) c (g i)) :: og c g l (i+1) (lq f p (i == 0) c (g i))
structure vA (c:j3) (g:Nat->Int) (W H:Int) (l:List ah) (i:Nat) (p:ah):Prop where
 may:fM c=true
 fr:∀ f∈l,FrOk f/\f.W=W/\f.H=H
 cap:∀ j,i<=j->j<i+l.length->8<=g j
 prev:i≠0->ej p W H=true
theorem vA.head {c:j3} {g:Nat->Int} {W H:Int} {f:ah} {l:List ah} {i:Nat} {p:ah} (h:vA c g W H (f :: l) i p) :
  sU f p (i == 0) c (g i)=.nilIface/\vz f p (i == 0) c (g i) (mH f p (i == 0) c (g i)) (lq f p (i == 0) c (g i))/\vA c g W H l (i+1) (lq f p (i == 0) c (g i)):=by
 obtain ⟨h1,D,E⟩:=h.fr f Qb;obtain ⟨F,e2⟩:=Jq (src:=f) (prev:=p) (key:=i == 0) (c:=c) (most:=g i) h.may (h.cap i (Pm _) Qb) h1 (fun I=>by rw [D,E];exact h.prev (by simpa using I));refine ⟨F,e2,h.may,fun x hx=>h.fr x (by simp [hx]),fun j J L=>h.cap j Qa (by simp only [Pq];omega),fun _=>?_⟩;have:=Ge e2;rwa [D,E] at this
theorem JC {c:j3} {l:List ah} {caps:List Int} (h:bZ c l caps=none):vA c (fun i=>caps.getD i 0) (l.getD 0 default).W (l.getD 0 default).H l 0 fC:=by
 obtain ⟨h1,F,I,D,J,E⟩:=mJ h;exact ⟨h1,D,fun j _ L=>E j Qa,fun e=>absurd rfl e⟩
theorem Nj {l:List ah} {k:Nat} (h:k<l.length):l.drop k=l.getD k default :: l.drop (k+1):=by
 rw [Py h,Pd,Pe h];rfl
def uW (c:j3) (l:List ah) (caps:List Int):List bw:=(og c (fun i=>caps.getD i 0) l 0 fC).map (·.1)
def uX (c:j3) (l:List ah) (caps:List Int):List ah:=(og c (fun i=>caps.getD i 0) l 0 fC).map (·.2)
theorem jo {p:Prop} (h:p:=by intro wz Rb;obtain ⟨Un,Wx,hS2,hS3⟩:=Rb;obtain ⟨k0,k1,k2,k3,k4,k5,k6,k7⟩:=bJ Un;obtain ⟨p0,p1,p2⟩:=ag Wx;obtain ⟨s0,s1,s2⟩:=ag hS2;go_simp;try with_reducible rfl):p:=h
def Nu (c:j3) (l:List ah) (caps:List Int) (w:World) (e:Ending) (w':World):Prop :=
 ae [] w w'/\match bZ c l caps with
  | some k=>e=.returned (.tuple #[d8,d8,.iface 36 (.int .i64 k)])
  | none=>∃ a an b bn,e=.returned (.tuple #[.slice a l.length an,.slice b l.length bn,.nilIface])/\cm w.heap.size w'.heap.size w' (.slice a l.length an) (uW c l caps)/\aZ w.heap.size w'.heap.size w' (.slice b l.length bn) (uX c l caps)
section
theorem rh {lo hi lo' hi':Nat} {v cv:Value} {l:List ah} {caps:List Int} {a0 a1 a2 a3 a4 a5 a6 a7:Int} {w:World} (h:aZ lo hi w v l) (hl:l.length<=1000000000) (hc:aj .i64 lo' hi' w cv caps) (hcl:caps.length<=1000000000) (hh:hi<=w.heap.size) :
  Calls prog 21 #[.agg #[a0,a1,a2,a3,a4,a5,a6,a7],v,cv] w (Nu (⟨a0,a1,a2,a3,a4,a5,a6,a7⟩:j3) l caps w):=by
 refine aK fun Q QF=>?_
 have XH:=lh (fun (W:World) (o:ae [] w W)=>CL (a0:=a0) (a1:=a1) (a2:=a2) (a3:=a3) (a4:=a4) (a5:=a5) (a6:=a6) (a7:=a7) (h.quiet o) hl (hc.quiet o) hcl);have Hhh:=lh hh;obtain ⟨a,cap,rfl,-,-,RO⟩:=h.open;have TT:=lh RO;obtain ⟨ca,Jtp,rfl,-,-,Zm,hcc⟩:=hc.open;have HCb:=lh Zm;have XG:=lh hcc;have QI:=ae.new w (.cells #[a0,a1,a2,a3,a4,a5,a6,a7] 47);have QO:=lh QI;have HK1:=lh (Sd w (.cells #[a0,a1,a2,a3,a4,a5,a6,a7] 47));have Th:(l.length:Int)<=9223372036854775807:=Qa;have Jul:(caps.length:Int)<=9223372036854775807:=Qa;clear h hc RO Zm hcc hl hcl QI hh;go_enter func21,ntmps21;obtain ⟨k0,k1,k2,k3,k4,k5,k6,k7⟩:=bJ HK1;go_wp2_with fail;generalize Rs:World.alloc w _=W1 at *
 clear Rs k0 k1 k2 k3 k4 k5 k6 k7;refine (XH.out _ QO).mono ?_;rintro e D ⟨rfl,QN⟩;have QT:=lh (QO.q QN);have HK2:=lh (QN.row HK1);clear QN XH;unfold Nu at QF;cases TN:bZ (⟨a0,a1,a2,a3,a4,a5,a6,a7⟩:j3) l caps with
 | some kk =>
  rw [TN] at QF;simp only [iL];clear TN;go_wp2_with fail;refine TV (v:=.tuple #[d8,d8,.iface 36 (.int .i64 kk)]) (by simp [results,results21,go_sem]) rfl (QF.out _ _ ⟨QT,rfl⟩)
 | none =>
  rw [TN] at QF;have Tg:=lh (JC TN);have VM:=lh (VL (mJ TN).2.2.2.2.1 (mJ TN).2.2.1);have HGA:Hid (uW (⟨a0,a1,a2,a3,a4,a5,a6,a7⟩:j3) l caps=(og (⟨a0,a1,a2,a3,a4,a5,a6,a7⟩:j3) (fun i=>caps.getD i 0) l 0 fC).map (·.1)):=lh rfl;have HGB:Hid (uX (⟨a0,a1,a2,a3,a4,a5,a6,a7⟩:j3) l caps=(og (⟨a0,a1,a2,a3,a4,a5,a6,a7⟩:j3) (fun i=>caps.getD i 0) l 0 fC).map (·.2)):=lh rfl;generalize (l.getD 0 default).W=W0 at *
  generalize (l.getD 0 default).H=H0 at *
  simp only [iL];clear TN;go_wp2_with fail;have QW:=lh (QT.q (ae.new D (.cells #[(),(),d8] 24)));have WQ:=lh (Sd D (.cells #[(),(),d8] 24));have HK3:=lh ((ae.new D (.cells #[(),(),d8] 24)).row HK2);have UO:Hid ((D.alloc (.cells #[(),(),d8] 24)).heap.size=D.heap.size+1/\w.heap.size<D.heap.size):=lh ⟨Qb,s4 (bJ HK2).1⟩;generalize Tb:World.alloc D _=W3 at *
  clear Tb;go_loopw [27,10,11,13,14,15,16,17] (fun i r s _ _ _ _ _ wr=>∃ (k:Nat) (prev:ah) (A:List bw) (B:List ah) (pa:Option Addr) (pc:Nat),k<=l.length/\i=.int .i64 k/\Hid (vA (⟨a0,a1,a2,a3,a4,a5,a6,a7⟩:j3) (fun i=>caps.getD i 0) W0 H0 (l.drop k) k prev)/\Hid (A ++ (og (⟨a0,a1,a2,a3,a4,a5,a6,a7⟩:j3) (fun i=>caps.getD i 0) (l.drop k) k prev).map (·.1)=uW (⟨a0,a1,a2,a3,a4,a5,a6,a7⟩:j3) l caps/\B ++ (og (⟨a0,a1,a2,a3,a4,a5,a6,a7⟩:j3) (fun i=>caps.getD i 0) (l.drop k) k prev).map (·.2)=uX (⟨a0,a1,a2,a3,a4,a5,a6,a7⟩:j3) l caps)/\Hid (A.length=k/\B.length=k)/\Hid (il (D.heap.size+1) wr r A s B)/\Hid (wr.heap[D.heap.size]?=some (.cells (sT prev pa pc) 24))/\Hid (aj .i64 0 wr.heap.size wr (.slice pa prev.pix.length pc) prev.pix)/\Hid (ae [] w wr)/\Hid (wr.heap[w.heap.size]?=some (.cells #[a0,a1,a2,a3,a4,a5,a6,a7] 47))/\Hid (D.heap.size+1<=wr.heap.size)) (fun i _ _ _ _ _ _ _ _=>l.length-(intOf i).toNat)
  case atStart=>exact ⟨0,fC,[],[],none,0,Qa,rfl,Tg,lh ⟨HGA.symm,HGB.symm⟩,lh ⟨rfl,rfl⟩,lh (il.nil _ _),WQ,lh (aj.nil _ _ _ _),QW,HK3,lh (j0 UO.1)⟩
  case round =>
   obtain ⟨k,prev,A,B,pa,pc,hk,rfl,HI,HG,HL,HO,HR,HPp,HQ,HK,HZ⟩:=hrel;obtain ⟨ra,rc,ZW,ZX,rfl,rfl⟩:=HO.slices;rw [HL.1,HL.2] at HO |-
   by_cases QH:k<l.length
   ·have Rt:(k:Int)<(l.length:Int):=Qa
    have RA:(0:Int)<=(k:Int):=Qa;have hkc:(k:Int)<(caps.length:Int):=by have:=VM.1;omega
    have JhW:k<caps.length:=Qa;obtain ⟨b,off,dv,rfl,-,-,TM,Sq,SE,hd⟩:=TT.out k QH;have c0:=HQ.cell TM Qb;have c1:=HQ.cell Sq Qb;have c2:=HQ.cell SE Qb;obtain ⟨cb,JdK,rfl,-,-⟩:=HCb.out k JhW;have XH:=lh (HQ.cell (XG.out cb JdK rfl k JhW) Qb);have hI:=HI.out;have hG:=HG.out;rw [Nj QH] at hI hG;generalize l.getD k default=f at *
    obtain ⟨hv,WC,Wq⟩:=hI.head;simp only [og,PU] at hG
    (try simp only [] at Wq)
    generalize caps.getD k 0=most at *
    obtain ⟨sa,sc,rfl,-⟩:=hd.open;have Jdf:Hid (∀ (W:World) (o:ae [] wr W),Calls prog 16 #[.agg #[f.W,f.H,.slice sa f.pix.length sc],.agg #[prev.W,prev.H,.slice pa prev.pix.length pc],.bool (k == 0),.agg #[a0,a1,a2,a3,a4,a5,a6,a7],most] W (Me (mH f prev (k == 0) (⟨a0,a1,a2,a3,a4,a5,a6,a7⟩:j3) most) (lq f prev (k == 0) (⟨a0,a1,a2,a3,a4,a5,a6,a7⟩:j3) most) .nilIface W)):=lh (fun W o=>by
     have h:=Js (src:=f) (prev:=prev) (k == 0) (⟨a0,a1,a2,a3,a4,a5,a6,a7⟩:j3) most (hd.quiet (HQ.q o)) (HPp.quiet o) (Pw Hhh (HQ.q o).size) o.size;rwa [hv] at h)
    have Tr:=lh WC;have HNx:=lh Wq;have HG2:=lh hG;obtain ⟨kb,hkb⟩:=bu ((k == 0))
    rw [<- hkb] at Jdf Tr HNx HG2;have qk:((k:Int) == 0)=kb:=by rw [hkb,m9,beq_iff_eq,beq_iff_eq];omega
    generalize mH f prev kb (⟨a0,a1,a2,a3,a4,a5,a6,a7⟩:j3) most=C at *
    generalize lq f prev kb (⟨a0,a1,a2,a3,a4,a5,a6,a7⟩:j3) most=B1 at *
    clear hI hG hv WC Wq hkb TM Sq SE hd;go_upto_region 10 with (fail)
    have QY:=ae.new wr (sT f sa sc);have Rh:=lh QY;have HS4:=lh (Sd wr (sT f sa sc));have WT:Hid ((wr.alloc (sT f sa sc)).heap.size=wr.heap.size+1):=lh Qb;clear QY c0 c1 c2;generalize XO:World.alloc wr _=W4 at *
    clear XO;obtain ⟨SB,hSB⟩:=bu wr.heap.size
    rw [<- hSB] at HS4 |-
    have HSB:=lh hSB;clear hSB;have HFt:=lh (fun (W:World) (o:ae [] W4 W)=>Jdf.out W (Rh.q o));have N:Hid (∀ wx:World,ae [] W4 wx->wx.heap[w.heap.size]?=some (.cells #[a0,a1,a2,a3,a4,a5,a6,a7] 47)/\wx.heap[D.heap.size]?=some (.cells (sT prev pa pc) 24)/\wx.heap[SB]?=some (.cells (sT f sa sc) 24)/\wx.cell? ⟨cb,JdK+k,none⟩=some (.int .i64 most)):=lh (fun wx o=>⟨(Rh.q o).row HK,(Rh.q o).row HR.out,o.row HS4.out,(Rh.q o).cell XH.out Qb⟩);go_cut [15,16,17] (fun sC sE s17 wx=>∃ (I:Nat) (F:Nat) (E:Nat) (h1:Nat) (V:Option Addr) (Z:Nat) (L:Option Addr) (M:Nat),sC=.pointer I/\sE=.pointer F/\s17=.nilIface/\Hid (ae [] W4 wx)/\Hid (wx.heap[I]?=some (.cells #[C.kind,.slice V C.data.length Z] 31))/\Hid (wx.heap[F]?=some (.cells (sT B1 L M) 24))/\Hid (W4.heap.size<=E/\h1<=wx.heap.size)/\Hid (lY E h1 wx (.slice V C.data.length Z) C.data (.slice L B1.pix.length M) B1.pix)/\Hid (W4.heap.size<=I/\(I<E\/h1<=I))/\Hid (W4.heap.size<=F/\(F<E\/h1<=F)))
    case first =>
     refine Tf (S:=(fun wz=>wz.heap[w.heap.size]?=some (.cells #[a0,a1,a2,a3,a4,a5,a6,a7] 47)/\wz.heap[D.heap.size]?=some (.cells (sT prev pa pc) 24)/\wz.heap[SB]?=some (.cells (sT f sa sc) 24)/\wz.cell? ⟨cb,JdK+k,none⟩=some (.int .i64 most))) Qc ?_ (fun hHeld=>?_)
     ·first | exact N.out _ (AY) | exact N.out _ (AY).drew
     have o:Hid (ae [] W4 W4.drew):=lh (AY).drew;obtain ⟨v,hv⟩:=bu W4.drew
     rw [<- hv] at o hHeld |-
     clear hv;refine e9 0 33 ⟨rfl,jo⟩ ?_;refine e9 1 34 ⟨rfl,jo⟩ ?_;refine e9 2 35 ⟨rfl,jo⟩ ?_;refine e9 3 36 ⟨rfl,jo⟩ ?_;refine e9 4 37 ⟨rfl,jo⟩ ?_;refine e9 5 38 ⟨rfl,jo⟩ ?_;refine e9 6 39 ⟨rfl,jo⟩ ?_;refine e9 7 40 ⟨rfl,jo⟩ ?_;refine e9 8 41 ⟨rfl,jo⟩ ?_
     iterate 3 (all_goals (first | (refine j8 (rs:=[9,14,15]) Qg Qb ?_;refine j2 9 42 (fun K hK=>?_) (j2 14 15 (fun K hK=>?_) (j2 15 16 (fun K hK=>?_) .nil))) | (refine j8 (rs:=[9,14]) Qg Qb ?_;refine j2 9 42 (fun K hK=>?_) (j2 14 15 (fun K hK=>?_) .nil)) | (refine j8 (rs:=[9,15]) Qg Qb ?_;refine j2 9 42 (fun K hK=>?_) (j2 15 16 (fun K hK=>?_) .nil)) | (refine j8 (rs:=[14,15]) Qg Qb ?_;refine j2 14 15 (fun K hK=>?_) (j2 15 16 (fun K hK=>?_) .nil)) | (refine j8 (rs:=[9]) Qg Qb ?_;refine j2 9 42 (fun K hK=>?_) .nil) | (refine j8 (rs:=[14]) Qg Qb ?_;refine j2 14 15 (fun K hK=>?_) .nil) | (refine j8 (rs:=[15]) Qg Qb ?_;refine j2 15 16 (fun K hK=>?_) .nil));all_goals go_simp;all_goals (first | (show K _ (World.alloc _ _);generalize hW:World.alloc _ _=v';obtain ⟨I,hb⟩:=bu v.heap.size;have HC:Hid (v'.heap[I]?=some (.cells #[(),d8] 31)):=lh (by rw [hb,<- hW];exact LD);have q:ae [] v v':=(by rw [<- hW];exact BS);have HzC:Hid (W4.heap.size<=I):=lh (by rw [hb];exact o.out.size);(try have HkC:Hid (W4.heap.size<=I/\(I<E\/h1<=I)):=lh ⟨HzC.out,.inr (by rw [hb];exact O.out.2)⟩);(try have JdF:Hid (I≠F):=lh (j0 ((l8.1 HE.out).1)));(try replace HE:=lh (q.row HE.out));(try replace HK:Hid (lY E h1 v' (.slice V C.data.length Z) C.data (.slice L B1.pix.length M) B1.pix):=lh (HK.out.only q Qb));(try replace O:Hid (W4.heap.size<=E/\h1<=v'.heap.size):=lh ⟨O.out.1,Pw O.out.2 q.size⟩);replace o:=lh (o.out.q q);rw [<- hb];clear hW q hb;obtain ⟨v,rfl⟩:=bu v';refine hK.out _ _ (N.out _ o.out) (fun hHeld=>?_);clear hK K) | (show K _ (World.alloc _ _);generalize hW:World.alloc _ _=v';obtain ⟨F,hb⟩:=bu v.heap.size;have HE:Hid (v'.heap[F]?=some (.cells #[(),(),d8] 24)):=lh (by rw [hb,<- hW];exact LD);have q:ae [] v v':=(by rw [<- hW];exact BS);have HzE:Hid (W4.heap.size<=F):=lh (by rw [hb];exact o.out.size);(try have Vz:Hid (W4.heap.size<=F/\(F<E\/h1<=F)):=lh ⟨HzE.out,.inr (by rw [hb];exact O.out.2)⟩);(try have JdF:Hid (I≠F):=lh (j0 ((l8.1 HC.out).1)));(try replace HC:=lh (q.row HC.out));(try replace HK:Hid (lY E h1 v' (.slice V C.data.length Z) C.data (.slice L B1.pix.length M) B1.pix):=lh (HK.out.only q Qb));(try replace O:Hid (W4.heap.size<=E/\h1<=v'.heap.size):=lh ⟨O.out.1,Pw O.out.2 q.size⟩);replace o:=lh (o.out.q q);rw [<- hb];clear hW q hb;obtain ⟨v,rfl⟩:=bu v';refine hK.out _ _ (N.out _ o.out) (fun hHeld=>?_);clear hK K) | (go_at_call 16;refine (HFt.out _ o.out).mono ?_;rintro e v' ⟨hq,V,Z,L,M,rfl,hi9⟩;obtain ⟨E,WF⟩:=bu v.heap.size;obtain ⟨h1,hh1⟩:=bu v'.heap.size;have YO:lY E h1 v' (.slice V C.data.length Z) C.data (.slice L B1.pix.length M) B1.pix:=(by rw [WF,hh1];exact hi9);have hKl:v.heap.size<=E:=Qa;have YQ:h1<=v'.heap.size:=Qa;clear hi9 WF hh1;have q:ae [] v v':=hq;have ZH:W4.heap.size<=v.heap.size:=o.out.size;(try have HkC:Hid (W4.heap.size<=I/\(I<E\/h1<=I)):=lh (by have:=(l8.1 HC.out).1;have:=HzC.out;exact ⟨Qa,.inl Qa⟩));(try have Vz:Hid (W4.heap.size<=F/\(F<E\/h1<=F)):=lh (by have:=(l8.1 HE.out).1;have:=HzE.out;exact ⟨Qa,.inl Qa⟩));(try replace HC:=lh (q.row HC.out));(try replace HE:=lh (q.row HE.out));have HK:=lh YO;have O:Hid (W4.heap.size<=E/\h1<=v'.heap.size):=lh ⟨Qa,YQ⟩;replace o:=lh (o.out.q q);clear hq q YO hKl YQ ZH;obtain ⟨v,rfl⟩:=bu v';refine hK.out _ _ (N.out _ o.out) (fun hHeld=>?_);clear hK K;refine e9 10 32 ⟨rfl,by intro wz Rb;obtain ⟨Un,Wx,hS2,hS3⟩:=Rb;obtain ⟨k0,k1,k2,k3,k4,k5,k6,k7⟩:=bJ Un;obtain ⟨p0,p1,p2⟩:=ag Wx;obtain ⟨s0,s1,s2⟩:=ag hS2;go_simp;try with_reducible rfl⟩ ?_;refine e9 11 43 ⟨rfl,by intro wz Rb;obtain ⟨Un,Wx,hS2,hS3⟩:=Rb;obtain ⟨k0,k1,k2,k3,k4,k5,k6,k7⟩:=bJ Un;obtain ⟨p0,p1,p2⟩:=ag Wx;obtain ⟨s0,s1,s2⟩:=ag hS2;go_simp;try with_reducible rfl⟩ ?_;refine e9 12 44 ⟨rfl,by intro wz Rb;obtain ⟨Un,Wx,hS2,hS3⟩:=Rb;obtain ⟨k0,k1,k2,k3,k4,k5,k6,k7⟩:=bJ Un;obtain ⟨p0,p1,p2⟩:=ag Wx;obtain ⟨s0,s1,s2⟩:=ag hS2;go_simp;try with_reducible rfl⟩ ?_;refine e9 13 45 ⟨rfl,by intro wz Rb;obtain ⟨Un,Wx,hS2,hS3⟩:=Rb;obtain ⟨k0,k1,k2,k3,k4,k5,k6,k7⟩:=bJ Un;obtain ⟨p0,p1,p2⟩:=ag Wx;obtain ⟨s0,s1,s2⟩:=ag hS2;go_simp;try with_reducible rfl⟩ ?_)))
     all_goals (refine j9 16 fun K hK=>?_;refine gD (.tmp 15) (.tmp 43) 31 rfl (g:=I) (c':=#[C.kind,.slice V C.data.length Z]) rfl rfl HC (El _ _) rfl mi (fun v' q hr=>?_);replace HC:=lh hr;replace HE:=lh (q.rowAt HE (eW JdF));replace HK:Hid (lY E h1 v' (.slice V C.data.length Z) C.data (.slice L B1.pix.length M) B1.pix):=HK.only q (fun g Y=>by rw [i5] at Y;subst Y;exact HkC.2);replace O:Hid (W4.heap.size<=E/\h1<=v'.heap.size):=lh ⟨O.1,Pw O.2 q.size⟩;replace o:Hid (ae [] W4 v'):=o.trans q Qb (fun g Y QH=>by rw [i5] at Y;have:=HkC.1;omega);clear hr q;obtain ⟨v,rfl⟩:=bu v';refine hK.out _ _ (N.out _ o) (fun hHeld=>?_);clear hK K)
     all_goals (refine j9 17 fun K hK=>?_;refine gD (.tmp 16) (.tmp 44) 24 rfl (g:=F) (c':=#[B1.W,B1.H,.slice L B1.pix.length M]) rfl rfl HE (Ew _ _ _) rfl mi (fun v' q hr=>?_);replace HE:=lh hr;replace HC:=lh (q.rowAt HC (eW JdF));replace HK:Hid (lY E h1 v' (.slice V C.data.length Z) C.data (.slice L B1.pix.length M) B1.pix):=HK.only q (fun g Y=>by rw [i5] at Y;subst Y;exact Vz.2);replace O:Hid (W4.heap.size<=E/\h1<=v'.heap.size):=lh ⟨O.1,Pw O.2 q.size⟩;replace o:Hid (ae [] W4 v'):=o.trans q Qb (fun g Y QH=>by rw [i5] at Y;have:=Vz.1;omega);clear hr q;obtain ⟨v,rfl⟩:=bu v';refine hK.out _ _ (N.out _ o) (fun hHeld=>?_);clear hK K)
     all_goals (refine e9 18 17 ⟨rfl,by intro wz Rb;obtain ⟨Un,Wx,hS2,hS3⟩:=Rb;obtain ⟨k0,k1,k2,k3,k4,k5,k6,k7⟩:=bJ Un;obtain ⟨p0,p1,p2⟩:=ag Wx;obtain ⟨s0,s1,s2⟩:=ag hS2;go_simp;try with_reducible rfl⟩ ?_)
     all_goals (refine Wn Qc ?_ _;go_wp2_with fail;go_meet;exact ⟨I,F,E,h1,V,Z,L,M,rfl,rfl,rfl,o,HC,HE,O,HK,HkC,Vz⟩)
    case rest =>
     obtain ⟨I,F,E,h1,V,Z,L,M,rfl,rfl,rfl,HOd,HVc,HVf,O,HKG,-,Vz⟩:=hcut;obtain ⟨W5,ZI⟩:=bu wc
     subst ZI;clear N HFt Jdf XH HS4;have Rk:=lh (Rh.q HOd);obtain ⟨bd,hbd,JhJ⟩:=HKG.1.tight;obtain ⟨bf,hbf,JdU⟩:=HKG.2.tight;have RX:B1.pix≠[]:=fun e=>by
      have h1:=Tr.ok.len;have h2:=A3 Tr.ok.w0 Tr.ok.h0 Ql (j0 Tr.ok.w0);rw [e] at h1;simp only [Pr] at h1;omega
     have JoL:=JdU RX;have QS:=zz Tr;have hnA:∀ x,(Value.slice ra k rc).ownBlock=some x->D.heap.size+1<=x/\x<wr.heap.size:=HO.left.at
     have J:∀ x,(Value.slice ZW k ZX).ownBlock=some x->D.heap.size+1<=x/\x<wr.heap.size:=HO.right.at
     have HN:=lh (VL hnA J);have WM:=WT.out;have hzz:=HZ.out;have Jpb:=O.out;have HfD:Hid (C.data=[]\/ji (D.heap.size+1) W5 (.slice ra k rc) (.slice ZW k ZX) bd):=lh (by
      by_cases e:C.data=[]
      ·exact .inl e
      ·have:=JhJ e
       exact .inr ⟨Qa,Qa,fun e=>by have:=(hnA _ e).2;omega,fun e=>by have:=(J _ e).2;omega⟩)
     have HfF:Hid (ji (D.heap.size+1) W5 (.slice ra k rc) (.slice ZW k ZX) bf):=lh ⟨Qa,Qa,fun e=>by have:=(hnA _ e).2;omega,fun e=>by have:=(J _ e).2;omega⟩;have HD5:=lh hbd;have HF5:=lh hbf;have Hkd:Hid (i7 .i64 C.kind):=lh ⟨Qa,Qa⟩;have UX:=lh (HO.quiet Rk);have HbE:Hid (W4.heap.size<=F):=lh Vz.1;have UQ:Hid (D.heap.size+1<=W5.heap.size/\W4.heap.size<=W5.heap.size):=lh ⟨Qa,Qa⟩;have Ts:=ae.new W5 (.cells #[C.kind,.slice V C.data.length Z] 31);have HNw:=lh Ts;have HCs:Hid (cf 2 W5.heap.size (W5.heap.size+1) (W5.alloc (.cells #[C.kind,.slice V C.data.length Z] 31)) (.slice W5.heap.size 1 1) 1 [.int .i64 C.kind,.slice V C.data.length Z]):=fG rfl rfl Qj Qb;have XK:=lh (UX.quiet Ts);have HD6:=lh (hbd.quiet Ts);have hz6:W5.heap.size<=(W5.alloc (.cells #[C.kind,.slice V C.data.length Z] 31)).heap.size:=Ts.size;have Job:Hid (C.data=[]\/ji (D.heap.size+1) (W5.alloc (.cells #[C.kind,.slice V C.data.length Z] 31)) (.slice ra k rc) (.slice ZW k ZX) bd):=HfD.imp id fun h=>⟨h.1,by have:=h.2.1;omega,h.2.2⟩;have JnZ:Hid ((A.length+1)*32<=140737488355328):=lh (l6 HL.1 VM.2);have Joa:Hid ((B.length+1)*40<=140737488355328):=lh (l6 HL.2 VM.2);have JnV:Hid (D.heap.size+1<=(W5.alloc (.cells #[C.kind,.slice V C.data.length Z] 31)).heap.size):=lh (j0 UQ.1);have HLA:Hid ((A ++ [C]).length=k+1):=lh (by rw [Pn,HL.1];rfl);have HLB:Hid ((B ++ [B1]).length=k+1):=lh (by rw [Pn,HL.2];rfl);obtain ⟨x0,x1,-⟩:=aL HVc;clear hbd JhJ hbf JdU RX JoL QS hnA J WM hzz Jpb Ts hz6;go_upto_region 14 with (first
      | (at_builtin;refine kX rfl (.tmp 49) (.tmp 51) _ rfl D6 XK rfl HCs Hkd HD6 Job rfl JnZ JnV (fun v1 w7 QG Rc=>?_);obtain ⟨y1,c1,-,-,XW,-⟩:=QG.slices;subst XW;rw [HLA.out] at QG Rc |-;have Uj:=lh QG;have HA7:=lh Rc;clear QG Rc)
      | fail)
     have hnA:=HN.1;have J:=HN.2;have TZ:=HNw.trans HA7.only (U:=(Value.slice ra k rc).ownBlock.toList) Qb (fun g Y _=>Y);have QM:∀ x,x∈(Value.slice ra k rc).ownBlock.toList->D.heap.size+1<=x/\x<wr.heap.size:=fun x hx=>hnA x Qz
     have hzz:=UQ.2;have WM:=WT.out;have Jhe:=lh (TZ.rowAt HVf (fun hm=>by have:=(QM _ hm).2;have:=HbE.out;omega));have HF7:=lh (HF5.only TZ (fun x hx=>by have:=(QM _ hx).2;have h:=HfF.out;have h2:x≠bf:=fun e=>h.2.2.1 (by rw [<- e];simpa using hx);omega));have HR7:=lh (TZ.rowAt (Rk.row HR) (fun hm=>by have:=(QM _ hm).1;omega));have Zj:=lh (TZ.rowAt (Rk.row HK) (fun hm=>by have:=(QM _ hm).1;have:=UO.2;omega));have WS:Hid (ae [] w w7):=lh ((HQ.q Rk).trans TZ Qb (fun g Y QH=>by have:=(QM _ Y).1;have:=UO.2;omega));have hz7:=TZ.size;have HY1:Hid (∀ x,(Value.slice y1 (k+1) c1).ownBlock=some x->D.heap.size+1<=x/\x<w7.heap.size):=lh Uj.left.at
     have Xt:Hid (ji (D.heap.size+1) w7 (.slice y1 (k+1) c1) (.slice ZW k ZX) bf):=lh ⟨HfF.1,by have:=HfF.2.1;omega,fun e=>by
      rcases HA7.at_ with e' | e'
      ·exact HfF.2.2.1 (e'.symm.trans e)
      ·have:=e' _ e;have:=HfF.2.1;have:=HNw.size;omega,HfF.2.2.2⟩
     have Ts:=ae.new w7 (sT B1 L M);have Jno:=lh Ts;have HZ7:Hid (D.heap.size+1<=w7.heap.size/\W5.heap.size<=w7.heap.size):=lh ⟨by have:=UQ.1;omega,hz7⟩;have JmX:Hid (cf 3 w7.heap.size (w7.heap.size+1) (w7.alloc (sT B1 L M)) (.slice w7.heap.size 1 1) 1 [.int .i64 B1.W,.int .i64 B1.H,.slice L B1.pix.length M]):=fG rfl rfl Qj Qb;have Ww:=lh (Uj.quiet Ts);have HF8:=lh (HF7.quiet Ts);have Joc:Hid (ji (D.heap.size+1) (w7.alloc (sT B1 L M)) (.slice y1 (k+1) c1) (.slice ZW k ZX) bf):=lh ⟨Xt.1,by have:=Xt.2.1;have:=Ts.size;omega,Xt.2.2⟩;have JnW:Hid (D.heap.size+1<=(w7.alloc (sT B1 L M)).heap.size):=lh (l6 HZ7.1 Ts.size);obtain ⟨u0,u1,u2⟩:=ag Jhe;clear hnA J TZ QM hzz WM hz7 Ts x0 x1;go_upto_region 15 with (first
      | (at_builtin;refine iA rfl (.tmp 53) (.tmp 55) _ rfl D7 Ww rfl JmX HF8 Joc rfl Joa JnW (fun v2 w9 Ri Sc=>?_);obtain ⟨-,-,z2,g2,-,hz2⟩:=Ri.slices;subst hz2;rw [HLB.out] at Ri Sc |-;have HO9:=lh Ri;have HA9:=lh Sc;clear Ri Sc)
      | fail)
     have J:=HN.2;have SR:=Jno.trans HA9.only (U:=(Value.slice ZW k ZX).ownBlock.toList) Qb (fun g Y _=>Y);have QM:∀ x,x∈(Value.slice ZW k ZX).ownBlock.toList->D.heap.size+1<=x/\x<wr.heap.size:=fun x hx=>J x Qz
     have WM:=WT.out;have JnM:=lh (SR.rowAt Jhe (fun hm=>by have:=(QM _ hm).2;have:=HbE.out;omega));have HF9:=lh (HF7.only SR (fun x hx=>by have h:=Xt.out;have h2:x≠bf:=fun e=>h.2.2.2 (by rw [<- e];simpa using hx);omega));have HR9:=lh (SR.rowAt HR7 (fun hm=>by have:=(QM _ hm).1;omega));have HK9:=lh (SR.rowAt Zj (fun hm=>by have:=(QM _ hm).1;have:=UO.2;omega));have SP:Hid (ae [] w w9):=WS.trans SR Qb (fun g Y QH=>by have:=(QM _ Y).1;have:=UO.2;omega);have HZ9:Hid (D.heap.size+1<=w9.heap.size/\bf<w9.heap.size):=lh ⟨by have:=HZ7.1;have:=SR.size;omega,by have:=Xt.2.1;have:=SR.size;omega⟩;obtain ⟨u0,u1,u2⟩:=ag JnM;have fz0:=Sz _ _ 0 _ _ HR9;have fz1:=Sz _ _ 1 _ _ HR9;have fz2:=Sz _ _ 2 _ _ HR9;obtain ⟨t0,t1,t2⟩:=ag HR9;obtain ⟨QK,QV⟩:=eI (x:=.int .i64 B1.W) (y:=.int .i64 B1.H) (z:=.slice L B1.pix.length M) HR9;have SA:=lh QK;have Sx:=lh QV;clear J SR QM WM QK QV;go_wp2_with fail;have Zg:=Sx.size;refine ⟨⟨k+1,B1,A ++ [C],B ++ [B1],L,M,Qa,Qh,HNx,lh ?_,lh ⟨HLA,HLB.out⟩,lh (HO9.only Sx Qb),SA,lh ?_,lh (SP.trans Sx Qb (fun x hx hl=>by rw [i5] at hx;have:=UO.2;omega)),lh (Sx.rowAt HK9 (by rw [i5];have:=UO.2;omega)),lh (j0 HZ9.1)⟩,Qf⟩
     ·rw [PM,PM];exact HG2
     ·exact (HF9.only Sx (fun x hx=>by rw [i5] at hx;have:=Xt.1;left;omega)).mono (PX _) (j0 HZ9.2)
   ·obtain rfl:k=l.length:=Qa
    have hx:¬ (l.length:Int)<(l.length:Int):=Qa;have hG:=HG.out;rw [List.drop_length] at hG;simp only [og,PV,Px] at hG;have HGo:=lh hG;have hz3:=UO.2;have HLt:Hid (w.heap.size<=D.heap.size+1):=lh Qa;clear hG hz3;go_wp2_with fail;refine TV (v:=.tuple #[.slice ra l.length rc,.slice ZW l.length ZX,.nilIface]) (by simp [results,results21,go_sem]) rfl (QF.out _ _ ⟨HQ,ra,rc,ZW,ZX,rfl,?_,?_⟩)
    ·rw [<- HGo.1]
     have h:=HO.left.codeds.mono HLt (Pm _);exact h
    ·rw [<- HGo.2]
     have h:=HO.right.frames.mono HLt (Pm _);exact h
end
section
theorem tr (v:Int) (w:World) (hv:i7 .i64 v) :
  Calls prog 54 #[v] w fun e w'=>∃ g cap,e=.returned (.agg #[.int .i64 8,.int .i64 8,.slice (some ⟨g,0,none⟩) 64 cap])/\f9 .i64 3 w.heap.size w' (.slice (some ⟨g,0,none⟩) 64 cap) (cU v).pix/\ae [] w w':=by
 refine aK fun Q QF=>?_
 have QS:∀ z∈[v],i7 .i64 z:=by simp only [i5,n7];exact hv
 have HOw:=lh (fun (W:World)=>iQ (k:=.i64) (w:=W) (t:=3) (l:=[v]) (vs:=#[v]) rfl Qj QS 1 rfl rfl);have HR0:Hid (((w.alloc (.cells #[(),(),d8] 24)).alloc (.cells #[.int .i64 8,.int .i64 8,d8] 24)).heap[w.heap.size]?=some (.cells #[(),(),d8] 24)):=lh ((ae.new (w.alloc _) _).row (Sd w _));have Rg:Hid (((w.alloc (.cells #[(),(),d8] 24)).alloc (.cells #[.int .i64 8,.int .i64 8,d8] 24)).heap[w.heap.size+1]?=some (.cells #[.int .i64 8,.int .i64 8,d8] 24)):=ak Qb;have QT:Hid (ae [] w ((w.alloc (.cells #[(),(),d8] 24)).alloc (.cells #[.int .i64 8,.int .i64 8,d8] 24))):=lh ((ae.new w _).alloc _);have Xs:Hid (((w.alloc (.cells #[(),(),d8] 24)).alloc (.cells #[.int .i64 8,.int .i64 8,d8] 24)).heap.size=w.heap.size+1+1):=lh Qb;clear QS hv;go_enter func54,ntmps54;go_wp2_with fail;generalize VZ:World.alloc (World.alloc w _) _=W2 at *
 clear VZ;go_loopw [4] (fun iv wr=>∃ (i:Nat) (sv:Value),i<=64/\iv=.int .i64 (i:Int)/\Hid (f9 .i64 3 (w.heap.size+1+1) wr sv (List.replicate i v))/\Hid (wr.heap[w.heap.size+1]?=some (.cells #[.int .i64 8,.int .i64 8,sv] 24))/\Hid (ae [w.heap.size+1] W2 wr)) (fun iv _=>(64-intOf iv).toNat)
 case atStart=>exact ⟨0,.slice none 0 0,Qa,rfl,lh (f9.nil _ _ _ _),Rg,lh (AY)⟩
 case round =>
  obtain ⟨i,sv,hi,rfl,F,HR,N⟩:=hrel;obtain ⟨t0,t1,t2⟩:=ag HR;by_cases QH:i<64
  ·obtain ⟨sa,sn,sc,rfl⟩:∃ sa sn sc,sv=.slice sa sn sc:=by
    obtain ⟨a,cap,e,-⟩:=F.ints.open;exact ⟨a,_,cap,e⟩
   have JBc:(i:Int)<64:=Qa;have Jkv:IntKind.i64.wrap ((i:Int)+1)=((i+1:Nat):Int):=Qe;have JdJ:=lh ((HOw.out wr).ints);have D:=lh (ae.new wr (.cells #[v] 3));have TU:((List.replicate i v).length+[v].length)*8<=140737488355328:=Qm;have Hby:=lh TU;have E:Hid ((List.replicate i v ++ [v]).length=i+1/\List.replicate i v ++ [v]=List.replicate (i+1) v):=lh ⟨Qb,List.replicate_succ'.symm⟩;have Wo:Hid (w.heap.size+1+1<=(wr.alloc (.cells #[v] 3)).heap.size):=lh (C5 N.size Xs.out D.size);clear TU;have HRa:=lh (D.row HR);have HFo:Hid (w.heap.size+1∉(Value.slice sa sn sc).ownBlock.toList):=lh (fun hm=>by have:=F.at (w.heap.size+1) Qr;omega);have HKa:=lh (N.trans D (U:=[w.heap.size+1]) Qb Qb)
   go_wp2_with (at_builtin;refine au rfl (.tmp 11) (.tmp 13) _ rfl EI (F.quiet D) rfl JdJ rfl Hby Wo (fun v1 w1 O Rc=>?_);obtain ⟨g1,Sb,UU,ST,L⟩:=O.form (by rw [E.1];omega);rw [E.1] at UU;subst UU;rw [E.2] at O;have SD:=lh O;have Sa:=lh Rc;have V:=Rc.only.rowAt HRa HFo;have JyW:=lh V;obtain ⟨z0,z1,z2⟩:=ag V;have zf:=Sz _ (w.heap.size+1) 2 _ _ V;have HG1:=lh (VL ST L);clear O Rc V ST L)
   have UT:=WG _ (w.heap.size+1) 2 _ _ (.slice g1 (i+1) Sb) JyW;have Sc:ae [w.heap.size+1] _ _:=((ae.refl [w.heap.size+1] w1).setCell Qb (.slice g1 (i+1) Sb) (p:=⟨w.heap.size+1,2,none⟩))
   refine ⟨⟨i+1,.slice g1 (i+1) Sb,Qa,by first | rfl | rw [Jkv],lh (SD.only Sc (fun g hg e=>by simp only [Value.ownBlock,PO] at e;rw [i5] at hg;have:=HG1.1;omega)),lh UT,lh ((HKa.trans Sa.only (U:=[w.heap.size+1]) Qb (fun g hg QH=>by have:=F.at g Qn;have:=Xs.out;omega)).trans Sc (U:=[w.heap.size+1]) Qb Qb)⟩,by simp only [intOf];omega⟩
  ·obtain rfl:i=64:=Qa
   have JBc:¬ ((64:Nat):Int)<64:=Qa;obtain ⟨Z,Y,M,ST,Rj⟩:=F.form (by rw [PE];omega);rw [PE] at M;subst M;have HG:=lh (VL ST Rj);have I:=N.rowAt HR0 Qb;obtain ⟨u0,u1,u2⟩:=ag I;have x0:=Sz _ w.heap.size 0 _ _ I;have x1:=Sz _ w.heap.size 1 _ _ I;have x2:=Sz _ w.heap.size 2 _ _ I;have h3:=WG _ w.heap.size 0 _ _ (.int .i64 8) I;have h4:=WG _ w.heap.size 1 _ _ (.int .i64 8) h3;have h5:=WG _ w.heap.size 2 _ _ (.slice Z 64 Y) h4;have H5:=lh h5;have J:=lh ((((ae.refl [w.heap.size] wr).setCell (p:=⟨w.heap.size,0,none⟩) Qb (.int .i64 8)).setCell (p:=⟨w.heap.size,1,none⟩) Qb (.int .i64 8)).setCell (p:=⟨w.heap.size,2,none⟩) Qb (.slice Z 64 Y));clear I h3 h4 h5 ST Rj;go_wp2_with fail;refine TV (v:=.agg #[.int .i64 8,.int .i64 8,.slice Z 64 Y]) (results_cell_row results54 _ _ w.heap.size _ _ _ _ rfl H5 underlying24 rfl Qc) rfl (QF.out _ _ ⟨Z,Y,rfl,?_,?_⟩)
   ·exact (F.only J (fun g hg e=>by simp only [Value.ownBlock,PO] at e;rw [i5] at hg;have:=HG.1;omega)).lower Qa
   ·exact (QT.trans N (U:=[]) Qb (fun g hg QH=>Qd)).trans J (U:=[]) Qb (fun g hg QH=>Qd)
end
def ky:j3:=⟨0,3,0,0,4,8,8,8⟩
theorem Gf:kG (cU 7) fC true ky 8=.ok (⟨4,[]⟩,cU 128):=by
 unfold kG;rw [if_neg Ql,if_neg Ql];exact sS _ _ (fun i hi=>vJ (Ih 7 Ql) Ql (by have D:i<4:=hi;have:ky.qmin=0:=rfl;omega) Ql)
theorem xO:bZ ky [cU 7] [8]=none:=Qc
theorem tj:og ky (fun i=>([8]:List Int).getD i 0) [cU 7] 0 fC=[(⟨4,[]⟩,cU 128)]:=by
 have h:=Gf;have E:mH (cU 7) fC true ky 8=⟨4,[]⟩:=by unfold mH;rw [h]
 have D:lq (cU 7) fC true ky 8=cU 128:=by unfold lq;rw [h]
 show [(mH (cU 7) fC true ky 8,lq (cU 7) fC true ky 8)]=_;rw [E,D]
theorem CS:uW ky [cU 7] [8]=[⟨4,[]⟩]:=by unfold uW;rw [tj];rfl
theorem CT:uX ky [cU 7] [8]=[cU 128]:=by unfold uX;rw [tj];rfl
def mD:cJ:=⟨0,0,1,[⟨4,[]⟩]⟩
theorem FO:rS mD:=by unfold rS i7 mD;decide
theorem qG:rR mD:=⟨Qc,by unfold mD;simp⟩
theorem MX {E:Option l4} {U:List cu} (h:fe [] E 0 U):fD U E=.error ⟨[(qq,0)],1⟩:=by
 cases U with
 | nil =>
  rcases h.peek_nil with ⟨-,rfl,-⟩ | ⟨h1,-⟩
  ·rfl
  ·exact absurd h1 Qb
 | cons u us=>exact absurd h.peek_cons.1 Qb
theorem CG {W:World} {f:ah} {pv:Value} {lo hi:Nat} (E:aj .i64 lo hi W pv f.pix) :
  aZ 0 (max hi (W.heap.size+1)) (W.alloc (.cells #[f.W,f.H,pv] 24)) (.slice W.heap.size 1 1) [f]:=by
 have hr:=Sd W (.cells #[f.W,f.H,pv] 24);refine ⟨fun i j=>if j=0 then .int .i64 f.W else if j=1 then .int .i64 f.H else pv,⟨some ⟨W.heap.size,0,none⟩,1,rfl,Pm _,Qj,fun _=>⟨W.heap.size,0,rfl,Qa,Qa,fun i j hi F=>?_⟩⟩,fun i hi=>?_⟩
 ·have D:i=0:=by simp at hi;omega
  rw [RG hr];subst D;rcases (by omega:j=0\/j=1\/j=2) with rfl | rfl | rfl <;> rfl
 ·have D:i=0:=by simp at hi;omega
  subst D;exact ⟨rfl,rfl,(E.quiet (ae.new W _)).mono Qa Qa⟩
section
theorem Iw (w:World):Calls prog 53 #[] w fun e w'=>e=.returned (.agg #[(),.int .i64 3,(),(),.int .i64 4,.int .i64 8,.int .i64 8,.int .i64 8])/\ae [] w w':=by
 have hr:=Sd w (.cells #[(),(),(),(),(),(),(),()] 47);obtain ⟨Y,Z,k2,k3,k4,k5,k6,k7⟩:=bJ hr;have F:=Sz _ _ 0 _ _ hr;have I:=Sz _ _ 1 _ _ hr;have J:=Sz _ _ 2 _ _ hr;have L:=Sz _ _ 3 _ _ hr;have M:=Sz _ _ 4 _ _ hr;have N:=Sz _ _ 5 _ _ hr;have O:=Sz _ _ 6 _ _ hr;have V:=Sz _ _ 7 _ _ hr;have E:=lh hr;have D:=lh (ae.new w (.cells #[(),(),(),(),(),(),(),()] 47));clear hr;go_enter func53,ntmps53;go_wp2_with fail
 first
  | exact TV (v:=.agg #[(),.int .i64 3,(),(),.int .i64 4,.int .i64 8,.int .i64 8,.int .i64 8]) (results_cell_row results53 _ _ w.heap.size _ _ _ _ rfl (Sd w _) underlying47 rfl Qc) rfl ⟨rfl,ae.new w _⟩
  | skip
end
theorem bU {p:Prop} (h:p:=by intro wz Rb;obtain ⟨l0,g0,g1,g2,Uk⟩:=Rb;obtain ⟨r0,r1,r2,r3⟩:=aw Uk;go_simp;try with_reducible rfl):p:=h
section
theorem zJ (w:World) (hE:po w) :
  Calls prog 18 #[] w fun e w'=>e=.returned (.bool true)/\ae [] w w':=by
 refine aK fun Q QF=>?_
 have HE:=lh hE;clear hE;have Jnx:=lh (fun W:World=>tr 128 W (show (-9223372036854775808:Int)<=128/\(128:Int)<=9223372036854775807 by decide));have Jsg:=lh (fun W:World=>tr 7 W (show (-9223372036854775808:Int)<=7/\(7:Int)<=9223372036854775807 by decide));have YG:=lh (fun W:World=>uJ qq 0 1 W Ql);unfold qq at YG;go_enter func18,ntmps18;go_wp2_with fail;refine (Iw _).mono ?_;rintro e w1 ⟨rfl,QI⟩;have QO:=lh QI;clear QI;go_wp2_with fail;refine (Jsg.out _).mono ?_;rintro e N ⟨g2,c2,rfl,Sc,QN⟩;have QT:=lh (QO.q QN);have hf:=CG (f:=cU 7) (Sc.ints (l:=(cU 7).pix));have hn:=ae.new (N.alloc (.cells #[.int .i64 8,.int .i64 8,.slice g2 64 c2] 24)) (.cells #[.int .i64 8] 3);have h8:aj .i64 (N.heap.size+1) (N.heap.size+1+1) ((N.alloc (.cells #[.int .i64 8,.int .i64 8,.slice g2 64 c2] 24)).alloc (.cells #[.int .i64 8] 3)) (.slice (some ⟨N.heap.size+1,0,none⟩) 1 1) [8]:=aU (k:=.i64) (l:=[8]) rfl Qj (by simp [i7]) 1 rfl Qb;have hfq:=aZ.quiet (show aZ 0 _ (N.alloc (.cells #[.int .i64 8,.int .i64 8,.slice g2 64 c2] 24)) (.slice N.heap.size 1 1) [cU 7] from hf) hn;have HEn:=lh (rh (a0:=0) (a1:=3) (a2:=0) (a3:=0) (a4:=4) (a5:=8) (a6:=8) (a7:=8) hfq Qb h8 Qb Qb);have QW:=lh (QT.q ((BS).q hn));clear QN hf hn h8 hfq Sc;go_wp2_with fail;generalize Tb:World.alloc (World.alloc N _) _=W3 at *
 clear Tb;refine HEn.mono ?_;rintro e w4 ⟨QY,hm⟩;rw [show bZ ⟨0,3,0,0,4,8,8,8⟩ [cU 7] [8]=none from xO,show uW ⟨0,3,0,0,4,8,8,8⟩ [cU 7] [8]=[⟨4,[]⟩] from CS,show uX ⟨0,3,0,0,4,8,8,8⟩ [cU 7] [8]=[cU 128] from CT] at hm;obtain ⟨la,ln,fa,fn,rfl,hlc,hfc⟩:=hm;have Rh:=lh (QW.q QY);have UW:=lh hlc;have HFc:=lh hfc;have HPn:=lh (fun (W:World)=>tq (l:=[]) (aj.nil .u8 0 0 W) Qb);clear QY hlc hfc HEn;go_wp2_with fail;refine (HPn.out _).mono ?_;rintro e w5 ⟨RF,U5,E5,hs5,hm5⟩;rw [MX hs5] at hm5;obtain ⟨ev5,rfl,Z⟩:=hm5;obtain ⟨et5,eu5,rfl⟩:=Z.held;have HEv:=lh Z;have JyM:=lh RF;clear RF hs5 Z HPn;have HN5:=lh (ae.new w5 (.cells #[(),(),(),d8] 119));go_upto_region 3 with (fail)
 generalize ZI:World.alloc w5 _=W5 at *
 clear ZI;have Jsi:=lh (JyM.q HN5);have Us:=lh (Gl (c:=mD) (UW.quiet Jsi) FO);unfold mD at Us;simp only at Us;go_wp2_with fail;refine Us.mono ?_;rintro e w6 ⟨Sl,hm6⟩;rw [show gu ⟨0,0,1,[⟨4,[]⟩]⟩=true from qG.1] at hm6;obtain ⟨kv,rfl,ho6⟩:=hm6;obtain ⟨kva,kvc,hkv,-⟩:=ho6.ints.open;have HP6:=lh (tq ho6.ints (by have h:=GY mD;unfold mD at h;simp [fd,xJ] at h;omega));have JyN:=lh (Jsi.q Sl);have JyO:=lh (HN5.q Sl);subst hkv;clear Sl ho6 Us;go_wp2_with fail;refine HP6.mono ?_;rintro e w7 ⟨TZ,U7,E7,hs7,hm7⟩;obtain ⟨rfl,rfl⟩:=MZ hs7 (LO qG);rw [show fD (tY ⟨0,0,1,[⟨4,[]⟩]⟩) none=.ok ⟨0,0,1,[⟨4,[]⟩]⟩ from Dw qG] at hm7;obtain ⟨ka,kc,rfl,-⟩:=hm7;simp only [Pq,Pr];have Jsj:=lh (JyN.q TZ);have V:=lh (ae.new w7 (.cells #[(),(),.int .i64 1,.slice ka 1 kc] 119));have HR7:=lh (Sd w7 (.cells #[(),(),.int .i64 1,.slice ka 1 kc] 119));have JyP:=lh (JyO.q TZ);clear TZ hs7 HP6;go_upto_region 5 with (fail)
 generalize hW8:World.alloc w7 _=W8 at *
 clear hW8;obtain ⟨CB,hCB⟩:=bu w7.heap.size
 rw [<- hCB] at HR7 |-
 clear hCB;have VS:=lh (Rh.q (Jsj.q V));have Jpq:=Jsj.q V;have Jpr:=JyP.q V;have Y:=lh (UW.quiet Jpq);have YE:=lh (fun (W:World) (o:ae [] W8 W)=>Il (Y.quiet o) Qb (by intro i hi;simp at hi;subst hi;simp));obtain ⟨_,_,hle,-,-,We⟩:=Y.open;injection hle with e1 e2 e3
 subst e1;obtain ⟨lb,Tu,ldv,rfl,-,-,Xk,-⟩:=We 0 Qb;have Xk:W8.cell? ⟨lb,Tu,none⟩=some (.int .i64 4):=by simpa using Xk
 obtain ⟨_,_,hfe,-,-,Juv⟩:=(HFc.quiet Jpq).open;injection hfe with e4 e5 e6
 subst e4;obtain ⟨fb,E,fdv,rfl,-,-,J,L,TJ,M⟩:=Juv 0 Qb;rw [show ([cU 128]:List ah).getD 0 default=cU 128 from rfl] at J L M;rw [Nat.zero_mul,Nat.add_zero] at J L TJ;obtain ⟨pa,pc,rfl,-⟩:=M.open;have HFi:=lh M;have I:Hid (∀ wx:World,ae [] W8 wx->wx.cell? ⟨lb,Tu,none⟩=some (.int .i64 4)/\wx.cell? ⟨fb,E,none⟩=some (.int .i64 8)/\wx.cell? ⟨fb,E+1,none⟩=some (.int .i64 8)/\wx.cell? ⟨fb,E+2,none⟩=some (.slice pa 64 pc)/\wx.heap[CB]?=some (.cells #[(),(),.int .i64 1,.slice ka 1 kc] 119)):=lh (fun wx o=>⟨o.cell Xk Qb,o.cell J Qb,o.cell L Qb,o.cell TJ Qb,o.row HR7.out⟩);have HKf:Hid (∀ (W:World) (o:ae [] W8 W) (l' h':Nat) (pu:Value) (hu:aj .i64 l' h' W pu (cU 128).pix),Calls prog 12 #[.agg #[.int .i64 8,.int .i64 8,.slice pa 64 pc],.agg #[.int .i64 8,.int .i64 8,pu]] W fun e w'=>e=.returned (.bool true)/\ae [] W w'):=lh (fun W o l' h' pu hu=>by
  have h:=tD (A:=cU 128) (B:=cU 128) (HFi.quiet o) hu;rwa [show CF (cU 128) (cU 128)=true by unfold CF;simp [s5]] at h)
 have HSm:=lh (fun (W:World) (o:ae [] W8 W) (lo' hi':Nat) (sv:Value) (g:cf 2 lo' hi' W sv [(qq,(0:Int))].length (flat [(qq,(0:Int))]))=>ur (o:=some ⟨[(qq,0)],1⟩) (c:=1) (eK.quiet (HEv.quiet Jpr) o) (Pw Jpr.size o.size) (HE.quiet (VS.q o)) Qb g rfl rfl rfl);have o:=lh (ae.refl [] W8);clear Xk J L TJ M Juv We e2 e3 e5 e6 Jpq Jpr UW HFc Y HEv Jsg HFi;refine Tf (S:=(fun wz=>wz.cell? ⟨lb,Tu,none⟩=some (.int .i64 4)/\wz.cell? ⟨fb,E,none⟩=some (.int .i64 8)/\wz.cell? ⟨fb,E+1,none⟩=some (.int .i64 8)/\wz.cell? ⟨fb,E+2,none⟩=some (.slice pa 64 pc)/\wz.heap[CB]?=some (.cells #[(),(),.int .i64 1,.slice ka 1 kc] 119))) Qc ?_ (fun hHeld=>?_)
 ·first | exact I.out _ (AY) | exact I.out _ (AY).drew
 refine e9 0 35 ⟨rfl,bU⟩ ?_;refine e9 1 36 ⟨rfl,bU⟩ ?_;refine e9 2 37 ⟨rfl,bU⟩ ?_;refine e9 3 38 ⟨rfl,bU⟩ ?_;refine e9 4 39 ⟨rfl,bU⟩ ?_;refine e9 5 40 ⟨rfl,bU⟩ ?_;refine e9 6 41 ⟨rfl,bU⟩ ?_;refine e9 7 42 ⟨rfl,bU⟩ ?_;refine e9 8 43 ⟨rfl,bU⟩ ?_;refine e9 9 44 ⟨rfl,bU⟩ ?_;refine e9 10 45 ⟨rfl,bU⟩ ?_;refine e9 11 46 ⟨rfl,bU⟩ ?_;refine e9 12 47 ⟨rfl,bU⟩ ?_;refine e9 13 48 ⟨rfl,bU⟩ ?_;refine e9 14 49 ⟨rfl,bU⟩ ?_;refine e9 15 50 ⟨rfl,bU⟩ ?_;refine e9 16 51 ⟨rfl,bU⟩ ?_;refine e9 17 52 ⟨rfl,bU⟩ ?_;refine e9 18 53 ⟨rfl,bU⟩ ?_;refine e9 19 54 ⟨rfl,bU⟩ ?_;refine e9 20 55 ⟨rfl,bU⟩ ?_;refine e9 21 56 ⟨rfl,bU⟩ ?_;refine e9 22 57 ⟨rfl,bU⟩ ?_
 iterate 7 (all_goals (first | (refine j8 (rs:=[47,48]) Qg Qb ?_;refine j2 47 82 (fun K hK=>?_) (j2 48 83 (fun K hK=>?_) .nil)) | (refine j8 (rs:=[23]) Qg Qb ?_;refine j2 23 58 (fun K hK=>?_) .nil) | (refine j8 (rs:=[24]) Qg Qb ?_;refine j2 24 59 (fun K hK=>?_) .nil) | (refine j8 (rs:=[28]) Qg Qb ?_;refine j2 28 63 (fun K hK=>?_) .nil) | (refine j8 (rs:=[29]) Qg Qb ?_;refine j2 29 64 (fun K hK=>?_) .nil) | (refine j8 (rs:=[47]) Qg Qb ?_;refine j2 47 82 (fun K hK=>?_) .nil) | (refine j8 (rs:=[48]) Qg Qb ?_;refine j2 48 83 (fun K hK=>?_) .nil) | (refine j8 (rs:=[49]) Qg Qb ?_;refine j2 49 84 (fun K hK=>?_) .nil));all_goals go_simp;all_goals (first | (go_at_call 54;refine (Jnx.out _).mono ?_;rintro e v' ⟨g3,c3x,rfl,ho,D⟩;have WQ:=lh ho.ints;clear ho;replace o:Hid (ae [] W8 v'):=lh (by first | exact o.out.q D | exact o.out.drew.q D);clear D;obtain ⟨v,rfl⟩:=bu v';refine hK.out _ _ (I.out _ (by first | exact o.out | exact o.out.drew)) (fun hHeld=>?_);clear hK K) | (go_at_call 12;refine (HKf.out _ (by first | exact o.out | exact o.out.drew) _ _ _ (by first | exact WQ.out | exact WQ.out.quiet (AY).drew)).mono ?_;rintro e v' ⟨rfl,D⟩;clear WQ;replace o:Hid (ae [] W8 v'):=lh (by first | exact o.out.q D | exact o.out.drew.q D);clear D;obtain ⟨v,rfl⟩:=bu v';refine hK.out _ _ (I.out _ (by first | exact o.out | exact o.out.drew)) (fun hHeld=>?_);clear hK K;refine e9 25 60 ⟨rfl,by intro wz Rb;obtain ⟨l0,g0,g1,g2,Uk⟩:=Rb;obtain ⟨r0,r1,r2,r3⟩:=aw Uk;go_simp;try with_reducible rfl⟩ ?_;refine e9 26 61 ⟨rfl,by intro wz Rb;obtain ⟨l0,g0,g1,g2,Uk⟩:=Rb;obtain ⟨r0,r1,r2,r3⟩:=aw Uk;go_simp;try with_reducible rfl⟩ ?_;refine e9 27 62 ⟨rfl,by intro wz Rb;obtain ⟨l0,g0,g1,g2,Uk⟩:=Rb;obtain ⟨r0,r1,r2,r3⟩:=aw Uk;go_simp;try with_reducible rfl⟩ ?_) | (go_at_call 57;refine (YG.out _).mono ?_;rintro e v' ⟨kv,rfl,⟨ksv,rfl,hkc⟩,D⟩;have O:=lh hkc;clear hkc;replace o:Hid (ae [] W8 v'):=lh (by first | exact o.out.q D | exact o.out.drew.q D);clear D;obtain ⟨v,rfl⟩:=bu v';refine hK.out _ _ (I.out _ (by first | exact o.out | exact o.out.drew)) (fun hHeld=>?_);clear hK K) | (go_at_call 13;refine (HSm.out _ (by first | exact o.out | exact o.out.drew) _ _ _ (by first | exact O.out | exact O.out.only (ae.refl [] _).drew Qb)).mono ?_;rintro e v' ⟨rfl,D⟩;clear O;replace o:Hid (ae [] W8 v'):=lh (by first | exact o.out.q D | exact o.out.drew.q D);clear D;obtain ⟨v,rfl⟩:=bu v';refine hK.out _ _ (I.out _ (by first | exact o.out | exact o.out.drew)) (fun hHeld=>?_);clear hK K;refine e9 30 65 ⟨rfl,by intro wz Rb;obtain ⟨l0,g0,g1,g2,Uk⟩:=Rb;obtain ⟨r0,r1,r2,r3⟩:=aw Uk;go_simp;try with_reducible rfl⟩ ?_;refine e9 31 66 ⟨rfl,by intro wz Rb;obtain ⟨l0,g0,g1,g2,Uk⟩:=Rb;obtain ⟨r0,r1,r2,r3⟩:=aw Uk;go_simp;try with_reducible rfl⟩ ?_;refine e9 32 67 ⟨rfl,by intro wz Rb;obtain ⟨l0,g0,g1,g2,Uk⟩:=Rb;obtain ⟨r0,r1,r2,r3⟩:=aw Uk;go_simp;try with_reducible rfl⟩ ?_;refine e9 33 68 ⟨rfl,by intro wz Rb;obtain ⟨l0,g0,g1,g2,Uk⟩:=Rb;obtain ⟨r0,r1,r2,r3⟩:=aw Uk;go_simp;try with_reducible rfl⟩ ?_;refine e9 34 69 ⟨rfl,by intro wz Rb;obtain ⟨l0,g0,g1,g2,Uk⟩:=Rb;obtain ⟨r0,r1,r2,r3⟩:=aw Uk;go_simp;try with_reducible rfl⟩ ?_;refine e9 35 70 ⟨rfl,by intro wz Rb;obtain ⟨l0,g0,g1,g2,Uk⟩:=Rb;obtain ⟨r0,r1,r2,r3⟩:=aw Uk;go_simp;try with_reducible rfl⟩ ?_;refine e9 36 71 ⟨rfl,by intro wz Rb;obtain ⟨l0,g0,g1,g2,Uk⟩:=Rb;obtain ⟨r0,r1,r2,r3⟩:=aw Uk;go_simp;try with_reducible rfl⟩ ?_;refine e9 37 72 ⟨rfl,by intro wz Rb;obtain ⟨l0,g0,g1,g2,Uk⟩:=Rb;obtain ⟨r0,r1,r2,r3⟩:=aw Uk;go_simp;try with_reducible rfl⟩ ?_;refine e9 38 73 ⟨rfl,by intro wz Rb;obtain ⟨l0,g0,g1,g2,Uk⟩:=Rb;obtain ⟨r0,r1,r2,r3⟩:=aw Uk;go_simp;try with_reducible rfl⟩ ?_;refine e9 39 74 ⟨rfl,by intro wz Rb;obtain ⟨l0,g0,g1,g2,Uk⟩:=Rb;obtain ⟨r0,r1,r2,r3⟩:=aw Uk;go_simp;try with_reducible rfl⟩ ?_;refine e9 40 75 ⟨rfl,by intro wz Rb;obtain ⟨l0,g0,g1,g2,Uk⟩:=Rb;obtain ⟨r0,r1,r2,r3⟩:=aw Uk;go_simp;try with_reducible rfl⟩ ?_;refine e9 41 76 ⟨rfl,by intro wz Rb;obtain ⟨l0,g0,g1,g2,Uk⟩:=Rb;obtain ⟨r0,r1,r2,r3⟩:=aw Uk;go_simp;try with_reducible rfl⟩ ?_;refine e9 42 77 ⟨rfl,by intro wz Rb;obtain ⟨l0,g0,g1,g2,Uk⟩:=Rb;obtain ⟨r0,r1,r2,r3⟩:=aw Uk;go_simp;try with_reducible rfl⟩ ?_;refine e9 43 78 ⟨rfl,by intro wz Rb;obtain ⟨l0,g0,g1,g2,Uk⟩:=Rb;obtain ⟨r0,r1,r2,r3⟩:=aw Uk;go_simp;try with_reducible rfl⟩ ?_;refine e9 44 79 ⟨rfl,by intro wz Rb;obtain ⟨l0,g0,g1,g2,Uk⟩:=Rb;obtain ⟨r0,r1,r2,r3⟩:=aw Uk;go_simp;try with_reducible rfl⟩ ?_;refine e9 45 80 ⟨rfl,by intro wz Rb;obtain ⟨l0,g0,g1,g2,Uk⟩:=Rb;obtain ⟨r0,r1,r2,r3⟩:=aw Uk;go_simp;try with_reducible rfl⟩ ?_;refine e9 46 81 ⟨rfl,by intro wz Rb;obtain ⟨l0,g0,g1,g2,Uk⟩:=Rb;obtain ⟨r0,r1,r2,r3⟩:=aw Uk;go_simp;try with_reducible rfl⟩ ?_) | (go_at_call 58;refine (YE.out _ (by first | exact o.out | exact o.out.drew)).mono ?_;rintro e v' ⟨sv,rfl,Zg,D⟩;have F:=lh Zg.ints;clear Zg;(try replace H8:Hid (aj .i64 _ _ v' _ [8]):=lh (by first | exact H8.out.quiet D | exact (H8.out.quiet (AY).drew).quiet D));replace o:Hid (ae [] W8 v'):=lh (by first | exact o.out.q D | exact o.out.drew.q D);clear D;obtain ⟨v,rfl⟩:=bu v';refine hK.out _ _ (I.out _ (by first | exact o.out | exact o.out.drew)) (fun hHeld=>?_);clear hK K) | (generalize hW:World.alloc _ _=v';have D:ae [] v v':=(kr hW);have H8:Hid (aj .i64 v.heap.size (v.heap.size+1) v' (.slice v.heap.size 1 1) [8]):=lh (by rw [<- hW];exact aU (k:=.i64) (l:=[8]) rfl Qj (by simp [i7]) 1 rfl rfl);clear hW;(try replace F:Hid (aj .i64 _ _ v' _ (fd [⟨4,[]⟩])):=lh (by first | exact F.out.quiet D | exact (F.out.quiet (AY).drew).quiet D));replace o:Hid (ae [] W8 v'):=lh (by first | exact o.out.q D | exact o.out.drew.q D);clear D;obtain ⟨v,rfl⟩:=bu v';refine hK.out _ _ (I.out _ (by first | exact o.out | exact o.out.drew)) (fun hHeld=>?_);clear hK K) | (go_at_call 46;refine (tC (by first | exact F.out | exact F.out.quiet (AY).drew) (by first | exact H8.out | exact H8.out.quiet (AY).drew)).mono ?_;rintro e v' ⟨rfl,D⟩;rw [show s5 (fd [⟨4,[]⟩]) [8]=true by kernel_rfl];replace o:Hid (ae [] W8 v'):=lh (by first | exact o.out.q D | exact o.out.drew.q D);clear D;obtain ⟨v,rfl⟩:=bu v';refine hK.out _ _ (I.out _ (by first | exact o.out | exact o.out.drew)) (fun hHeld=>?_);clear hK K;refine e9 50 85 ⟨rfl,by intro wz Rb;obtain ⟨l0,g0,g1,g2,Uk⟩:=Rb;obtain ⟨r0,r1,r2,r3⟩:=aw Uk;go_simp;try with_reducible rfl⟩ ?_;refine e9 51 0 ⟨rfl,by intro wz Rb;obtain ⟨l0,g0,g1,g2,Uk⟩:=Rb;obtain ⟨r0,r1,r2,r3⟩:=aw Uk;go_simp;try with_reducible rfl⟩ ?_)))
 all_goals (refine Wn Qc ?_ _)
 all_goals
  go_wp2_with fail;exact QF.out _ _ ⟨rfl,by first | exact VS.q o | exact VS.q o.drew⟩
end
end Go.Proofs.YthcafdfdglfabaaGreatDoor
