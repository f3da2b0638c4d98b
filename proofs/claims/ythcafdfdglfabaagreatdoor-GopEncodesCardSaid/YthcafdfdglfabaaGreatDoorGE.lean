/- kinref23.Encode codes a group by the document. Conditions: what is handed in reads. -/
import Derived.Test.YthcafdfdglfabaaGreatDoorGB
namespace Go.Proofs.YthcafdfdglfabaaGreatDoor
open Go.Proofs.Tryz
open Go.RowKit
set_option linter.unusedVariables false
set_option linter.unusedSimpArgs false
set_option maxRecDepth 100000
set_option maxHeartbeats 16000000
theorem gG {p:Prop} (h:p:=by intro wz Rb;obtain ⟨Un,Wx,c0,c1,c2,cc⟩:=Rb;obtain ⟨k0,k1,k2,k3,k4,k5,k6,k7⟩:=bJ Un;obtain ⟨p0,p1,p2⟩:=ag Wx;go_simp;try with_reducible rfl):p:=h
def Ej (c:j3) (l:List ah) (caps:List Int) (w:World) (e:Ending) (w':World):Prop :=
 ae [] w w'/\match bZ c l caps with
  | some k=>e=.returned (.tuple #[d8,d8,.agg #[k,d8]])
  | none=>∃ a an b bn,e=.returned (.tuple #[.slice a l.length an,.slice b l.length bn,.agg #[(),d8]])/\cm w.heap.size w'.heap.size w' (.slice a l.length an) (uW c l caps)/\aZ w.heap.size w'.heap.size w' (.slice b l.length bn) (uX c l caps)
theorem tU (w:World) (n:Nat):ae [] w (w.drewN n):=⟨rfl,rfl,rfl,Pm _,fun _ _ _=>rfl⟩
theorem Gc {src prev:ah} {key:Bool} {c:j3} {most:Int} (h:sU src prev key c most=.nilIface):Gb src prev key c most=none:=by
 rw [Mj] at h;cases e:Gb src prev key c most with
 | none=>rfl
 | some k=>rw [e] at h;cases h
theorem Ov {α:Type} [Inhabited α] {l:List α} {p:α->Bool} (h:∀ j,j<l.length->p (l.getD j default)=true):l.any (fun x=>!p x)=false:=by
 rw [Bool.eq_false_iff];intro e;obtain ⟨x,hx,E⟩:=List.any_eq_true.1 e;obtain ⟨j,D,rfl⟩:=List.getElem_of_mem hx;have:=h j D;rw [Pd,Pe D] at this;simp only [Option.getD_some] at this;rw [this] at E;cases E
theorem Ow {α:Type} [Inhabited α] {l:List α} {p:α->Bool} {j:Nat} (h:j<l.length) (D:p (l.getD j default)=false):l.any (fun x=>!p x)=true :=
 List.any_eq_true.2 ⟨l.getD j default,by rw [Pd,Pe h];exact PG h,by rw [D];rfl⟩
section
variable {c:j3} {l:List ah} {caps:List Int}
theorem Mn (h:fM c=false):bZ c l caps=some 11:=if_pos h
theorem Ex (h:fM c=true) (h1:l.length=0\/16<l.length):bZ c l caps=some 2:=by
 unfold bZ;rw [if_neg (by rw [h];decide),if_pos (h1.imp_right .inl)]
theorem Ml (h:fM c=true) (h1:0<l.length/\l.length<=16) {k:Nat} (D:k<l.length) (E:cT (l.getD k default)=false):bZ c l caps=some 2:=by
 unfold bZ;rw [if_neg (by rw [h];decide),if_pos (.inr (.inr (Ow (p:=cT) D E)))]
theorem CN (h:fM c=true) (h1:0<l.length/\l.length<=16) (D:∀ j,j<l.length->cT (l.getD j default)=true):bZ c l caps=if l.any (fun f=>!(decide (f.W=(l.getD 0 default).W) && decide (f.H=(l.getD 0 default).H)))=true\/caps.length≠l.length then some 14
 else if caps.any (fun n=>decide (n<8))=true then some 3 else none:=by
 unfold bZ;rw [if_neg (by rw [h];decide),if_neg (by rw [Ov (p:=cT) D];exact fun e=>e.elim (fun e=>Qa) fun e=>e.elim (fun e=>Qa) (fun e=>by cases e))]
theorem Jz (h:fM c=true) (h1:0<l.length/\l.length<=16) (E:∀ j,j<l.length->cT (l.getD j default)=true) {k:Nat} (F:k<l.length)
  (I:¬ ((l.getD k default).W=(l.getD 0 default).W/\(l.getD k default).H=(l.getD 0 default).H/\caps.length=l.length)):bZ c l caps=some 14:=by
 rw [CN h h1 E];refine if_pos ?_;by_cases D:caps.length=l.length
 ·left
  refine Ow (p:=fun f:ah=>decide (f.W=(l.getD 0 default).W) && decide (f.H=(l.getD 0 default).H)) F ?_;simp only [Bool.and_eq_false_iff,decide_eq_false_iff_not];exact (Decidable.not_and_iff_or_not.1 fun e=>I ⟨e.1,e.2,D⟩)
 ·exact .inr D
theorem Jy (E:∀ j,j<l.length->(l.getD j default).W=(l.getD 0 default).W/\(l.getD j default).H=(l.getD 0 default).H/\caps.length=l.length) (F:caps.length=l.length) :
  ¬ (l.any (fun f=>!(decide (f.W=(l.getD 0 default).W) && decide (f.H=(l.getD 0 default).H)))=true\/caps.length≠l.length):=by
 rw [Ov (p:=fun f:ah=>decide (f.W=(l.getD 0 default).W) && decide (f.H=(l.getD 0 default).H)) fun j D=>by rw [decide_eq_true (E j D).1,decide_eq_true (E j D).2.1];rfl];rintro (e | e)
 ·cases e
 ·exact e F
theorem Mm (h:fM c=true) (h1:0<l.length/\l.length<=16) (E:∀ j,j<l.length->cT (l.getD j default)=true) (I:∀ j,j<l.length->(l.getD j default).W=(l.getD 0 default).W/\(l.getD j default).H=(l.getD 0 default).H/\caps.length=l.length) (F:caps.length=l.length)
  (hi:∀ x∈caps,x<=9223372036854775807) (D:aO caps 8 9223372036854775807=false):bZ c l caps=some 3:=by
 rw [CN h h1 E,if_neg (Jy I F)];refine if_pos (Classical.byContradiction fun e=>?_);have:aO caps 8 9223372036854775807=true:=by
  unfold aO;rw [t6];intro x hx;refine decide_eq_true ⟨?_,hi x hx⟩;refine Classical.byContradiction fun h8=>e (List.any_eq_true.2 ⟨x,hx,decide_eq_true Qa⟩)
 rw [this] at D;cases D
theorem Jx (h:fM c=true) (h1:0<l.length/\l.length<=16) (D:∀ j,j<l.length->cT (l.getD j default)=true) (F:∀ j,j<l.length->(l.getD j default).W=(l.getD 0 default).W/\(l.getD j default).H=(l.getD 0 default).H/\caps.length=l.length) (E:caps.length=l.length)
  (I:aO caps 8 9223372036854775807=true):bZ c l caps=none:=by
 rw [CN h h1 D,if_neg (Jy F E)];refine if_neg fun e=>?_
 obtain ⟨x,hx,h8⟩:=List.any_eq_true.1 e;have:=A2 (t6.1 I x hx);have:=A2 h8;omega
end
section
theorem yD {p:Prop} (h:p:=by
 have Rx:ae [] w _:=HQz.trans QV (U:=[]) Qb (fun g hg hl=>Qd);refine TV (mU results22 _ _ (w.heap.size+1) _ _ _ _ (.slice none 0 0) (.slice none 0 0) rfl rfl rfl QK underlying39 rfl (aG _ rfl)) rfl (QF.out _ _ ?_);unfold Ej;rw [HB.out];exact ⟨Rx,rfl⟩):p:=h
theorem DI {p:Prop} (h:p:=by
 clear Xh QX;go_wp2_with fail
 go_quiet (fail)
 have HDn:=lh (tU wr nq);generalize World.drewN wr nq=wn at *
 clear c0 c1 d0 d1;have RY:=lh (TL.q HDn);have HEn:=lh (HDn.row HEw);go_wp2_with fail;refine (fo 14 _).mono ?_;rintro e w9 ⟨rfl,hq⟩;have HEz:=lh (hq.row HEn);have HQz:=lh (RY.q hq);clear hq
 go_wp2_with (first | (refine am rfl (.tmp 8) (.tmp 79) 39 rfl rfl rfl HEz (aG _ rfl) rfl mi ?_) | fail)
 have QV:=ae.setRow (S:=[w.heap.size+1]) (ae.refl _ w9) (g:=w.heap.size+1) (fun _=>Qb) #[.int .i64 14,d8];have QK:=m7 w9 (w.heap.size+1) _ #[.int .i64 14,d8] _ _ HEz;exact yD):p:=h
theorem Lx {p:Prop} (h:p:=by
 have QV:=ae.setRow (S:=[w.heap.size+1]) (ae.refl _ w9) (g:=w.heap.size+1) (fun _=>Qb) #[.int .i64 2,d8];have QK:=m7 w9 (w.heap.size+1) _ #[.int .i64 2,d8] _ _ HEz;exact yD):p:=h
theorem Lv {p:Prop} (h:p:=by
 go_wp2_with fail;refine (fo 2 _).mono ?_;rintro e w9 ⟨rfl,hq⟩;have HEz:=lh (hq.row HE4);have HQz:=lh (Rh.q hq);clear hq
 go_wp2_with (first | (refine am rfl (.tmp 8) (.tmp 30) 39 rfl rfl rfl HEz (aG _ rfl) rfl mi ?_) | fail)
 exact Lx):p:=h
theorem xR {lo hi lo' hi':Nat} {v cv:Value} {l:List ah} {caps:List Int} {a0 a1 a2 a3 a4 a5 a6 a7:Int} {w:World} (h:aZ lo hi w v l) (hl:l.length<=1000000000) (hc:aj .i64 lo' hi' w cv caps) (hcl:caps.length<=1000000000) (hh:hi<=w.heap.size) :
  Calls prog 22 #[.agg #[a0,a1,a2,a3,a4,a5,a6,a7],v,cv] w (Ej (⟨a0,a1,a2,a3,a4,a5,a6,a7⟩:j3) l caps w):=by
 refine aK fun Q QF=>?_
 have HMy:=lh (fun W:World=>wj (⟨a0,a1,a2,a3,a4,a5,a6,a7⟩:j3) W);unfold j3.v at HMy;have Hhh:=lh hh;obtain ⟨a,cap,rfl,-,-,RO⟩:=h.open;have TT:=lh RO;have YF:=lh (fun (W:World) (o:ae [] w W)=>bQ 8 9223372036854775807 (hc.quiet o));have Tg:Hid (∀ x∈caps,x<=9223372036854775807):=lh (fun x hx=>(hc.2 x hx).2);obtain ⟨ca,Jtp,rfl,-,-,Zm,hcc⟩:=hc.open;have HCb:=lh Zm;have XG:=lh hcc;obtain ⟨QI,HK1,HE1,UN⟩:=km w (.cells #[a0,a1,a2,a3,a4,a5,a6,a7] 47) (.cells #[(),d8] 39);have QO:=lh QI;have Th:(l.length:Int)<=9223372036854775807:=Qa;have Jul:(caps.length:Int)<=9223372036854775807:=Qa;clear h hc RO Zm hcc hl hcl QI hh;go_enter func22,ntmps22;obtain ⟨k0,k1,k2,k3,k4,k5,k6,k7⟩:=bJ HK1;go_wp2_with fail;generalize Rs:World.alloc (World.alloc w _) _=W1 at *
 clear Rs k0 k1 k2 k3 k4 k5 k6 k7;refine (HMy.out W1).mono ?_;rintro e w4 ⟨rfl,hq⟩;have Rh:=lh (QO.q hq);have HK4:=lh (hq.row HK1);have HE4:=lh (hq.row HE1);have WT:Hid (w.heap.size+1<w4.heap.size):=lh (l6 hq.size UN.out);clear hq HMy QO HK1 HE1 UN;cases V:fM (⟨a0,a1,a2,a3,a4,a5,a6,a7⟩:j3) with
 | false =>
  have HB:=lh (Mn (l:=l) (caps:=caps) V);clear V;go_wp2_with fail;refine (fo 11 _).mono ?_;rintro e w9 ⟨rfl,hq⟩;have HEz:=lh (hq.row HE4);have HQz:=lh (Rh.q hq);clear hq
  go_wp2_with (first | (refine am rfl (.tmp 8) (.tmp 21) 39 rfl rfl rfl HEz (aG _ rfl) rfl mi ?_) | fail)
  have QV:=ae.setRow (S:=[w.heap.size+1]) (ae.refl _ w9) (g:=w.heap.size+1) (fun _=>Qb) #[.int .i64 11,d8];have QK:=m7 w9 (w.heap.size+1) _ #[.int .i64 11,d8] _ _ HEz;exact yD
 | true =>
  have HM:=lh V;clear V;by_cases h0:l.length=0
  ·have h0i:(l.length:Int)<1:=Qa
   have HB:=lh (Ex (caps:=caps) HM (.inl h0));clear h0;exact Lv
  ·have h0i:¬ (l.length:Int)<1:=Qa
   have TK:0<l.length:=Qa;by_cases Yp:16<l.length
   ·have Jkg:(16:Int)<(l.length:Int):=Qa
    have HB:=lh (Ex (caps:=caps) HM (.inr Yp));clear Yp h0;exact Lv
   ·have Jkg:¬ (16:Int)<(l.length:Int):=Qa
    have JbS:Hid (0<l.length/\l.length<=16):=lh ⟨TK,Qa⟩;obtain ⟨b,off,dv0,rfl,-,-,h00,h01,-,-⟩:=TT.out 0 TK;rw [Nat.zero_mul,Nat.add_zero] at h00 h01;have H00:=lh h00;have H01:=lh h01;clear h00 h01 h0 Yp;go_wp2_with fail;clear h0i Jkg;go_loopw [9] (fun i wr=>∃ k:Nat,k<=l.length/\i=.int .i64 k/\Hid (∀ j,j<k->cT (l.getD j default)=true)/\Hid (ae [] w4 wr)) (fun i _=>l.length-(intOf i).toNat)
    case atStart=>exact ⟨0,Qa,rfl,lh (fun j hj=>absurd hj Qa),lh (AY)⟩
    case round =>
     obtain ⟨k,hk,rfl,Jay,Tz⟩:=hrel;by_cases QH:k<l.length
     ·have Rt:(k:Int)<(l.length:Int):=Qa
      have RA:(0:Int)<=(k:Int):=Qa;obtain ⟨b',Um,dv,e',-,-,TM,Sq,SE,hd⟩:=TT.out k QH;cases e';have TL:=lh (Rh.q Tz);have c0:=TL.cell TM Qb;have c1:=TL.cell Sq Qb;have c2:=TL.cell SE Qb;obtain ⟨f,hf⟩:=bu (l.getD k default)
      rw [<- hf] at c0 c1 hd;have Hf:=lh hf;have HMf:=lh (gZ f.W f.H (hd.quiet TL));clear TM Sq SE hd hf;go_wp2_with fail;clear c0 c1 c2;refine HMf.mono ?_;rintro e w5 ⟨rfl,hq⟩;have Rk:=lh (Tz.q hq);have SJ:=lh (TL.q hq);have HE6:=lh (Rk.row HE4);clear hq HMf;have Jrv:Hid ((⟨f.W,f.H,f.pix⟩:ah)=f):=lh rfl;rw [Jrv.out];clear Jrv;cases Uv:cT f with
      | false =>
       have HB:=lh (Ml (caps:=caps) HM JbS QH (na Hf Uv));clear Uv;go_wp2_with fail;refine (fo 2 _).mono ?_;rintro e w9 ⟨rfl,hq⟩;have HEz:=lh (hq.row HE6);have HQz:=lh (SJ.q hq);clear hq
       go_wp2_with (first | (refine am rfl (.tmp 8) (.tmp 43) 39 rfl rfl rfl HEz (aG _ rfl) rfl mi ?_) | fail)
       exact Lx
      | true =>
       have JxG:Hid (∀ j,j<k+1->cT (l.getD j default)=true):=lh (fun j hj=>if e:j=k then by rw [e,<- Hf.out];exact Uv else Jay j Qa);clear Uv;go_wp2_with fail;exact ⟨⟨k+1,Qa,Qh,JxG,Rk⟩,Qf⟩
     ·obtain rfl:k=l.length:=Qa
      have hx:¬ (l.length:Int)<(l.length:Int):=Qa;have WS:=lh (Rh.q Tz);have HE7:=lh (Tz.row HE4);have Zj:=lh (Tz.row HK4);have HZ7:Hid (w.heap.size+1<wr.heap.size):=lh (l6 Tz.size WT.out);clear HE4 HK4 Rh WT Tz hk QH;have d0:=WS.cell H00 Qb;have d1:=WS.cell H01 Qb;go_wp2_with fail;clear hx;obtain ⟨W7,hW7⟩:=bu wr
      subst hW7;go_loopw [10] (fun i wr=>∃ k:Nat,k<=l.length/\i=.int .i64 k/\Hid (∀ j,j<k->(l.getD j default).W=(l.getD 0 default).W/\(l.getD j default).H=(l.getD 0 default).H/\caps.length=l.length)/\Hid (ae [] W7 wr)) (fun i _=>l.length-(intOf i).toNat)
      case atStart=>exact ⟨0,Qa,rfl,lh (fun j hj=>absurd hj Qa),lh (AY)⟩
      case round =>
       clear d0 d1;obtain ⟨k,hk,rfl,HSd,Tz⟩:=hrel;have TL:=lh (WS.q Tz);have HEw:=lh (Tz.row HE7);have HKw:=lh (Tz.row Zj);have HZw:Hid (w.heap.size+1<wr.heap.size):=lh (l6 Tz.size HZ7.out);by_cases QH:k<l.length
       ·have Rt:(k:Int)<(l.length:Int):=Qa
        have RA:(0:Int)<=(k:Int):=Qa;obtain ⟨b',Um,dv,e',-,-,TM,Sq,-,-⟩:=TT.out k QH;cases e';have c0:=TL.cell TM Qb;have c1:=TL.cell Sq Qb;have d0:=TL.cell H00 Qb;have d1:=TL.cell H01 Qb;have Xh:=lh (fun h=>Jz (l:=l) (caps:=caps) HM JbS Jay QH h);have QX:Hid (∀ h:(l.getD k default).W=(l.getD 0 default).W/\(l.getD k default).H=(l.getD 0 default).H/\caps.length=l.length,∀ j,j<k+1->(l.getD j default).W=(l.getD 0 default).W/\(l.getD j default).H=(l.getD 0 default).H/\caps.length=l.length):=lh (fun h j hj=>if e:j=k then by rw [e];exact h else HSd j Qa);clear TM Sq;generalize (l.getD k default).W=x at *
        generalize (l.getD k default).H=y at *
        generalize (l.getD 0 default).W=x0 at *
        generalize (l.getD 0 default).H=y0 at *
        by_cases hW:x=x0
        ·have q1:(x == x0)=true:=dn beq_iff_eq hW
         by_cases hH:y=y0
         ·have q2:(y == y0)=true:=dn beq_iff_eq hH
          by_cases hn:caps.length=l.length
          ·have q3:((caps.length:Int) == (l.length:Int))=true:=Qu
           have VT:=lh (QX.out ⟨hW,hH,hn⟩);clear Xh QX hn;go_wp2_with fail
           go_quiet (fail)
           have HDn:=lh (tU wr nq);generalize World.drewN wr nq=wn at *
           go_wp2_with fail;exact ⟨⟨k+1,Qa,Qh,VT,lh (Tz.q HDn)⟩,Qf⟩
          ·have q3:((caps.length:Int) == (l.length:Int))=false:=Qk
           have HB:=lh (Xh.out (fun h=>hn h.2.2));exact DI
         ·have q2:(y == y0)=false:=dn A5 hH
          have HB:=lh (Xh.out (fun h=>hH h.2.1));exact DI
        ·have q1:(x == x0)=false:=dn A5 hW
         have HB:=lh (Xh.out (fun h=>hW h.1));exact DI
       ·obtain rfl:k=l.length:=Qa
        have hx:¬ (l.length:Int)<(l.length:Int):=Qa;clear hk QH;have YG:=lh (YF.out wr TL);clear YF;go_wp2_with fail;clear hx;refine YG.mono ?_;rintro e w5 ⟨rfl,rfl⟩;have VM:=lh (VL (HSd.out 0 JbS.1).2.2 JbS.2);cases hwi:aO caps 8 9223372036854775807 with
        | false =>
         have HB:=lh (Mm HM JbS Jay HSd VM.1 Tg hwi);clear hwi;go_wp2_with fail;refine (fo 3 _).mono ?_;rintro e w9 ⟨rfl,hq⟩;have HEz:=lh (hq.row HEw);have HQz:=lh (TL.q hq);clear hq
         go_wp2_with (first | (refine am rfl (.tmp 8) (.tmp 83) 39 rfl rfl rfl HEz (aG _ rfl) rfl mi ?_) | fail)
         have QV:=ae.setRow (S:=[w.heap.size+1]) (ae.refl _ w9) (g:=w.heap.size+1) (fun _=>Qb) #[.int .i64 3,d8];have QK:=m7 w9 (w.heap.size+1) _ #[.int .i64 3,d8] _ _ HEz;exact yD
        | true =>
         have TN:=Jx HM JbS Jay HSd VM.1 hwi;have HNo:=lh TN;have JrG:=lh (JC TN);have HGA:Hid (uW (⟨a0,a1,a2,a3,a4,a5,a6,a7⟩:j3) l caps=(og (⟨a0,a1,a2,a3,a4,a5,a6,a7⟩:j3) (fun i=>caps.getD i 0) l 0 fC).map (·.1)):=lh rfl;have HGB:Hid (uX (⟨a0,a1,a2,a3,a4,a5,a6,a7⟩:j3) l caps=(og (⟨a0,a1,a2,a3,a4,a5,a6,a7⟩:j3) (fun i=>caps.getD i 0) l 0 fC).map (·.2)):=lh rfl;clear Tg HSd Jay H00 H01;have Tg:=JrG;clear JrG hwi TN;generalize (l.getD 0 default).W=W0 at *
         generalize (l.getD 0 default).H=H0 at *
         obtain ⟨E,hw2⟩:=bu wr
         subst hw2;go_wp2_with fail;have QW:=lh (TL.q (ae.new E (.cells #[(),(),d8] 24)));have WQ:=lh (Sd E (.cells #[(),(),d8] 24));have HK3:=lh ((ae.new E (.cells #[(),(),d8] 24)).row HKw);have HE3:=lh ((ae.new E (.cells #[(),(),d8] 24)).row HEw);have UO:Hid ((E.alloc (.cells #[(),(),d8] 24)).heap.size=E.heap.size+1/\w.heap.size<E.heap.size/\w.heap.size+1<E.heap.size):=lh ⟨Qb,by have:=HZw.out;omega,HZw.out⟩;generalize Tb:World.alloc E _=W3 at *
         clear Tb TL HKw HEw HZw Tz WS HE7 Zj HZ7 YG;go_loopw [14,11,12,15,16,17] (fun i r s _ _ _ wr=>∃ (k:Nat) (prev:ah) (A:List bw) (B:List ah) (pa:Option Addr) (pc:Nat),k<=l.length/\i=.int .i64 k/\Hid (vA (⟨a0,a1,a2,a3,a4,a5,a6,a7⟩:j3) (fun i=>caps.getD i 0) W0 H0 (l.drop k) k prev)/\Hid (A ++ (og (⟨a0,a1,a2,a3,a4,a5,a6,a7⟩:j3) (fun i=>caps.getD i 0) (l.drop k) k prev).map (·.1)=uW (⟨a0,a1,a2,a3,a4,a5,a6,a7⟩:j3) l caps/\B ++ (og (⟨a0,a1,a2,a3,a4,a5,a6,a7⟩:j3) (fun i=>caps.getD i 0) (l.drop k) k prev).map (·.2)=uX (⟨a0,a1,a2,a3,a4,a5,a6,a7⟩:j3) l caps)/\Hid (A.length=k/\B.length=k)/\Hid (il (E.heap.size+1) wr r A s B)/\Hid (wr.heap[E.heap.size]?=some (.cells (sT prev pa pc) 24))/\Hid (aj .i64 0 wr.heap.size wr (.slice pa prev.pix.length pc) prev.pix)/\Hid (ae [] w wr)/\Hid (wr.heap[w.heap.size]?=some (.cells #[a0,a1,a2,a3,a4,a5,a6,a7] 47))/\Hid (E.heap.size+1<=wr.heap.size)/\Hid (wr.heap[w.heap.size+1]?=some (.cells #[(),d8] 39))) (fun i _ _ _ _ _ _=>l.length-(intOf i).toNat)
         case atStart=>exact ⟨0,fC,[],[],none,0,Qa,rfl,Tg,lh ⟨HGA.symm,HGB.symm⟩,lh ⟨rfl,rfl⟩,lh (il.nil _ _),WQ,lh (aj.nil _ _ _ _),QW,HK3,lh (j0 UO.1),HE3⟩
         case round =>
          obtain ⟨k,prev,A,B,pa,pc,hk,rfl,HI,HG,HL,HO,HR,HPp,HQ,HK,HZ,Yx⟩:=hrel;obtain ⟨ra,rc,ZW,ZX,rfl,rfl⟩:=HO.slices;rw [HL.1,HL.2] at HO |-
          by_cases QH:k<l.length
          ·have Rt:(k:Int)<(l.length:Int):=Qa
           have RA:(0:Int)<=(k:Int):=Qa;have hkc:(k:Int)<(caps.length:Int):=by have:=VM.1;omega
           have JhW:k<caps.length:=Qa;obtain ⟨b',Um,dv,e',-,-,TM,Sq,SE,hd⟩:=TT.out k QH;cases e';have c0:=HQ.cell TM Qb;have c1:=HQ.cell Sq Qb;have c2:=HQ.cell SE Qb;obtain ⟨cb,JdK,rfl,-,-⟩:=HCb.out k JhW;have XH:=lh (HQ.cell (XG.out cb JdK rfl k JhW) Qb);have hI:=HI.out;have hG:=HG.out;rw [Nj QH] at hI hG;generalize l.getD k default=f at *
           obtain ⟨hv,WC,Wq⟩:=hI.head;simp only [og,PU] at hG
           (try simp only [] at Wq)
           generalize caps.getD k 0=most at *
           obtain ⟨sa,sc,rfl,-⟩:=hd.open;have Jdf:Hid (∀ (W:World) (o:ae [] wr W),Calls prog 17 #[.agg #[f.W,f.H,.slice sa f.pix.length sc],.agg #[prev.W,prev.H,.slice pa prev.pix.length pc],.bool (k == 0),.agg #[a0,a1,a2,a3,a4,a5,a6,a7],most] W (Me (mH f prev (k == 0) (⟨a0,a1,a2,a3,a4,a5,a6,a7⟩:j3) most) (lq f prev (k == 0) (⟨a0,a1,a2,a3,a4,a5,a6,a7⟩:j3) most) (.agg #[(),d8]) W)):=lh (fun W o=>by
            have h:=Gx (src:=f) (prev:=prev) (k == 0) (⟨a0,a1,a2,a3,a4,a5,a6,a7⟩:j3) most (hd.quiet (HQ.q o)) (HPp.quiet o) (Pw Hhh (HQ.q o).size) o.size;rw [Gc hv] at h;exact h)
           have Tr:=lh WC;have HNx:=lh Wq;have HG2:=lh hG;obtain ⟨kb,hkb⟩:=bu ((k == 0))
           rw [<- hkb] at Jdf Tr HNx HG2;have qk:((k:Int) == 0)=kb:=by rw [hkb,m9,beq_iff_eq,beq_iff_eq];omega
           generalize mH f prev kb (⟨a0,a1,a2,a3,a4,a5,a6,a7⟩:j3) most=C at *
           generalize lq f prev kb (⟨a0,a1,a2,a3,a4,a5,a6,a7⟩:j3) most=B1 at *
           clear hI hG hv WC Wq hkb TM Sq SE hd;have HC0:=lh c0;have HC1:=lh c1;have Uz:=lh c2;clear c0 c1 c2;go_upto_region 23 with (fail)
           obtain ⟨D,XO⟩:=bu wr
           have Rh:Hid (ae [] wr D):=lh (by rw [XO];exact AY);have WT:Hid (D.heap.size=wr.heap.size):=lh (by rw [XO]);rw [<- XO];clear XO;have HFt:=lh (fun (W:World) (o:ae [] D W)=>Jdf.out W (Rh.q o));have L:Hid (∀ wx:World,ae [] D wx->wx.heap[w.heap.size]?=some (.cells #[a0,a1,a2,a3,a4,a5,a6,a7] 47)/\wx.heap[E.heap.size]?=some (.cells (sT prev pa pc) 24)/\wx.cell? ⟨b,off+k*3,none⟩=some (.int .i64 f.W)/\wx.cell? ⟨b,off+k*3+1,none⟩=some (.int .i64 f.H)/\wx.cell? ⟨b,off+k*3+2,none⟩=some (.slice sa f.pix.length sc)/\wx.cell? ⟨cb,JdK+k,none⟩=some (.int .i64 most)):=lh (fun wx o=>⟨(Rh.q o).row HK,(Rh.q o).row HR.out,(Rh.q o).cell HC0.out Qb,(Rh.q o).cell HC1.out Qb,(Rh.q o).cell Uz.out Qb,(Rh.q o).cell XH.out Qb⟩);go_cut [15,16,17] (fun sC sE sY wx=>∃ (M:Nat) (J:Nat) (N:Nat) (F:Nat) (h1:Nat) (Z:Option Addr) (n3:Nat) (O:Option Addr) (Y:Nat),sC=.pointer M/\sE=.pointer J/\sY=.pointer N/\Hid (ae [] D wx)/\Hid (wx.heap[M]?=some (.cells #[C.kind,.slice Z C.data.length n3] 31))/\Hid (wx.heap[J]?=some (.cells (sT B1 O Y) 24))/\Hid (wx.heap[N]?=some (.cells #[(),d8] 39))/\Hid (D.heap.size<=F/\h1<=wx.heap.size)/\Hid (lY F h1 wx (.slice Z C.data.length n3) C.data (.slice O B1.pix.length Y) B1.pix)/\Hid (D.heap.size<=M/\(M<F\/h1<=M))/\Hid (D.heap.size<=J/\(J<F\/h1<=J))/\Hid (D.heap.size<=N/\(N<F\/h1<=N)))
           case first =>
            refine Tf (S:=(fun wz=>wz.heap[w.heap.size]?=some (.cells #[a0,a1,a2,a3,a4,a5,a6,a7] 47)/\wz.heap[E.heap.size]?=some (.cells (sT prev pa pc) 24)/\wz.cell? ⟨b,off+k*3,none⟩=some (.int .i64 f.W)/\wz.cell? ⟨b,off+k*3+1,none⟩=some (.int .i64 f.H)/\wz.cell? ⟨b,off+k*3+2,none⟩=some (.slice sa f.pix.length sc)/\wz.cell? ⟨cb,JdK+k,none⟩=some (.int .i64 most))) Qc ?_ (fun hHeld=>?_)
            ·first | exact L.out _ (AY) | exact L.out _ (AY).drew
            have o:Hid (ae [] D D.drew):=lh (AY).drew;obtain ⟨v,hv⟩:=bu D.drew
            rw [<- hv] at o hHeld |-
            clear hv;refine e9 0 92 ⟨rfl,gG⟩ ?_;refine e9 1 93 ⟨rfl,gG⟩ ?_;refine e9 2 94 ⟨rfl,gG⟩ ?_;refine e9 3 95 ⟨rfl,gG⟩ ?_;refine e9 4 96 ⟨rfl,gG⟩ ?_;refine e9 5 97 ⟨rfl,gG⟩ ?_;refine e9 6 98 ⟨rfl,gG⟩ ?_;refine e9 7 99 ⟨rfl,gG⟩ ?_;refine e9 8 100 ⟨rfl,gG⟩ ?_;refine e9 9 101 ⟨rfl,gG⟩ ?_;refine e9 10 102 ⟨rfl,gG⟩ ?_;refine e9 11 103 ⟨rfl,gG⟩ ?_
            iterate 4 (all_goals (first | (refine j8 (rs:=[12,17,18,19]) Qg Qb ?_;refine j2 12 104 (fun K hK=>?_) (j2 17 15 (fun K hK=>?_) (j2 18 16 (fun K hK=>?_) (j2 19 17 (fun K hK=>?_) .nil)))) | (refine j8 (rs:=[12,17,18]) Qg Qb ?_;refine j2 12 104 (fun K hK=>?_) (j2 17 15 (fun K hK=>?_) (j2 18 16 (fun K hK=>?_) .nil))) | (refine j8 (rs:=[12,17,19]) Qg Qb ?_;refine j2 12 104 (fun K hK=>?_) (j2 17 15 (fun K hK=>?_) (j2 19 17 (fun K hK=>?_) .nil))) | (refine j8 (rs:=[12,18,19]) Qg Qb ?_;refine j2 12 104 (fun K hK=>?_) (j2 18 16 (fun K hK=>?_) (j2 19 17 (fun K hK=>?_) .nil))) | (refine j8 (rs:=[17,18,19]) Qg Qb ?_;refine j2 17 15 (fun K hK=>?_) (j2 18 16 (fun K hK=>?_) (j2 19 17 (fun K hK=>?_) .nil))) | (refine j8 (rs:=[12,17]) Qg Qb ?_;refine j2 12 104 (fun K hK=>?_) (j2 17 15 (fun K hK=>?_) .nil)) | (refine j8 (rs:=[12,18]) Qg Qb ?_;refine j2 12 104 (fun K hK=>?_) (j2 18 16 (fun K hK=>?_) .nil)) | (refine j8 (rs:=[12,19]) Qg Qb ?_;refine j2 12 104 (fun K hK=>?_) (j2 19 17 (fun K hK=>?_) .nil)) | (refine j8 (rs:=[17,18]) Qg Qb ?_;refine j2 17 15 (fun K hK=>?_) (j2 18 16 (fun K hK=>?_) .nil)) | (refine j8 (rs:=[17,19]) Qg Qb ?_;refine j2 17 15 (fun K hK=>?_) (j2 19 17 (fun K hK=>?_) .nil)) | (refine j8 (rs:=[18,19]) Qg Qb ?_;refine j2 18 16 (fun K hK=>?_) (j2 19 17 (fun K hK=>?_) .nil)) | (refine j8 (rs:=[12]) Qg Qb ?_;refine j2 12 104 (fun K hK=>?_) .nil) | (refine j8 (rs:=[17]) Qg Qb ?_;refine j2 17 15 (fun K hK=>?_) .nil) | (refine j8 (rs:=[18]) Qg Qb ?_;refine j2 18 16 (fun K hK=>?_) .nil) | (refine j8 (rs:=[19]) Qg Qb ?_;refine j2 19 17 (fun K hK=>?_) .nil));all_goals go_simp;all_goals (first | (show K _ (World.alloc _ _);generalize hW:World.alloc _ _=v';obtain ⟨M,hb⟩:=bu v.heap.size;have HC:Hid (v'.heap[M]?=some (.cells #[(),d8] 31)):=lh (by rw [hb,<- hW];exact LD);have q:ae [] v v':=(by rw [<- hW];exact BS);have HzC:Hid (D.heap.size<=M):=lh (by rw [hb];exact o.out.size);(try have HkC:Hid (D.heap.size<=M/\(M<F\/h1<=M)):=lh ⟨HzC.out,.inr (by rw [hb];exact I.out.2)⟩);(try have JdF:Hid (M≠J):=lh (j0 ((l8.1 HE.out).1)));(try have Jof:Hid (M≠N):=lh (j0 ((l8.1 HY.out).1)));(try replace HE:=lh (q.row HE.out));(try replace HY:=lh (q.row HY.out));(try replace HK:Hid (lY F h1 v' (.slice Z C.data.length n3) C.data (.slice O B1.pix.length Y) B1.pix):=lh (HK.out.only q Qb));(try replace I:Hid (D.heap.size<=F/\h1<=v'.heap.size):=lh ⟨I.out.1,Pw I.out.2 q.size⟩);replace o:=lh (o.out.q q);rw [<- hb];clear hW q hb;obtain ⟨v,rfl⟩:=bu v';refine hK.out _ _ (L.out _ o.out) (fun hHeld=>?_);clear hK K) | (show K _ (World.alloc _ _);generalize hW:World.alloc _ _=v';obtain ⟨J,hb⟩:=bu v.heap.size;have HE:Hid (v'.heap[J]?=some (.cells #[(),(),d8] 24)):=lh (by rw [hb,<- hW];exact LD);have q:ae [] v v':=(by rw [<- hW];exact BS);have HzE:Hid (D.heap.size<=J):=lh (by rw [hb];exact o.out.size);(try have Vz:Hid (D.heap.size<=J/\(J<F\/h1<=J)):=lh ⟨HzE.out,.inr (by rw [hb];exact I.out.2)⟩);(try have JdF:Hid (M≠J):=lh (j0 ((l8.1 HC.out).1)));(try have Jog:Hid (J≠N):=lh (j0 ((l8.1 HY.out).1)));(try replace HC:=lh (q.row HC.out));(try replace HY:=lh (q.row HY.out));(try replace HK:Hid (lY F h1 v' (.slice Z C.data.length n3) C.data (.slice O B1.pix.length Y) B1.pix):=lh (HK.out.only q Qb));(try replace I:Hid (D.heap.size<=F/\h1<=v'.heap.size):=lh ⟨I.out.1,Pw I.out.2 q.size⟩);replace o:=lh (o.out.q q);rw [<- hb];clear hW q hb;obtain ⟨v,rfl⟩:=bu v';refine hK.out _ _ (L.out _ o.out) (fun hHeld=>?_);clear hK K) | (show K _ (World.alloc _ _);generalize hW:World.alloc _ _=v';obtain ⟨N,hb⟩:=bu v.heap.size;have HY:Hid (v'.heap[N]?=some (.cells #[(),d8] 39)):=lh (by rw [hb,<- hW];exact LD);have q:ae [] v v':=(by rw [<- hW];exact BS);have HzY:Hid (D.heap.size<=N):=lh (by rw [hb];exact o.out.size);(try have HkY:Hid (D.heap.size<=N/\(N<F\/h1<=N)):=lh ⟨HzY.out,.inr (by rw [hb];exact I.out.2)⟩);(try have Jof:Hid (M≠N):=lh (j0 ((l8.1 HC.out).1)));(try have Jog:Hid (J≠N):=lh (j0 ((l8.1 HE.out).1)));(try replace HC:=lh (q.row HC.out));(try replace HE:=lh (q.row HE.out));(try replace HK:Hid (lY F h1 v' (.slice Z C.data.length n3) C.data (.slice O B1.pix.length Y) B1.pix):=lh (HK.out.only q Qb));(try replace I:Hid (D.heap.size<=F/\h1<=v'.heap.size):=lh ⟨I.out.1,Pw I.out.2 q.size⟩);replace o:=lh (o.out.q q);rw [<- hb];clear hW q hb;obtain ⟨v,rfl⟩:=bu v';refine hK.out _ _ (L.out _ o.out) (fun hHeld=>?_);clear hK K) | (go_at_call 17;refine (HFt.out _ o.out).mono ?_;rintro e v' ⟨hq,Z,n3,O,Y,rfl,hi9⟩;obtain ⟨F,WF⟩:=bu v.heap.size;obtain ⟨h1,hh1⟩:=bu v'.heap.size;have YO:lY F h1 v' (.slice Z C.data.length n3) C.data (.slice O B1.pix.length Y) B1.pix:=(by rw [WF,hh1];exact hi9);have hKl:v.heap.size<=F:=Qa;have YQ:h1<=v'.heap.size:=Qa;clear hi9 WF hh1;have q:ae [] v v':=hq;have ZH:D.heap.size<=v.heap.size:=o.out.size;(try have HkC:Hid (D.heap.size<=M/\(M<F\/h1<=M)):=lh (by have:=(l8.1 HC.out).1;have:=HzC.out;exact ⟨Qa,.inl Qa⟩));(try have Vz:Hid (D.heap.size<=J/\(J<F\/h1<=J)):=lh (by have:=(l8.1 HE.out).1;have:=HzE.out;exact ⟨Qa,.inl Qa⟩));(try have HkY:Hid (D.heap.size<=N/\(N<F\/h1<=N)):=lh (by have:=(l8.1 HY.out).1;have:=HzY.out;exact ⟨Qa,.inl Qa⟩));(try replace HC:=lh (q.row HC.out));(try replace HE:=lh (q.row HE.out));(try replace HY:=lh (q.row HY.out));have HK:=lh YO;have I:Hid (D.heap.size<=F/\h1<=v'.heap.size):=lh ⟨Qa,YQ⟩;replace o:=lh (o.out.q q);clear hq q YO hKl YQ ZH;obtain ⟨v,rfl⟩:=bu v';refine hK.out _ _ (L.out _ o.out) (fun hHeld=>?_);clear hK K;refine e9 13 91 ⟨rfl,by intro wz Rb;obtain ⟨Un,Wx,c0,c1,c2,cc⟩:=Rb;obtain ⟨k0,k1,k2,k3,k4,k5,k6,k7⟩:=bJ Un;obtain ⟨p0,p1,p2⟩:=ag Wx;go_simp;try with_reducible rfl⟩ ?_;refine e9 14 105 ⟨rfl,by intro wz Rb;obtain ⟨Un,Wx,c0,c1,c2,cc⟩:=Rb;obtain ⟨k0,k1,k2,k3,k4,k5,k6,k7⟩:=bJ Un;obtain ⟨p0,p1,p2⟩:=ag Wx;go_simp;try with_reducible rfl⟩ ?_;refine e9 15 106 ⟨rfl,by intro wz Rb;obtain ⟨Un,Wx,c0,c1,c2,cc⟩:=Rb;obtain ⟨k0,k1,k2,k3,k4,k5,k6,k7⟩:=bJ Un;obtain ⟨p0,p1,p2⟩:=ag Wx;go_simp;try with_reducible rfl⟩ ?_;refine e9 16 107 ⟨rfl,by intro wz Rb;obtain ⟨Un,Wx,c0,c1,c2,cc⟩:=Rb;obtain ⟨k0,k1,k2,k3,k4,k5,k6,k7⟩:=bJ Un;obtain ⟨p0,p1,p2⟩:=ag Wx;go_simp;try with_reducible rfl⟩ ?_)))
            all_goals (refine j9 20 fun K hK=>?_;refine gD (.tmp 15) (.tmp 105) 31 rfl (g:=M) (c':=#[C.kind,.slice Z C.data.length n3]) rfl rfl HC (El _ _) rfl mi (fun v' q hr=>?_);replace HC:=lh hr;replace HE:=lh (q.rowAt HE (eW JdF));replace HY:=lh (q.rowAt HY (eW Jof));replace HK:Hid (lY F h1 v' (.slice Z C.data.length n3) C.data (.slice O B1.pix.length Y) B1.pix):=HK.only q (fun g hg=>by rw [i5] at hg;subst hg;exact HkC.2);replace I:Hid (D.heap.size<=F/\h1<=v'.heap.size):=lh ⟨I.1,Pw I.2 q.size⟩;replace o:Hid (ae [] D v'):=o.trans q Qb (fun g hg QH=>by rw [i5] at hg;have:=HkC.1;omega);clear hr q;obtain ⟨v,rfl⟩:=bu v';refine hK.out _ _ (L.out _ o) (fun hHeld=>?_);clear hK K)
            all_goals (refine j9 21 fun K hK=>?_;refine gD (.tmp 16) (.tmp 106) 24 rfl (g:=J) (c':=#[B1.W,B1.H,.slice O B1.pix.length Y]) rfl rfl HE (Ew _ _ _) rfl mi (fun v' q hr=>?_);replace HE:=lh hr;replace HC:=lh (q.rowAt HC (eW JdF));replace HY:=lh (q.rowAt HY (eW Jog));replace HK:Hid (lY F h1 v' (.slice Z C.data.length n3) C.data (.slice O B1.pix.length Y) B1.pix):=HK.only q (fun g hg=>by rw [i5] at hg;subst hg;exact Vz.2);replace I:Hid (D.heap.size<=F/\h1<=v'.heap.size):=lh ⟨I.1,Pw I.2 q.size⟩;replace o:Hid (ae [] D v'):=o.trans q Qb (fun g hg QH=>by rw [i5] at hg;have:=Vz.1;omega);clear hr q;obtain ⟨v,rfl⟩:=bu v';refine hK.out _ _ (L.out _ o) (fun hHeld=>?_);clear hK K)
            all_goals (refine j9 22 fun K hK=>?_;refine gD (.tmp 17) (.tmp 107) 39 rfl (g:=N) (c':=#[(),d8]) rfl rfl HY (aG _ rfl) rfl mi (fun v' q hr=>?_);replace HY:=lh hr;replace HC:=lh (q.rowAt HC (eW Jof));replace HE:=lh (q.rowAt HE (eW Jog));replace HK:Hid (lY F h1 v' (.slice Z C.data.length n3) C.data (.slice O B1.pix.length Y) B1.pix):=HK.only q (fun g hg=>by rw [i5] at hg;subst hg;exact HkY.2);replace I:Hid (D.heap.size<=F/\h1<=v'.heap.size):=lh ⟨I.1,Pw I.2 q.size⟩;replace o:Hid (ae [] D v'):=o.trans q Qb (fun g hg QH=>by rw [i5] at hg;have:=HkY.1;omega);clear hr q;obtain ⟨v,rfl⟩:=bu v';refine hK.out _ _ (L.out _ o) (fun hHeld=>?_);clear hK K)
            all_goals (refine Wn Qc ?_ _;go_wp2_with fail;go_meet;exact ⟨M,J,N,F,h1,Z,n3,O,Y,rfl,rfl,rfl,o,HC,HE,HY,I,HK,HkC,Vz,HkY⟩)
           case rest =>
            obtain ⟨M,J,N,F,h1,Z,n3,O,Y,rfl,rfl,rfl,HOd,HVc,HVf,-,I,HKG,-,Vz,-⟩:=hcut;obtain ⟨W5,ZI⟩:=bu wc
            subst ZI;clear L HFt Jdf XH HC0 HC1 Uz;have Rk:=lh (Rh.q HOd);obtain ⟨bd,hbd,JhJ⟩:=HKG.1.tight;obtain ⟨bf,hbf,JdU⟩:=HKG.2.tight;have RX:B1.pix≠[]:=fun e=>by
             have h1:=Tr.ok.len;have h2:=A3 Tr.ok.w0 Tr.ok.h0 Ql (j0 Tr.ok.w0);rw [e] at h1;simp only [Pr] at h1;omega
            have JoL:=JdU RX;have QS:=zz Tr;have hnA:∀ x,(Value.slice ra k rc).ownBlock=some x->E.heap.size+1<=x/\x<wr.heap.size:=HO.left.at
            have hnB:∀ x,(Value.slice ZW k ZX).ownBlock=some x->E.heap.size+1<=x/\x<wr.heap.size:=HO.right.at
            have HN:=lh (VL hnA hnB);have WM:=WT.out;have hzz:=HZ.out;have Jpb:=I.out;have HfD:Hid (C.data=[]\/ji (E.heap.size+1) W5 (.slice ra k rc) (.slice ZW k ZX) bd):=lh (by
             by_cases e:C.data=[]
             ·exact .inl e
             ·have:=JhJ e
              exact .inr ⟨Qa,Qa,fun e=>by have:=(hnA _ e).2;omega,fun e=>by have:=(hnB _ e).2;omega⟩)
            have HfF:Hid (ji (E.heap.size+1) W5 (.slice ra k rc) (.slice ZW k ZX) bf):=lh ⟨Qa,Qa,fun e=>by have:=(hnA _ e).2;omega,fun e=>by have:=(hnB _ e).2;omega⟩;have HD5:=lh hbd;have HF5:=lh hbf;have Hkd:Hid (i7 .i64 C.kind):=lh ⟨Qa,Qa⟩;have UX:=lh (HO.quiet Rk);have HbE:Hid (D.heap.size<=J):=lh Vz.1;have UQ:Hid (E.heap.size+1<=W5.heap.size/\D.heap.size<=W5.heap.size):=lh ⟨Qa,Qa⟩;have Ts:=ae.new W5 (.cells #[C.kind,.slice Z C.data.length n3] 31);have HNw:=lh Ts;have HCs:Hid (cf 2 W5.heap.size (W5.heap.size+1) (W5.alloc (.cells #[C.kind,.slice Z C.data.length n3] 31)) (.slice W5.heap.size 1 1) 1 [.int .i64 C.kind,.slice Z C.data.length n3]):=fG rfl rfl Qj Qb;have XK:=lh (UX.quiet Ts);have HD6:=lh (hbd.quiet Ts);have hz6:W5.heap.size<=(W5.alloc (.cells #[C.kind,.slice Z C.data.length n3] 31)).heap.size:=Ts.size;have Job:Hid (C.data=[]\/ji (E.heap.size+1) (W5.alloc (.cells #[C.kind,.slice Z C.data.length n3] 31)) (.slice ra k rc) (.slice ZW k ZX) bd):=HfD.imp id fun h=>⟨h.1,by have:=h.2.1;omega,h.2.2⟩;have JnZ:Hid ((A.length+1)*32<=140737488355328):=lh (l6 HL.1 VM.2);have Joa:Hid ((B.length+1)*40<=140737488355328):=lh (l6 HL.2 VM.2);have JnV:Hid (E.heap.size+1<=(W5.alloc (.cells #[C.kind,.slice Z C.data.length n3] 31)).heap.size):=lh (j0 UQ.1);have HLA:Hid ((A ++ [C]).length=k+1):=lh (by rw [Pn,HL.1];rfl);have HLB:Hid ((B ++ [B1]).length=k+1):=lh (by rw [Pn,HL.2];rfl);obtain ⟨x0,x1,-⟩:=aL HVc;clear hbd JhJ hbf JdU RX JoL QS hnA hnB WM hzz Jpb Ts hz6;go_upto_region 25 with (first
             | (at_builtin;refine kX rfl (.tmp 108) (.tmp 110) _ rfl D6 XK rfl HCs Hkd HD6 Job rfl JnZ JnV (fun v1 w7 QG Rc=>?_);obtain ⟨y1,c1,-,-,XW,-⟩:=QG.slices;subst XW;rw [HLA.out] at QG Rc |-;have Uj:=lh QG;have HA7:=lh Rc;clear QG Rc)
             | fail)
            have hnA:=HN.1;have hnB:=HN.2;have TZ:=HNw.trans HA7.only (U:=(Value.slice ra k rc).ownBlock.toList) Qb (fun g hg _=>hg);have QM:∀ x,x∈(Value.slice ra k rc).ownBlock.toList->E.heap.size+1<=x/\x<wr.heap.size:=fun x hx=>hnA x Qz
            have hzz:=UQ.2;have WM:=WT.out;have Jhe:=lh (TZ.rowAt HVf (fun V=>by have:=(QM _ V).2;have:=HbE.out;omega));have HF7:=lh (HF5.only TZ (fun x hx=>by have:=(QM _ hx).2;have h:=HfF.out;have h2:x≠bf:=fun e=>h.2.2.1 (by rw [<- e];simpa using hx);omega));have HR7:=lh (TZ.rowAt (Rk.row HR) (fun V=>by have:=(QM _ V).1;omega));have Zj:=lh (TZ.rowAt (Rk.row HK) (fun V=>by have:=(QM _ V).1;have:=UO.2.1;omega));have HE7:=lh (TZ.rowAt (Rk.row Yx) (fun V=>by have:=(QM _ V).1;have:=UO.2.1;omega));have WS:Hid (ae [] w w7):=lh ((HQ.q Rk).trans TZ Qb (fun g hg QH=>by have:=(QM _ hg).1;have:=UO.2.1;omega));have hz7:=TZ.size;have HY1:Hid (∀ x,(Value.slice y1 (k+1) c1).ownBlock=some x->E.heap.size+1<=x/\x<w7.heap.size):=lh Uj.left.at
            have Xt:Hid (ji (E.heap.size+1) w7 (.slice y1 (k+1) c1) (.slice ZW k ZX) bf):=lh ⟨HfF.1,by have:=HfF.2.1;omega,fun e=>by
             rcases HA7.at_ with e' | e'
             ·exact HfF.2.2.1 (e'.symm.trans e)
             ·have:=e' _ e;have:=HfF.2.1;have:=HNw.size;omega,HfF.2.2.2⟩
            have Ts:=ae.new w7 (sT B1 O Y);have Jno:=lh Ts;have HZ7:Hid (E.heap.size+1<=w7.heap.size/\W5.heap.size<=w7.heap.size):=lh ⟨by have:=UQ.1;omega,hz7⟩;have JmX:Hid (cf 3 w7.heap.size (w7.heap.size+1) (w7.alloc (sT B1 O Y)) (.slice w7.heap.size 1 1) 1 [.int .i64 B1.W,.int .i64 B1.H,.slice O B1.pix.length Y]):=fG rfl rfl Qj Qb;have Ww:=lh (Uj.quiet Ts);have HF8:=lh (HF7.quiet Ts);have Joc:Hid (ji (E.heap.size+1) (w7.alloc (sT B1 O Y)) (.slice y1 (k+1) c1) (.slice ZW k ZX) bf):=lh ⟨Xt.1,by have:=Xt.2.1;have:=Ts.size;omega,Xt.2.2⟩;have JnW:Hid (E.heap.size+1<=(w7.alloc (sT B1 O Y)).heap.size):=lh (l6 HZ7.1 Ts.size);obtain ⟨u0,u1,u2⟩:=ag Jhe;clear hnA hnB TZ QM hzz WM hz7 Ts x0 x1;go_upto_region 26 with (first
             | (at_builtin;refine iA rfl (.tmp 112) (.tmp 114) _ rfl D7 Ww rfl JmX HF8 Joc rfl Joa JnW (fun v2 w9 Ri Sc=>?_);obtain ⟨-,-,z2,g2,-,hz2⟩:=Ri.slices;subst hz2;rw [HLB.out] at Ri Sc |-;have HO9:=lh Ri;have HA9:=lh Sc;clear Ri Sc)
             | fail)
            have hnB:=HN.2;have SR:=Jno.trans HA9.only (U:=(Value.slice ZW k ZX).ownBlock.toList) Qb (fun g hg _=>hg);have QM:∀ x,x∈(Value.slice ZW k ZX).ownBlock.toList->E.heap.size+1<=x/\x<wr.heap.size:=fun x hx=>hnB x Qz
            have WM:=WT.out;have JnM:=lh (SR.rowAt Jhe (fun V=>by have:=(QM _ V).2;have:=HbE.out;omega));have HF9:=lh (HF7.only SR (fun x hx=>by have h:=Xt.out;have h2:x≠bf:=fun e=>h.2.2.2 (by rw [<- e];simpa using hx);omega));have HR9:=lh (SR.rowAt HR7 (fun V=>by have:=(QM _ V).1;omega));have HK9:=lh (SR.rowAt Zj (fun V=>by have:=(QM _ V).1;have:=UO.2.1;omega));have HE9:=lh (SR.rowAt HE7 (fun V=>by have:=(QM _ V).1;have:=UO.2.1;omega));have SP:Hid (ae [] w w9):=WS.trans SR Qb (fun g hg QH=>by have:=(QM _ hg).1;have:=UO.2.1;omega);have HZ9:Hid (E.heap.size+1<=w9.heap.size/\bf<w9.heap.size):=lh ⟨by have:=HZ7.1;have:=SR.size;omega,by have:=Xt.2.1;have:=SR.size;omega⟩;obtain ⟨u0,u1,u2⟩:=ag JnM;have fz0:=Sz _ _ 0 _ _ HR9;have fz1:=Sz _ _ 1 _ _ HR9;have fz2:=Sz _ _ 2 _ _ HR9;obtain ⟨t0,t1,t2⟩:=ag HR9;obtain ⟨QK,QV⟩:=eI (x:=.int .i64 B1.W) (y:=.int .i64 B1.H) (z:=.slice O B1.pix.length Y) HR9;have SA:=lh QK;have Sx:=lh QV;clear hnB SR QM WM QK QV;go_wp2_with fail;have Zg:=Sx.size;refine ⟨⟨k+1,B1,A ++ [C],B ++ [B1],O,Y,Qa,Qh,HNx,lh ?_,lh ⟨HLA,HLB.out⟩,lh (HO9.only Sx Qb),SA,lh ?_,lh (SP.trans Sx Qb (fun x hx hl=>by rw [i5] at hx;have:=UO.2.1;omega)),lh (Sx.rowAt HK9 (by rw [i5];have:=UO.2.1;omega)),lh (j0 HZ9.1),lh (Sx.rowAt HE9 (by rw [i5];have:=UO.2.2;omega))⟩,Qf⟩
            ·rw [PM,PM];exact HG2
            ·exact (HF9.only Sx (fun x hx=>by rw [i5] at hx;have:=Xt.1;left;omega)).mono (PX _) (j0 HZ9.2)
          ·obtain rfl:k=l.length:=Qa
           have hx:¬ (l.length:Int)<(l.length:Int):=Qa;have hG:=HG.out;rw [List.drop_length] at hG;simp only [og,PV,Px] at hG;have HGo:=lh hG;have hz3:=UO.2.1;have HLt:Hid (w.heap.size<=E.heap.size+1):=lh Qa;clear hG hz3
           go_wp2_with (first | (refine am rfl (.tmp 8) (.tmp 119) 39 rfl rfl rfl Yx (aG _ rfl) rfl mi ?_) | fail)
           have QV:=ae.setRow (S:=[w.heap.size+1]) (ae.refl _ wr) (g:=w.heap.size+1) (fun _=>Qb) #[(),d8];have QK:=m7 wr (w.heap.size+1) _ #[(),d8] _ _ Yx;have Rx:ae [] w _:=HQ.trans QV (U:=[]) Qb (fun g hg hl=>Qd);refine TV (mU results22 _ _ (w.heap.size+1) _ _ _ _ (.slice ra l.length rc) (.slice ZW l.length ZX) rfl rfl rfl QK underlying39 rfl (aG _ rfl)) rfl (QF.out _ _ ?_);unfold Ej;rw [HNo.out];refine ⟨Rx,ra,rc,ZW,ZX,rfl,?_,?_⟩
           ·rw [<- HGo.1]
            have h:=(HO.only QV (fun x hx=>by rw [i5] at hx;have:=UO.2.1;omega)).left.codeds.mono HLt (Pm _);exact h
           ·rw [<- HGo.2]
            have h:=(HO.only QV (fun x hx=>by rw [i5] at hx;have:=UO.2.1;omega)).right.frames.mono HLt (Pm _);exact h
end
end Go.Proofs.YthcafdfdglfabaaGreatDoor
