/- Joined texts: DLay, DSquareW, DBlock, DRkM. Conditions: each part names its own. -/
import Derived.Laws.CopyOwn
import Derived.Test.YthcafdfdglfabaaGreatDoorR3
import Derived.Test.YthcafdfdglfabaaGreatDoorK6
namespace Go.Proofs.YthcafdfdglfabaaGreatDoor
open Tryz
open Go.RowKit
set_option linter.unusedVariables false
set_option linter.unusedSimpArgs false
set_option maxRecDepth 100000
set_option maxHeartbeats 16000000
theorem rF (pix row:List Int) (o:Nat):mq pix o row=splice pix o row:=by simp [mq,splice]
theorem Bz {α:Type} {L m:List α} {n off:Nat} (h:off+m.length<=n) (D:n<=L.length):(splice L off m).take n=splice (L.take n) off m:=by
 unfold splice;rw [List.take_append,List.take_append,List.take_take,Po,List.take_take,List.drop_take,YN (by omega:m.length<=n-min off L.length)]
 congr 2
 ·rw [Nat.min_comm]
 ·congr 1;omega
section
variable {k:IntKind} {e:TypeId} {base g n cap:Nat} {w:World} {l:List Int}
theorem f9.splice (h:f9 k e base w (.slice g n cap) l) (L:n=l.length) {m:List Int} (J:∀ x∈m,i7 k x) {off:Nat} (D:off+m.length<=l.length) :
  ∃ cur:List Value,w.heap[g]?=some (.cells cur.toArray e)/\off+m.length<=cur.length /\
   f9 k e base (w.setRow g (Go.splice cur off (m.map (.int k))).toArray) (.slice g n cap) (mq l off m)/\ae [g] w (w.setRow g (Go.splice cur off (m.map (.int k))).toArray):=by
 subst L;obtain ⟨⟨h1,F⟩,E⟩:=h;rcases F with ⟨hv,_⟩ | ⟨g',VW,cur,hv,hb,hg,hnc,hcm,Uo,ht⟩
 ·cases hv
 ·injection hv with e1 e2 e3
  injection e1 with e1
  injection e1 with e1
  subst e1;subst e3;have I:cur.toList.length=cap:=by simpa using Uo
  refine ⟨cur.toList,Qn,Qa,⟨⟨Qb,.inr ⟨g,cap,_,by rw [kO D],hb,m7 _ _ _ _ _ _ hg,by rw [kO D];exact hnc,hcm,?_,?_⟩⟩,fun x hx=>?_⟩,ae.setRow (AY) (fun _=>Qb) _⟩
  ·rw [List.size_toArray,length_splice _ _ _ (by rw [Ps];omega)];omega
  ·rw [kO D,Nat.mul_one,List.toList_toArray,Bz (dn Ps D) Qa,rF]
   rw [Nat.mul_one] at ht;rw [ht];simp [Go.splice]
  ·rw [rF] at hx
   unfold Go.splice at hx;rcases B0.1 hx with hx | hx
   ·exact E x (List.mem_of_mem_take hx)
   ·rcases B0.1 hx with hx | hx
    ·exact J x hx
    ·exact E x (List.mem_of_mem_drop hx)
end
section
variable {P:Program}
theorem BP {w:World} {o:Oper} {a:Act} {K:Act->World->Prop} {Q:Exit->Act->World->Prop} (d s:Operand) (O V:TypeId)
  (ho:o.op=.call { callee:=.builtin .copy,args:=#[d,s],argTypes:=#[O,V] }) (E:TypeId) (hu:P.underlying O=some (.slice E)) (Zg:(P.info? E).map (·.size)=some 1)
  (g off D J:Nat) (N:Addr) (F L:Nat) (hd:a.eval d=.slice (some ⟨g,off,none⟩) D J) (hs:a.eval s=.slice (some N) F L)
  (cur:List Value) (t:TypeId) (hg:w.heap[g]?=some (.cells cur.toArray t)) (I:List Value) (hn:I.length=Nat.min F D)
  (Y:∀ j v,I[j]?=some v->w.cell? (N.add j)=some v) (Z:off+I.length<=cur.length) (h1:∀ v∈I,v.oneCell'=true)
  (h:K (a.put o.dst (goInt I.length)) (w.setRow g (splice cur off I).toArray)):o.wp P a w K Q:=by
 have M:=run_copy_row (P:=P) w O V o.type E g off D J N F L cur.toArray t I hu Zg hg hn Y (by simpa using Z) h1;unfold Oper.wp;simp [execOp,ho,resolve,invoke,builtin,hd,hs,M,Result.andThen];exact h
end
section
variable {P:Program}
theorem vr {ops:Array Oper} {w:World} {o:Oper} {a:Act} {K:Act->World->Prop} {Q:Exit->Act->World->Prop} {E:Prop} (Yr:o.guard=none) (d s:Operand) (O V:TypeId)
  (ho:o.op=.call { callee:=.builtin .copy,args:=#[d,s],argTypes:=#[O,V] }) (F:TypeId) (hu:P.underlying O=some (.slice F)) (Zg:(P.info? F).map (·.size)=some 1)
  (g off D L:Nat) (N:Addr) (I M:Nat) (hd:a.eval d=.slice (some ⟨g,off,none⟩) D L) (hs:a.eval s=.slice (some N) I M)
  (cur:List Value) (t:TypeId) (hg:w.heap[g]?=some (.cells cur.toArray t)) (J:List Value) (hn:J.length=Nat.min I D)
  (Y:∀ j v,J[j]?=some v->w.cell? (N.add j)=some v) (Z:off+J.length<=cur.length) (h1:∀ v∈J,v.oneCell'=true)
  (h:K (a.put o.dst (goInt J.length)) (w.setRow g (splice cur off J).toArray)):if Region.wanted o (yielded ops a.tmps)=true then Oper.wp P o a w K Q else E:=by
 rw [if_pos (by simp [Region.wanted,Yr])];exact BP d s O V ho F hu Zg g off D L N I M hd hs cur t hg J hn Y Z h1 h
end
theorem NH {k:IntKind} {l:List Int} {j:Nat} {v:Value} (h:(l.map (Value.int k))[j]?=some v):j<l.length/\v=.int k (l.getD j 0):=by
 rw [Pz] at h;obtain ⟨x,hx,rfl⟩:=Option.map_eq_some_iff.1 h;have D:=(List.getElem?_eq_some_iff.1 hx).1;exact ⟨D,by rw [Pd,hx];rfl⟩
theorem JG {k:IntKind} {l:List Int}:∀ v∈l.map (Value.int k),v.oneCell'=true:=by
 intro v D;obtain ⟨x,_,rfl⟩:=x8.1 D
 rfl
theorem GI {W x y:Int} {n:Nat} {b pix:List Int} {j:Nat}:(List.range (j+1)).foldl (gz W x y n b) pix=gz W x y n b ((List.range j).foldl (gz W x y n b) pix) j:=by
 rw [Zh,A4];rfl
theorem ug {lo hi g cap base:Nat} {bv:Value} {b:List Int} {w:World} {f:ah} {x y:Int} {n:Nat} (hf:FrOk f) (hp:f9 .i64 3 base w (.slice g f.pix.length cap) f.pix) (hb:aj .i64 lo hi w bv b) (hg:g<lo\/hi<=g)
  (hn:n=4\/n=8) (RP:b.length=n*n) (hx:0<=x) (Ry:x+n<=f.W) (hy:0<=y) (RJ:y+n<=f.H) :
  Calls prog 81 #[.agg #[f.W,f.H,.slice g f.pix.length cap],x,y,n,bv] w fun e w'=>e=.returned (.tuple #[])/\f9 .i64 3 base w' (.slice g f.pix.length cap) (dP f x y n b).pix/\ae [g] w w':=by
 refine aK fun Q QF=>?_
 have HE:Hid ((dP f x y n b).pix=(List.range n).foldl (gz f.W x y n b) f.pix):=lh rfl;obtain ⟨ba,ZF,rfl,hbc,-,Jub,Xx⟩:=hb.open;have QJ:=hf.len;have hW0:=hf.w0;have Rs:=hf.w1;have hH1:=hf.h1;obtain ⟨bb,V,rfl,hlb,hbh⟩:=Jub 0 (by rcases hn with e | e <;> rw [RP,e] <;> omega);have hbg:bb≠g:=Qa;have Hbk:=lh hb.2;generalize f.W=W at *
 generalize f.H=H at *
 generalize f.pix=pix at *
 obtain ⟨W,rfl⟩:=A0 (by omega:0<=W);obtain ⟨H,rfl⟩:=A0 (by have:(n:Int)<=H:=Qa;omega:0<=H);obtain ⟨x,rfl⟩:=A0 hx;obtain ⟨y,rfl⟩:=A0 hy;have hWH:W*H<=1024:=Pw (A8 (by omega:W<=32) (by omega:H<=32)) Ql;have Jcv:pix.length=W*H:=by rw [<- A9] at QJ;omega
 have Ra:=lh Jcv;have UH:=ae.new w (.cells #[W,H,.slice g pix.length cap] 24);have hgl:=(hp.at g rfl).2;have SA:Hid ((w.alloc (.cells #[W,H,.slice g pix.length cap] 24)).heap[w.heap.size]?=some (.cells #[W,H,.slice g pix.length cap] 24)):=LD;have HO:=lh (hp.quiet UH);have Hbc:=lh (fun (i:Nat) (hi:i<b.length)=>UH.cell (Xx bb V rfl i hi) Qb);have HQ0:=lh UH;have Hgl:=lh hgl;have Hbl:=lh RP;have hn4:4<=n:=Qa;have hn8:n<=8:=Qa;have hxW:x+n<=W:=Qa;have JIN:H<=32:=Qa;have hyH:y+n<=H:=Qa;have Sv:pix.length<=cap:=by
  rcases hp.1.2 with ⟨hv,_⟩ | ⟨g',VW,cur,hv,_,_,hnc,_⟩
  ·cases hv
  ·injection hv with e1 e2 e3;omega
 clear hf hp hb Jub Xx QJ hW0 Rs hH1 hx hy Ry RJ hn Jcv UH RP;generalize hP:pix.length=N at *
 have HP:=lh hP;clear hP;go_enter func81,ntmps81;go_wp2_with fail;generalize Rs:World.alloc w _=W1 at *
 clear Rs;go_loopw [12,10] (fun i _ wr=>∃ (j:Nat),j<=n/\i=.int .i64 j/\Hid (f9 .i64 3 base wr (.slice g N cap) ((List.range j).foldl (gz W x y n b) pix))/\Hid (((List.range j).foldl (gz W x y n b) pix).length=N)/\Hid (ae [g] W1 wr)) (fun i _ _=>n-(intOf i).toNat)
 case atStart=>exact ⟨0,Qa,rfl,HO,HP,lh (AY)⟩
 case round =>
  obtain ⟨j,hj,rfl,Z,E,F⟩:=hrel;by_cases QH:j<n
  ·have hji:(j:Int)<(n:Int):=Qa
   have hj0:(0:Int)<=(j:Int):=Qa;have hr:=ag (F.rowAt SA (eW Hgl));obtain ⟨r0,r1,r2⟩:=hr;have Vd:(y+j)*W+x+n<=W*H:=by
    have h2:(y+j+1)*W<=H*W:=B8 _ Qa;rw [Nat.add_mul,Nat.one_mul,Nat.mul_comm H W] at h2;omega
   have L:j*n+n<=b.length:=by
    have h2:(j+1)*n<=n*n:=B8 _ Qa;rw [Nat.add_mul,Nat.one_mul] at h2;rw [Hbl.out];omega
   have JEk:b.length<=64:=by rw [Hbl.out];exact A8 hn8 hn8
   obtain ⟨M,hM⟩:∃ M,M=(y+j)*W:=⟨_,rfl⟩
   obtain ⟨J,hJ⟩:∃ J,J=j*n:=⟨_,rfl⟩
   have e1:IntKind.i64.wrap ((y:Int)+(j:Int))=((y+j:Nat):Int):=Qe;have e2:IntKind.i64.wrap (((y+j:Nat):Int)*(W:Int))=(M:Int):=by rw [Pk,<- A9,<- hM];rw [<- hM] at Vd;omega
   have e4:IntKind.i64.wrap ((j:Int)*(n:Int))=(J:Int):=by rw [Pk,<- A9,<- hJ];rw [<- hJ] at L;omega
   rw [<- hM] at Vd;rw [<- hJ] at L;have e3:IntKind.i64.wrap ((M:Int)+(x:Int))=((M+x:Nat):Int):=Qe;have e5:IntKind.i64.wrap ((J:Int)+(n:Int))=((J+n:Nat):Int):=Qe;have HM:=lh hM;have HJ:=lh hJ;clear hM hJ;generalize hyj:y+j=Yj at *
   generalize ho:M+x=o at *
   generalize hje:J+n=Je at *
   have Hyj:=lh hyj;have Ho:=lh ho;have O:=lh hje;have hoN:o+n<=N:=bC Ra Vd
   have hJb:Je<=b.length:=L;have JIQ:J<=Je:=Qa;have JIR:J<b.length:=Qa;have JJO:o<=N:=Qa;have hoc:¬ cap=o:=Qa;have JIP:Je<=ZF:=Qa;have hJc:¬ ZF=J:=Qa;clear hyj ho hje Vd L;go_wp2_with fail;refine Tf (S:=(fun w'=>w'.cell? ⟨w.heap.size,0,none⟩=some (.int .i64 W)/\w'.cell? ⟨w.heap.size,2,none⟩=some (.slice g N cap))) Qc ?_ (fun hHeld=>?_)
   ·exact ⟨r0,r2⟩
   refine tk 0 15 ?_;refine tk 1 16 ?_;refine tk 2 17 ?_;refine tk 3 18 ?_;refine tk 4 19 ?_;refine tk 5 20 ?_;refine tk 6 21 ?_;refine tk 7 22 ?_;refine tk 8 23 ?_;refine tk 9 24 ?_;refine tk 10 25 ?_;refine tk 11 26 ?_;refine tk 12 27 ?_;refine tk 13 28 ?_;refine tk 14 29 ?_;refine tk 15 30 ?_;refine tk 16 31 ?_;refine tk 17 32 ?_;refine tk 18 33 ?_;refine tk 19 34 ?_;refine tk 20 35 ?_;refine j6 21 36 fun K hK=>?_
   obtain ⟨row,QK⟩:∃ row,row=(b.drop J).take n:=⟨_,rfl⟩
   have D:row.length=n:=by have:=O.out;rw [QK,Po,Pp];omega
   have Jvo:∀ i,i<n->row.getD i 0=b.getD (J+i) 0:=fun i hi=>by
    rw [QK,Pd,PB,if_pos hi,PA,Pd]
   have hrk:∀ x∈row,i7 .i64 x:=fun x hx=>Hbk.out x (by rw [QK] at hx;exact List.mem_of_mem_drop (List.mem_of_mem_take hx))
   obtain ⟨cur,Jum,WC,Jmq,I⟩:=(Z.quiet (AY).drew).splice E.symm hrk (off:=o) (by rw [E.out,D];exact hoN);refine vr rfl (.tmp 25) (.tmp 35) 22 22 rfl 3 EI.ut Qc g o (N-o) (cap-o) ⟨bb,V+J,none⟩ (Je-J) (ZF-J) rfl rfl cur _ Jum (row.map (.int .i64)) ?_ ?_ (dn Ps WC) JG ?_
   ·rw [Ps,D];have:=O.out;show n=min (Je-J) (N-o);omega
   ·intro i v hv
    obtain ⟨hi,rfl⟩:=NH hv;rw [D] at hi;rw [Jvo i hi,Addr.add_lit];refine (F.drew).cell (p:=⟨bb,V+J+i,none⟩) ?_ (dn i5 hbg);rw [Nat.add_assoc];exact Hbc.out (J+i) (j0 O.out)
   refine ko hK ⟨I.cell r0 (by rw [i5];simp only;omega),I.cell r2 (by rw [i5];simp only;omega)⟩ fun hHeld=>?_;clear hK K
   refine Wn Qc ?_ _;have WJ:=lh Jmq;have HQx:=lh (((ae.refl [g] wr).drew).trans I (fun _ h _=>h) (fun _ h _=>h));have HLx:Hid ((mq ((List.range j).foldl (gz W x y n b) pix) o row).length=N):=lh (by rw [kO (by rw [E.out,D];exact hoN)];exact E);have Y:Hid ((List.range (j+1)).foldl (gz W x y n b) pix=mq ((List.range j).foldl (gz W x y n b) pix) o row):=lh (by
    rw [GI,gz,QK];have e:(((y:Int)+(j:Int))*(W:Int)+(x:Int)).toNat=o:=by
     rw [<- Ho.out,HM.out,<- Hyj.out];rw [<- PQ,<- A9,<- PQ]
     rfl
    rw [e,<- HJ.out])
   clear Jmq I Jum WC hrk Jvo D QK;go_wp2_with fail;exact ⟨⟨j+1,Qa,Qh,by rw [Y.out];exact WJ,by rw [Y.out];exact HLx,lh (F.trans HQx (fun _ h _=>h) (fun _ h _=>h))⟩,Qf⟩
  ·obtain rfl:j=n:=Qa
   have hx:¬ (j:Int)<(j:Int):=Qa;go_wp2_with fail;refine y4 (y8 results81 _ _ _) rfl (QF.out _ _ ⟨rfl,?_,HQ0.trans F.out Qb (fun g h _=>h)⟩);rw [HE.out];exact Z
theorem vo (m:Nat) (I:m<=1000000) (w:World):(Instr.makeSlice 22 (.int .i64 0) (.int .i64 m)).run prog w=.ok (.slice w.heap.size 0 m) (w.alloc (.cells (madeCells #[()] m) 3)):=by
 obtain ⟨i,hi,F,E,D⟩:=EI.inf;have hr:=run_make (P:=prog) w 22 3 i (.int .i64 0) EI.ut hi F .i64 .i64 0 m Qa Qa (by rw [D];omega) Qa;simp only [E,Nat.mul_one,Int.toNat_natCast,Int.toNat_zero] at hr;exact hr
theorem Ko (m:Nat) (D:m<=1000000) (w:World):f9 .i64 3 w.heap.size (w.alloc (.cells (madeCells #[()] m) 3)) (.slice w.heap.size 0 m) [] :=
 ⟨⟨rfl,.inr ⟨w.heap.size,m,_,rfl,Pm _,LD,PX _,by simp [maxLen];omega,by rw [size_madeCells,Nat.mul_one],Qb⟩⟩,Qb⟩
def gM (n:Int):Bool:=decide (-15<=n/\n<=15)
theorem xt (n:Int) (w:World):Calls prog 189 #[n] w fun e w'=>e=.returned (.bool (gM n))/\w=w':=by
 go_enter func189,ntmps189;go_wp2
 all_goals
  go_ret;exact ⟨aC (by unfold gM;rw [m9];simp;try omega),rfl⟩
theorem uG (a b:Int) (w:World):Calls prog 130 #[.agg #[a,b]] w fun e w'=>e=.returned (.bool (gM a && gM b))/\ae [] w w':=by
 have D:=ae.new w (.cells #[a,b] 73);have I:=lh D;clear D;have E:=lh (fun W:World=>xt a W);have F:=lh (fun W:World=>xt b W);generalize gM a=p at *
 generalize gM b=q at *
 cases p
 all_goals
  go_enter func130,ntmps130
  go_wp2_with (first | (go_at_call 189;(first | ((with_reducible refine (E.out _).mono ?_);rintro e w' ⟨rfl,rfl⟩) | ((with_reducible refine (F.out _).mono ?_);rintro e w' ⟨rfl,rfl⟩))) | fail)
  go_ret;exact ⟨aC Qb,I.out⟩
theorem xD (f:ah) (x y:Int) (n:Nat) (vx vy:Int) (j:Nat):(iK f x y n vx vy j).length=n:=by simp [iK]
def gF (f:ah) (x y vx vy:Int) (j:Nat):List Int:=(List.range j).flatMap (iK f x y 8 vx vy)
theorem xC (f:ah) (x y vx vy:Int) (j:Nat):gF f x y vx vy (j+1)=gF f x y vx vy j ++ iK f x y 8 vx vy j:=by
 unfold gF;rw [Zh,B5];simp
theorem mC (f:ah) (x y vx vy:Int) (j:Nat):(gF f x y vx vy j).length=j*8:=by
 unfold gF;rw [jT 8 _ _ (fun j _=>xD _ _ _ _ _ _ _),List.length_range]
def lW (f:ah) (x y vx vy:Int) (j i:Nat):List Int:=(List.range i).map fun i:Nat=>jV f (2*(x+(i:Int))+vx) (2*(y+(j:Int))+vy)
theorem DK (f:ah) (x y vx vy:Int) (j i:Nat):lW f x y vx vy j (i+1)=lW f x y vx vy j i ++ [jV f (2*(x+(i:Int))+vx) (2*(y+(j:Int))+vy)]:=by
 unfold lW;rw [Zh,PN];simp
theorem wW (f:ah) (x y vx vy:Int) (j i:Nat):(lW f x y vx vy j i).length=i:=by simp [lW]
theorem mN {lo hi:Nat} {pv:Value} {w:World} {f:ah} (QM:FrOk f) (h:aj .i64 lo hi w pv f.pix) (x y vx vy:Int) (hx:0<=x/\x<=32) (F:0<=y/\y<=32) (hvx:-15<=vx/\vx<=15) (hvy:-15<=vy/\vy<=15) :
  Calls prog 131 #[.agg #[f.W,f.H,pv],x,y,.int .i64 8,.agg #[vx,vy]] w fun e w'=>∃ v',e=.returned v'/\f9 .i64 3 w.heap.size w' v' (aq f x y 8 vx vy)/\ae [] w w':=by
 refine aK fun Q QF=>?_
 obtain ⟨a,cap,rfl,-⟩:=h.open;have HD:Hid (aq f x y 8 vx vy=gF f x y vx vy 8):=lh rfl;have HR:∀ j,Hid (lW f x y vx vy j 8=iK f x y 8 vx vy j):=fun j=>lh rfl
 have SA:=lh HR;clear HR;have YJ:=lh (fun hx F=>tu QM.sam hx F);have QI:=ae.new w (sT f a cap);have QN:=QI.q (ae.new _ (.cells #[vx,vy] 73));have Tt:=(ae.new (w.alloc (sT f a cap)) (.cells #[vx,vy] 73)).row (Sd w _);have UT:=ak (w:=w.alloc (sT f a cap)) (o:=.cells #[vx,vy] 73) (g:=w.heap.size+1) Qb;have HI:=lh (h.quiet QN);have Rg:=lh Tt;have SQ:=lh UT;have QT:=lh QN;have Uv:∀ W:World,(Instr.makeSlice 22 (.int .i64 0) (.int .i64 64)).run prog W=.ok (.slice (some ⟨W.heap.size,0,none⟩) 0 64) (W.alloc (.cells (madeCells #[()] 64) 3)):=fun W=>vo 64 Qa W
 have hH:=lh (fun (hx F:Int) (a0:-1000<=hx/\hx<=1000) (b0:-1000<=F/\F<=1000) (W:World) (o:aj .i64 lo hi W (.slice a f.pix.length cap) f.pix)=>JD QM o hx F a0 b0);obtain ⟨WL,RZ⟩:=hx;obtain ⟨Vo,XW⟩:=F;obtain ⟨hv0,UU⟩:=hvx;obtain ⟨hv2,hv3⟩:=hvy;clear h QI QN Tt UT;go_enter func131,ntmps131;go_wp2_with fail;clear Uv;have HO:=lh (Ko 64 Qa ((w.alloc (sT f a cap)).alloc (.cells #[vx,vy] 73)));have I:((w.alloc (sT f a cap)).alloc (.cells #[vx,vy] 73)).heap.size=w.heap.size+1+1:=Qb;have N:=lh I;rw [I] at HO;clear I;generalize VZ:World.alloc (World.alloc w _) _=W2 at *
 clear VZ;go_loopw [19,11,12,13,23] (fun j r _ _ _ wr=>∃ (k:Nat),k<=8/\j=.int .i64 k/\Hid (f9 .i64 3 (w.heap.size+1+1) wr r (gF f x y vx vy k))/\Hid (bj (w.heap.size+1+1) r)/\Hid (ae [] W2 wr)) (fun j _ _ _ _ _=>8-(intOf j).toNat)
 case atStart=>exact ⟨0,Qa,rfl,HO,lh (bj.lit (Pm _)),lh (BS)⟩
 case round =>
  obtain ⟨k,hk,rfl,QX,SU,QP⟩:=hrel;by_cases QH:k<8
  ·have Rt:(k:Int)<8:=Qa
   have RA:(0:Int)<=(k:Int):=Qa;go_wp2_with fail;go_loopw [23,11,13] (fun i r _ wr=>∃ (n:Nat),n<=8/\i=.int .i64 n/\Hid (f9 .i64 3 (w.heap.size+1+1) wr r (gF f x y vx vy k ++ lW f x y vx vy k n))/\Hid (bj (w.heap.size+1+1) r)/\Hid (ae [] W2 wr)) (fun i _ _ _=>8-(intOf i).toNat)
   case atStart=>exact ⟨0,Qa,rfl,lh (by rw [show lW f x y vx vy k 0=[] from rfl,Px];exact QX),SU,QP⟩
   case round =>
    obtain ⟨n,hn,rfl,L,Y,J⟩:=hrel;by_cases Jcy:n<8
    ·have hni:(n:Int)<8:=Qa
     have Xz:(0:Int)<=(n:Int):=Qa;have V:=DK f x y vx vy k n;have E:=mC f x y vx vy k;have D:=wW f x y vx vy k n;have O:=fun W o=>hH.out (2*(x+(n:Int))+vx) (2*(y+(k:Int))+vy) Qa Qa W o
     have QS:=YJ.out (2*(x+(n:Int))+vx) (2*(y+(k:Int))+vy);have HC:=lh O;clear O;generalize jV f (2*(x+(n:Int))+vx) (2*(y+(k:Int))+vy)=hv at *
     have UF:∀ z∈[hv],i7 .i64 z:=by simp only [i5,n7,i7];omega
     have RI:=lh (fun (W:World)=>aU (k:=.i64) (w:=W) (t:=3) (l:=[hv]) rfl Qj UF 1 rfl rfl);have TU:=lh (show ((gF f x y vx vy k ++ lW f x y vx vy k n).length+[hv].length)*8<=140737488355328 by rw [Pn,E,D];simp;omega);have Sy:=lh V;obtain ⟨ra,VK,rfl,-⟩:=L.ints.open;have M:(gF f x y vx vy k ++ lW f x y vx vy k n).length=k*8+n:=by rw [Pn,E,D]
     rw [M] at L Y |-
     obtain ⟨r0,r1,r2⟩:=ag (J.row Rg);obtain ⟨v0,v1⟩:=aL (J.row SQ);have VM:=lh M;have Tg:=lh (HI.quiet J);clear V E D UF M QS;have Ra:Hid (((gF f x y vx vy k ++ lW f x y vx vy k n) ++ [hv]).length=k*8+n+1):=lh (by rw [Pn,VM.out];rfl);go_wp2_with fail;refine (HC.out _ Tg).mono ?_;rintro e w3 ⟨rfl,QQ⟩;have QW:=lh QQ;have Ui:=lh (L.quiet QQ);have Tn:=lh (fun (o:Obj)=>(show w.heap.size+1+1<=(w3.alloc o).heap.size by have:=J.size;have:=QQ.size;have:=N.out;simp;omega));have HFs:Hid (bj W2.heap.size (Value.slice ra (k*8+n) VK)):=lh (bC N Y);clear QQ
     go_wp2_with (first
      | (at_builtin;refine au rfl (.tmp 26) (.tmp 43) _ rfl EI (Ui.quiet (BS)) rfl (RI.out _) rfl TU (Tn.out _) (fun v1 w4 Z Rc=>?_);obtain ⟨x1,SV,RZ,_⟩:=Z.ints.open;subst RZ;rw [Ra.out] at Z Rc |-;have SD:=lh Z;have Sa:=lh Rc;clear Z Rc)
      | fail)
     refine ⟨⟨n+1,Qa,Qh,lh ?_,lh (Sa.from_ Y (Tn.out _)),lh (((J.q QW).q (BS)).acc Sa HFs)⟩,Qf⟩;rw [Sy.out,<- PM];exact SD
    ·obtain rfl:n=8:=Qa
     have E:=mC f x y vx vy k;have D:=wW f x y vx vy k 8;have Hm:=lh (xC f x y vx vy k);obtain ⟨ra,VK,rfl,-⟩:=L.ints.open;have M:(gF f x y vx vy k ++ lW f x y vx vy k 8).length=k*8+8:=by rw [Pn,E,D]
     rw [M] at L Y |-
     clear E D M;go_wp2_with fail;refine ⟨⟨k+1,Qa,Qh,lh ?_,Y,J⟩,Qf⟩;rw [Hm.out,<- (SA.out k).out];exact L
  ·obtain rfl:k=8:=Qa
   have E:=mC f x y vx vy 8;obtain ⟨ra,VK,rfl,-⟩:=QX.ints.open;rw [E] at QX SU |-
   clear E;go_wp2_with fail;refine QF.out _ _ ⟨_,rfl,?_,QT.q QP.out⟩;rw [HD.out];exact QX.lower Qa
theorem oO {lo hi:Nat} {pv:Value} {w:World} {f:ah} (QM:FrOk f) (h:aj .i64 lo hi w pv f.pix) (x y vx vy:Int) (hx:0<=x/\x<=32) (hy:0<=y/\y<=32) (F:-15<=vx/\vx<=15) (I:-15<=vy/\vy<=15) :
  Calls prog 71 #[.agg #[f.W,f.H,pv],x,y,.int .i64 8,.agg #[vx,vy]] w fun e w'=>∃ v',e=.returned v'/\f9 .i64 3 w.heap.size w' v' (aq f x y 8 vx vy)/\ae [] w w':=by
 refine aK fun Q QF=>?_
 obtain ⟨a,cap,rfl,-⟩:=h.open;have Z:=ae.new w (sT f a cap);have L:=Z.q (ae.new _ (.cells #[vx,vy] 73));have Tt:=(ae.new (w.alloc (sT f a cap)) (.cells #[vx,vy] 73)).row (Sd w _);have UT:=ak (w:=w.alloc (sT f a cap)) (o:=.cells #[vx,vy] 73) (g:=w.heap.size+1) Qb;have O:=lh (h.quiet L);have M:=lh Tt;have SQ:=lh UT;have QT:=lh L;have V:=lh (fun (W:World) (o:aj .i64 lo hi W (.slice a f.pix.length cap) f.pix)=>jN f.W f.H o);have ht:cT ⟨f.W,f.H,f.pix⟩=true:=dp.2 QM;have E:(gM vx && gM vy)=true:=by simp [gM,F,I]
 have HS:=lh (fun (W:World) (o:aj .i64 lo hi W (.slice a f.pix.length cap) f.pix)=>mN QM o x y vx vy hx hy F I);have Y:=lh (fun (W:World)=>uG vx vy W);rw [ht] at V;rw [E] at Y;obtain ⟨WL,RZ⟩:=hx;obtain ⟨Vo,XW⟩:=hy;clear h Z L Tt UT ht E;go_enter func71,ntmps71;go_wp2_with fail;obtain ⟨r0,r1,r2⟩:=ag M;generalize VZ:World.alloc (World.alloc w _) _=W2 at *
 clear VZ;go_wp2_with fail;refine (V.out W2 O).mono ?_;rintro e w3 ⟨rfl,J⟩;obtain ⟨r3,r4,r5⟩:=ag (J.row M);obtain ⟨v0,v1⟩:=aL (J.row SQ);have QW:=lh J;clear J r0 r1 r2;go_wp2_with fail;refine (Y.out w3).mono ?_;rintro e w4 ⟨rfl,QY⟩;have D:=QW.q QY;obtain ⟨r0,r1,r2⟩:=ag (D.row M);obtain ⟨u0,u1⟩:=aL (D.row SQ);have N:=lh D;clear QY D r3 r4 r5 v0 v1;go_wp2_with fail;refine (HS.out w4 (O.quiet N)).mono ?_;rintro e w5 ⟨v5,rfl,QL,RF⟩;have HO:=lh QL;have Rk:=lh RF;clear QL RF;go_wp2_with fail;exact QF.out _ _ ⟨v5,rfl,HO.lower (Pw QT.size N.size),(QT.q N).q Rk.out⟩
section
variable {R:Nat} (X:KC R)
end
section
variable {σ:Type} {C:lX σ} {qm:List Int} {ql:List (List Int)} {k:Nat} {ms:List Int} {ls:List (List Int)} {m m1 m2:σ} {mo:Nat} {l:List Int} {e:l4}
theorem oB (h1:bO C (qm.getD ms.length 0) m=(mo,m1)) (D:aR C 4 (ql.getD ls.length []) m1=(.ok l,m2)):bq C qm ql (k+1) ms ls m=bq C qm ql k (ms ++ [(mo:Int)]) (ls ++ [l]) m2:=by
 rw [bq,h1];simp only [D]
end
section
variable {O:Nat} {F F':List Nat} {w w':World} {vq:List Value} {ls:List (List Int)}
end
theorem zN {lo hi g cap n:Nat} {w:World} {l:List Int} (h:aj .i64 lo hi w (.slice g n cap) l):aj .i64 g (g+1) w (.slice g n cap) l:=by
 obtain ⟨⟨h1,a,c,e,E,F,I⟩,J⟩:=h;refine ⟨⟨h1,a,c,e,E,F,fun M=>?_⟩,J⟩;obtain ⟨b,off,D,x,y,L⟩:=I M;rw [D] at e;injection e with e1 e2 e3
 injection e1 with e1
 injection e1 with e1 e2
 exact ⟨b,off,D,Qa,Qa,L⟩
theorem Dt {base:Nat} {w:World} {v:Value} {l:List Int} (h:f9 .i64 3 base w v l) (E:0<l.length):∃ g cap,v=.slice (some ⟨g,0,none⟩) l.length cap/\base<=g/\g<w.heap.size/\aj .i64 g (g+1) w v l:=by
 obtain ⟨g,cap,rfl,h1,D⟩:=h.form E;exact ⟨g,cap,rfl,h1,D,zN h.ints⟩
end Go.Proofs.YthcafdfdglfabaaGreatDoor
