/- Joined texts: DLay, DSquareW, DBlock. Conditions: each part names its own. -/
import Derived.Test.YthcafdfdglfabaaGreatDoorS1
import Derived.Laws.CopyOwn
import Derived.Test.YthcafdfdglfabaaGreatDoorK5
namespace Go.Proofs.YthcafdfdglfabaaGreatDoor
open Go.RowKit
set_option linter.unusedVariables false
set_option linter.unusedSimpArgs false
set_option maxRecDepth 100000
set_option maxHeartbeats 16000000
theorem pR (pix row:List Int) (o:Nat):kG pix o row=splice pix o row:=by simp [kG,splice]
theorem yE {α:Type} {L m:List α} {n off:Nat} (h:off+m.length<=n) (hn:n<=L.length):(splice L off m).take n=splice (L.take n) off m:=by
 unfold splice;rw [List.take_append,List.take_append,List.take_take,Lp,List.take_take,List.drop_take,List.take_of_length_le (by omega:m.length<=n-min off L.length)]
 congr 2
 ·rw [Nat.min_comm]
 ·congr 1;omega
section
variable {k:IntKind} {e:TypeId} {base g n cap:Nat} {w:World} {l:List Int}
theorem Own.splice (h:Own k e base w (.slice (some ⟨g,0,none⟩) n cap) l) (hn:n=l.length) {m:List Int} (hm:∀ x∈m,InK k x) {off:Nat} (ho:off+m.length<=l.length) :
  ∃ cur:List Value,w.heap[g]?=some (.cells cur.toArray e (0,0))/\off+m.length<=cur.length /\
   Own k e base (w.setRow g (Go.splice cur off (m.map (.int k))).toArray) (.slice (some ⟨g,0,none⟩) n cap) (kG l off m)/\ae [g] w (w.setRow g (Go.splice cur off (m.map (.int k))).toArray):=by
 subst hn;obtain ⟨⟨h1,h2⟩,h3⟩:=h;rcases h2 with ⟨hv,_⟩ | ⟨g',Te,cur,hv,hb,hg,hnc,hcm,TI,ht⟩
 ·cases hv
 ·injection hv with e1 e2 e3
  injection e1 with e1
  injection e1 with e1
  subst e1;subst e3;have hcl:cur.toList.length=cap:=by simpa using TI
  refine ⟨cur.toList,Mt,Mf,⟨⟨Mg,.inr ⟨g,cap,_,by rw [jI ho],hb,setRow_heap _ _ _ _ _ _ hg,by rw [jI ho];exact hnc,hcm,?_,?_⟩⟩,fun x hx=>?_⟩,ae.setRow (ae.refl _ _) (fun _=>Mg) _⟩
  ·rw [List.size_toArray,length_splice _ _ _ (by rw [Lt];omega)];omega
  ·rw [jI ho,Nat.mul_one,List.toList_toArray,yE (by rw [Lt];exact ho) Mf,pR]
   rw [Nat.mul_one] at ht;rw [ht];simp [Go.splice]
  ·rw [pR] at hx
   unfold Go.splice at hx;rcases List.mem_append.1 hx with hx | hx
   ·exact h3 x (List.mem_of_mem_take hx)
   ·rcases List.mem_append.1 hx with hx | hx
    ·exact hm x hx
    ·exact h3 x (List.mem_of_mem_drop hx)
end
section
variable {P:Program}
theorem yR {w:World} {o:Oper} {a:Act} {K:Act->World->Prop} {Q:Exit->Act->World->Prop} (d s:Operand) (dT sT:TypeId)
  (ho:o.op=.call { callee:=.builtin .copy,args:=#[d,s],argTypes:=#[dT,sT] }) (Jah:TypeId) (hu:P.underlying dT=some (.slice Jah)) (YT:(P.info? Jah).map (·.size)=some 1)
  (g off Jag Jds:Nat) (ad:Addr) (JaE Jek:Nat) (hd:a.eval d=.slice (some ⟨g,off,none⟩) Jag Jds) (hs:a.eval s=.slice (some ad) JaE Jek)
  (cur:List Value) (t:TypeId) (hg:w.heap[g]?=some (.cells cur.toArray t (0,0))) (cs:List Value) (hn:cs.length=Nat.min JaE Jag)
  (Oa:∀ j v,cs[j]?=some v->w.cell? (ad.add j)=some v) (Xa:off+cs.length<=cur.length) (h1:∀ v∈cs,v.oneCell'=true)
  (h:K (a.put o.dst (goInt cs.length)) (w.setRow g (splice cur off cs).toArray)):o.wp P a w K Q:=by
 have Jec:=run_copy_row (P:=P) w dT sT o.type Jah g off Jag Jds ad JaE Jek cur.toArray t cs hu YT hg hn Oa (by simpa using Xa) h1;unfold Oper.wp;simp [execOp,ho,resolve,invoke,builtin,hd,hs,Jec,Result.andThen];exact h
end
section
variable {P:Program}
theorem sU {ops:Array Oper} {w:World} {o:Oper} {a:Act} {K:Act->World->Prop} {Q:Exit->Act->World->Prop} {E:Prop} (XE:o.guard=none) (d s:Operand) (dT sT:TypeId)
  (ho:o.op=.call { callee:=.builtin .copy,args:=#[d,s],argTypes:=#[dT,sT] }) (Jah:TypeId) (hu:P.underlying dT=some (.slice Jah)) (YT:(P.info? Jah).map (·.size)=some 1)
  (g off Jag Jds:Nat) (ad:Addr) (JaE Jek:Nat) (hd:a.eval d=.slice (some ⟨g,off,none⟩) Jag Jds) (hs:a.eval s=.slice (some ad) JaE Jek)
  (cur:List Value) (t:TypeId) (hg:w.heap[g]?=some (.cells cur.toArray t (0,0))) (cs:List Value) (hn:cs.length=Nat.min JaE Jag)
  (Oa:∀ j v,cs[j]?=some v->w.cell? (ad.add j)=some v) (Xa:off+cs.length<=cur.length) (h1:∀ v∈cs,v.oneCell'=true)
  (h:K (a.put o.dst (goInt cs.length)) (w.setRow g (splice cur off cs).toArray)):if Region.wanted o (yielded ops a.tmps)=true then Oper.wp P o a w K Q else E:=by
 rw [if_pos (by simp [Region.wanted,XE])];exact yR d s dT sT ho Jah hu YT g off Jag Jds ad JaE Jek hd hs cur t hg cs hn Oa Xa h1 h
end
theorem JZ {k:IntKind} {l:List Int} {j:Nat} {v:Value} (h:(l.map (Value.int k))[j]?=some v):j<l.length/\v=.int k (l.getD j 0):=by
 rw [LG] at h;obtain ⟨x,hx,rfl⟩:=Option.map_eq_some_iff.1 h;have hj:=(List.getElem?_eq_some_iff.1 hx).1;exact ⟨hj,by rw [Le,hx];rfl⟩
theorem Fr {k:IntKind} {l:List Int}:∀ v∈l.map (Value.int k),v.oneCell'=true:=by
 intro v hv;obtain ⟨x,_,rfl⟩:=List.mem_map.1 hv
 rfl
theorem DF {W x y:Int} {n:Nat} {b pix:List Int} {j:Nat}:(List.range (j+1)).foldl (fC W x y n b) pix=fC W x y n b ((List.range j).foldl (fC W x y n b) pix) j:=by
 rw [List.range_succ,List.foldl_append];rfl
theorem rO {lo hi g cap base:Nat} {bv:Value} {b:List Int} {w:World} {f:ai} {x y:Int} {n:Nat} (hf:FrOk f) (hp:Own .i64 3 base w (.slice (some ⟨g,0,none⟩) f.pix.length cap) f.pix) (hb:ah .i64 lo hi w bv b) (hg:g<lo\/hi<=g)
  (hn:n=4\/n=8) (NS:b.length=n*n) (hx:0<=x) (NA:x+n<=f.W) (hy:0<=y) (NM:y+n<=f.H) :
  Calls Tryz.prog 81 #[.agg #[f.W,f.H,.slice (some ⟨g,0,none⟩) f.pix.length cap],x,y,n,bv] w fun e w'=>e=.returned (.tuple #[])/\Own .i64 3 base w' (.slice (some ⟨g,0,none⟩) f.pix.length cap) (dz f x y n b).pix/\ae [g] w w':=by
 refine aN fun Q MM=>?_
 have HE:Hid ((dz f x y n b).pix=(List.range n).foldl (fC f.W x y n b) f.pix):=lh rfl;obtain ⟨ba,VT,rfl,hbc,-,JoI,TH⟩:=hb.open;have MR:=hf.len;have hW0:=hf.w0;have NB:=hf.w1;have hH1:=hf.h1;obtain ⟨bb,Jjy,rfl,hlb,hbh⟩:=JoI 0 (by rcases hn with e | e <;> rw [NS,e] <;> omega);have hbg:bb≠g:=Mf;have Hbk:=lh hb.2;generalize f.W=W at *
 generalize f.H=H at *
 generalize f.pix=pix at *
 obtain ⟨W,rfl⟩:=Int.eq_ofNat_of_zero_le (by omega:0<=W);obtain ⟨H,rfl⟩:=Int.eq_ofNat_of_zero_le (by have:(n:Int)<=H:=Mf;omega:0<=H);obtain ⟨x,rfl⟩:=Int.eq_ofNat_of_zero_le hx;obtain ⟨y,rfl⟩:=Int.eq_ofNat_of_zero_le hy;have hWH:W*H<=1024:=Lz (Nat.mul_le_mul (by omega:W<=32) (by omega:H<=32)) Mn;have YK:pix.length=W*H:=by rw [<- Int.natCast_mul] at MR;omega
 have Ni:=lh YK;have QH:=ae.new w (.cells #[W,H,.slice (some ⟨g,0,none⟩) pix.length cap] 24);have hgl:=(hp.at g rfl).2;have OJ:Hid ((w.alloc (.cells #[W,H,.slice (some ⟨g,0,none⟩) pix.length cap] 24)).heap[w.heap.size]?=some (.cells #[W,H,.slice (some ⟨g,0,none⟩) pix.length cap] 24 (0,0))):=lh (heap_alloc_new _ _);have HO:=lh (hp.quiet QH);have Hbc:=lh (fun (i:Nat) (hi:i<b.length)=>QH.cell (TH bb Jjy rfl i hi) Mg);have WR:=lh QH;have Hgl:=lh hgl;have Hbl:=lh NS;have hn4:4<=n:=Mf;have hn8:n<=8:=Mf;have hxW:x+n<=W:=Mf;have JAT:H<=32:=Mf;have hyH:y+n<=H:=Mf;have Qq:pix.length<=cap:=by
  rcases hp.1.2 with ⟨hv,_⟩ | ⟨g',Te,cur,hv,_,_,hnc,_⟩
  ·cases hv
  ·injection hv with e1 e2 e3;omega
 clear hf hp hb JoI TH MR hW0 NB hH1 hx hy NA NM hn YK QH NS;generalize hP:pix.length=N at *
 have HP:=lh hP;clear hP;go_enter Tryz.func81,Tryz.ntmps81;go_wp2_with fail;generalize NB:World.alloc w _=W1 at *
 clear NB;go_loopw [12,10] (fun i _ wr=>∃ (j:Nat),j<=n/\i=.int .i64 j/\Hid (Own .i64 3 base wr (.slice (some ⟨g,0,none⟩) N cap) ((List.range j).foldl (fC W x y n b) pix))/\Hid (((List.range j).foldl (fC W x y n b) pix).length=N)/\Hid (ae [g] W1 wr)) (fun i _ _=>n-(intOf i).toNat)
 case atStart=>exact ⟨0,Mf,rfl,HO,HP,lh (ae.refl _ _)⟩
 case round =>
  obtain ⟨j,hj,rfl,HOj,HLj,HQj⟩:=hrel;by_cases MO:j<n
  ·have hji:(j:Int)<(n:Int):=Mf
   have WB:(0:Int)<=(j:Int):=Mf;have hr:=ag (HQj.rowAt OJ (by rw [mSg];have:=Hgl.out;omega));obtain ⟨r0,r1,r2⟩:=hr;have SH:(y+j)*W+x+n<=W*H:=by
    have h2:(y+j+1)*W<=H*W:=Nat.mul_le_mul_right _ Mf;rw [Nat.add_mul,Nat.one_mul,Nat.mul_comm H W] at h2;omega
   have hpb:j*n+n<=b.length:=by
    have h2:(j+1)*n<=n*n:=Nat.mul_le_mul_right _ Mf;rw [Nat.add_mul,Nat.one_mul] at h2;rw [Hbl.out];omega
   have JwZ:b.length<=64:=by rw [Hbl.out];exact Nat.mul_le_mul hn8 hn8
   obtain ⟨M,hM⟩:∃ M,M=(y+j)*W:=⟨_,rfl⟩
   obtain ⟨J,hJ⟩:∃ J,J=j*n:=⟨_,rfl⟩
   have e1:IntKind.i64.wrap ((y:Int)+(j:Int))=((y+j:Nat):Int):=Mi;have e2:IntKind.i64.wrap (((y+j:Nat):Int)*(W:Int))=(M:Int):=by rw [Ll,<- Int.natCast_mul,<- hM];rw [<- hM] at SH;omega
   have e4:IntKind.i64.wrap ((j:Int)*(n:Int))=(J:Int):=by rw [Ll,<- Int.natCast_mul,<- hJ];rw [<- hJ] at hpb;omega
   rw [<- hM] at SH;rw [<- hJ] at hpb;have e3:IntKind.i64.wrap ((M:Int)+(x:Int))=((M+x:Nat):Int):=Mi;have e5:IntKind.i64.wrap ((J:Int)+(n:Int))=((J+n:Nat):Int):=Mi;have HM:=lh hM;have HJ:=lh hJ;clear hM hJ;generalize hyj:y+j=Yj at *
   generalize ho:M+x=o at *
   generalize hje:J+n=Je at *
   have Hyj:=lh hyj;have Ho:=lh ho;have Hje:=lh hje;have hoN:o+n<=N:=by rw [Ni.out];exact SH
   have hJb:Je<=b.length:=hpb;have JAW:J<=Je:=Mf;have JAX:J<b.length:=Mf;have JBS:o<=N:=Mf;have hoc:¬ cap=o:=Mf;have JAV:Je<=VT:=Mf;have hJc:¬ VT=J:=Mf;clear hyj ho hje SH hpb;go_wp2_with fail;refine wp_region_held_drew (S:=(fun w'=>w'.cell? ⟨w.heap.size,0,none⟩=some (.int .i64 W)/\w'.cell? ⟨w.heap.size,2,none⟩=some (.slice (some ⟨g,0,none⟩) N cap))) Mh ?_ (fun hHeld=>?_)
   ·exact ⟨r0,r2⟩
   refine tk 0 15 ?_;refine tk 1 16 ?_;refine tk 2 17 ?_;refine tk 3 18 ?_;refine tk 4 19 ?_;refine tk 5 20 ?_;refine tk 6 21 ?_;refine tk 7 22 ?_;refine tk 8 23 ?_;refine tk 9 24 ?_;refine tk 10 25 ?_;refine tk 11 26 ?_;refine tk 12 27 ?_;refine tk 13 28 ?_;refine tk 14 29 ?_;refine tk 15 30 ?_;refine tk 16 31 ?_;refine tk 17 32 ?_;refine tk 18 33 ?_;refine tk 19 34 ?_;refine tk 20 35 ?_;refine rdy (rdc 21 36 (fun K hK=>?_) .nil);obtain ⟨row,MS⟩:∃ row,row=(b.drop J).take n:=⟨_,rfl⟩
   have hrl:row.length=n:=by have:=Hje.out;rw [MS,Lp,Lq];omega
   have JpM:∀ i,i<n->row.getD i 0=b.getD (J+i) 0:=fun i hi=>by
    rw [MS,Le,LI,if_pos hi,LH,Le]
   have hrk:∀ x∈row,InK .i64 x:=fun x hx=>Hbk.out x (by rw [MS] at hx;exact List.mem_of_mem_drop (List.mem_of_mem_take hx))
   obtain ⟨cur,JoQ,Xa,JhN,JaY⟩:=(HOj.quiet (ae.refl _ _).drew).splice HLj.symm hrk (off:=o) (by rw [HLj.out,hrl];exact hoN);refine sU rfl (.tmp 25) (.tmp 35) 22 22 rfl 3 EI.ut Mh g o (N-o) (cap-o) ⟨bb,Jjy+J,none⟩ (Je-J) (VT-J) rfl rfl cur _ JoQ (row.map (.int .i64)) ?_ ?_ (by rw [Lt];exact Xa) Fr ?_
   ·rw [Lt,hrl];have:=Hje.out;show n=min (Je-J) (N-o);omega
   ·intro i v hv
    obtain ⟨hi,rfl⟩:=JZ hv;rw [hrl] at hi;rw [JpM i hi,Addr.add_lit];refine (HQj.drew).cell (p:=⟨bb,Jjy+J+i,none⟩) ?_ (by rw [mSg];exact hbg);rw [Nat.add_assoc];exact Hbc.out (J+i) (by have:=Hje.out;omega)
   refine hK.out _ _ ?_ (fun hHeld=>?_)
   ·exact ⟨JaY.cell r0 (by rw [mSg];simp only;omega),JaY.cell r2 (by rw [mSg];simp only;omega)⟩
   clear hK K
   try simp only [Act.put,Lg,Lj,Lk]
   refine wpAnyH_done Mh ?_ _;have SI:=lh JhN;have HQx:=lh (((ae.refl [g] wr).drew).trans JaY (fun _ h _=>h) (fun _ h _=>h));have HLx:Hid ((kG ((List.range j).foldl (fC W x y n b) pix) o row).length=N):=lh (by rw [jI (by rw [HLj.out,hrl];exact hoN)];exact HLj);have HMx:Hid ((List.range (j+1)).foldl (fC W x y n b) pix=kG ((List.range j).foldl (fC W x y n b) pix) o row):=lh (by
    rw [DF,fC,MS];have e:(((y:Int)+(j:Int))*(W:Int)+(x:Int)).toNat=o:=by
     rw [<- Ho.out,HM.out,<- Hyj.out];rw [<- LW,<- Int.natCast_mul,<- LW]
     rfl
    rw [e,<- HJ.out])
   clear JhN JaY JoQ Xa hrk JpM hrl MS;go_wp2_with fail;exact ⟨⟨j+1,Mf,Mm,by rw [HMx.out];exact SI,by rw [HMx.out];exact HLx,lh (HQj.trans HQx (fun _ h _=>h) (fun _ h _=>h))⟩,Mk⟩
  ·obtain rfl:j=n:=Mf
   have hx:¬ (j:Int)<(j:Int):=Mf;go_wp2_with fail;refine bodyPost_end (results_none Tryz.results81 _ _ _) rfl (MM.out _ _ ⟨rfl,?_,WR.trans HQj.out Mg (fun g h _=>h)⟩);rw [HE.out];exact HOj
theorem sS (m:Nat) (hm:m<=1000000) (w:World):(Instr.makeSlice 22 (.int .i64 0) (.int .i64 m)).run Tryz.prog w=.ok (.slice (some ⟨w.heap.size,0,none⟩) 0 m) (w.alloc (.cells (madeCells #[()] m) 3)):=by
 obtain ⟨i,hi,hz,hs,hb⟩:=EI.inf;have hr:=run_make (P:=Tryz.prog) w 22 3 i (.int .i64 0) EI.ut hi hz .i64 .i64 0 m Mf Mf (by rw [hb];omega) Mf;simp only [hs,Nat.mul_one,Int.toNat_natCast,Int.toNat_zero] at hr;exact hr
theorem Gf (m:Nat) (hm:m<=1000000) (w:World):Own .i64 3 w.heap.size (w.alloc (.cells (madeCells #[()] m) 3)) (.slice (some ⟨w.heap.size,0,none⟩) 0 m) [] :=
 ⟨⟨rfl,.inr ⟨w.heap.size,m,_,rfl,Lm _,heap_alloc_new _ _,Mc _,by simp [maxLen];omega,by rw [size_madeCells,Nat.mul_one],Mg⟩⟩,Mg⟩
def fJ (n:Int):Bool:=decide (-15<=n/\n<=15)
theorem uE (n:Int) (w:World):Calls Tryz.prog 189 #[n] w fun e w'=>e=.returned (.bool (fJ n))/\w=w':=by
 go_enter Tryz.func189,Tryz.ntmps189;go_wp2
 all_goals
  go_ret;exact ⟨aK (by unfold fJ;rw [Bool.eq_iff_iff];simp;try omega),rfl⟩
theorem sA (a b:Int) (w:World):Calls Tryz.prog 130 #[.agg #[a,b]] w fun e w'=>e=.returned (.bool (fJ a && fJ b))/\ae [] w w':=by
 have hq:=ae.new w (.cells #[a,b] 73);have HQ:=lh hq;clear hq;have HA:=lh (fun W:World=>uE a W);have HB:=lh (fun W:World=>uE b W);generalize fJ a=p at *
 generalize fJ b=q at *
 cases p
 all_goals
  go_enter Tryz.func130,Tryz.ntmps130
  go_wp2_with (first | (go_at_call 189;(first | ((with_reducible refine (HA.out _).mono ?_);rintro e w' ⟨rfl,rfl⟩) | ((with_reducible refine (HB.out _).mono ?_);rintro e w' ⟨rfl,rfl⟩))) | fail)
  go_ret;exact ⟨aK Mg,HQ.out⟩
theorem uN (f:ai) (x y:Int) (n:Nat) (vx vy:Int) (j:Nat):(gQ f x y n vx vy j).length=n:=by simp [gQ]
def fE (f:ai) (x y vx vy:Int) (j:Nat):List Int:=(List.range j).flatMap (gQ f x y 8 vx vy)
theorem uM (f:ai) (x y vx vy:Int) (j:Nat):fE f x y vx vy (j+1)=fE f x y vx vy j ++ gQ f x y 8 vx vy j:=by
 unfold fE;rw [List.range_succ,List.flatMap_append];simp
theorem kN (f:ai) (x y vx vy:Int) (j:Nat):(fE f x y vx vy j).length=j*8:=by
 unfold fE;rw [iY 8 _ _ (fun j _=>uN _ _ _ _ _ _ _),List.length_range]
def kA (f:ai) (x y vx vy:Int) (j i:Nat):List Int:=(List.range i).map fun i:Nat=>ja f (2*(x+(i:Int))+vx) (2*(y+(j:Int))+vy)
theorem Ay (f:ai) (x y vx vy:Int) (j i:Nat):kA f x y vx vy j (i+1)=kA f x y vx vy j i ++ [ja f (2*(x+(i:Int))+vx) (2*(y+(j:Int))+vy)]:=by
 unfold kA;rw [List.range_succ,LS];simp
theorem uq (f:ai) (x y vx vy:Int) (j i:Nat):(kA f x y vx vy j i).length=i:=by simp [kA]
theorem kU {lo hi:Nat} {pv:Value} {w:World} {f:ai} (MU:FrOk f) (h:ah .i64 lo hi w pv f.pix) (x y vx vy:Int) (hx:0<=x/\x<=32) (hy:0<=y/\y<=32) (WG:-15<=vx/\vx<=15) (WH:-15<=vy/\vy<=15) :
  Calls Tryz.prog 131 #[.agg #[f.W,f.H,pv],x,y,.int .i64 8,.agg #[vx,vy]] w fun e w'=>∃ v',e=.returned v'/\Own .i64 3 w.heap.size w' v' (ar f x y 8 vx vy)/\ae [] w w':=by
 refine aN fun Q MM=>?_
 obtain ⟨a,cap,rfl,-⟩:=h.open;have HD:Hid (ar f x y 8 vx vy=fE f x y vx vy 8):=lh rfl;have HR:∀ j,Hid (kA f x y vx vy j 8=gQ f x y 8 vx vy j):=fun j=>lh rfl
 have OJ:=lh HR;clear HR;have VI:=lh (fun hx hy=>rb MU.sam hx hy);have MP:=ae.new w (.cells #[f.W,f.H,.slice a f.pix.length cap] 24);have MV:=MP.q (ae.new _ (.cells #[vx,vy] 73));have Pz:=(ae.new (w.alloc (.cells #[f.W,f.H,.slice a f.pix.length cap] 24)) (.cells #[vx,vy] 73)).row (heap_alloc_new w _);have Rn:=ak (w:=w.alloc (.cells #[f.W,f.H,.slice a f.pix.length cap] 24)) (o:=.cells #[vx,vy] 73) (g:=w.heap.size+1) Mg;have HI:=lh (h.quiet MV);have Nq:=lh Pz;have Px:=lh Rn;have Na:=lh MV;have Rc:∀ W:World,(Instr.makeSlice 22 (.int .i64 0) (.int .i64 64)).run Tryz.prog W=.ok (.slice (some ⟨W.heap.size,0,none⟩) 0 64) (W.alloc (.cells (madeCells #[()] 64) 3)):=fun W=>sS 64 Mf W
 have hH:=lh (fun (hx hy:Int) (a0:-1000<=hx/\hx<=1000) (b0:-1000<=hy/\hy<=1000) (W:World) (o:ah .i64 lo hi W (.slice a f.pix.length cap) f.pix)=>Fo MU o hx hy a0 b0);obtain ⟨Ue,OB⟩:=hx;obtain ⟨Sr,YX⟩:=hy;obtain ⟨hv0,Rg⟩:=WG;obtain ⟨hv2,hv3⟩:=WH;clear h MP MV Pz Rn;go_enter Tryz.func131,Tryz.ntmps131;go_wp2_with fail;clear Rc;have HO:=lh (Gf 64 Mf ((w.alloc (.cells #[f.W,f.H,.slice a f.pix.length cap] 24)).alloc (.cells #[vx,vy] 73)));have hz2:((w.alloc (.cells #[f.W,f.H,.slice a f.pix.length cap] 24)).alloc (.cells #[vx,vy] 73)).heap.size=w.heap.size+1+1:=Mg;have Hz2:=lh hz2;rw [hz2] at HO;clear hz2;generalize Tg:World.alloc (World.alloc w _) _=W2 at *
 clear Tg;go_loopw [19,11,12,13,23] (fun j r _ _ _ wr=>∃ (k:Nat),k<=8/\j=.int .i64 k/\Hid (Own .i64 3 (w.heap.size+1+1) wr r (fE f x y vx vy k))/\Hid (bB (w.heap.size+1+1) r)/\Hid (ae [] W2 wr)) (fun j _ _ _ _ _=>8-(intOf j).toNat)
 case atStart=>exact ⟨0,Mf,rfl,HO,lh (bB.lit (Lm _)),lh (ae.new _ _)⟩
 case round =>
  obtain ⟨k,hk,rfl,Nc,OO,MW⟩:=hrel;by_cases MO:k<8
  ·have Ny:(k:Int)<8:=Mf
   have NU:(0:Int)<=(k:Int):=Mf;go_wp2_with fail;go_loopw [23,11,13] (fun i r _ wr=>∃ (n:Nat),n<=8/\i=.int .i64 n/\Hid (Own .i64 3 (w.heap.size+1+1) wr r (fE f x y vx vy k ++ kA f x y vx vy k n))/\Hid (bB (w.heap.size+1+1) r)/\Hid (ae [] W2 wr)) (fun i _ _ _=>8-(intOf i).toNat)
   case atStart=>exact ⟨0,Mf,rfl,lh (by rw [show kA f x y vx vy k 0=[] from rfl,LA];exact Nc),OO,MW⟩
   case round =>
    obtain ⟨n,hn,rfl,PS,RB,Oh⟩:=hrel;by_cases YO:n<8
    ·have XH:(n:Int)<8:=Mf
     have Uu:(0:Int)<=(n:Int):=Mf;have JhI:=Ay f x y vx vy k n;have MR:=kN f x y vx vy k;have WD:=uq f x y vx vy k n;have YD:=fun W o=>hH.out (2*(x+(n:Int))+vx) (2*(y+(k:Int))+vy) Mf Mf W o
     have MX:=VI.out (2*(x+(n:Int))+vx) (2*(y+(k:Int))+vy);have HC:=lh YD;clear YD;generalize ja f (2*(x+(n:Int))+vx) (2*(y+(k:Int))+vy)=hv at *
     have QF:∀ z∈[hv],InK .i64 z:=by simp only [mSg,forall_eq,InK];omega
     have Oa:=lh (fun (W:World)=>bg (k:=.i64) (w:=W) (t:=3) (l:=[hv]) rfl Mo QF 1 rfl rfl);have Qj:=lh (show ((fE f x y vx vy k ++ kA f x y vx vy k n).length+[hv].length)*8<=140737488355328 by rw [Ln,MR,WD];simp;omega);have Ox:=lh JhI;obtain ⟨ra,RT,rfl,-⟩:=PS.ints.open;have Qn:(fE f x y vx vy k ++ kA f x y vx vy k n).length=k*8+n:=by rw [Ln,MR,WD]
     rw [Qn] at PS RB |-
     obtain ⟨r0,r1,r2⟩:=ag (Oh.row Nq);obtain ⟨v0,v1⟩:=aJ (Oh.row Px);have Vl:=lh Qn;have PX:=lh (HI.quiet Oh);clear JhI MR WD QF Qn MX;have Ni:Hid (((fE f x y vx vy k ++ kA f x y vx vy k n) ++ [hv]).length=k*8+n+1):=lh (by rw [Ln,Vl.out];rfl);go_wp2_with fail;go_at_call 190;refine (HC.out _ PX).mono ?_;rintro e w3 ⟨rfl,Nb⟩;have Nf:=lh Nb;have Ql:=lh (PS.quiet Nb);have PG:=lh (fun (o:Obj)=>(show w.heap.size+1+1<=(w3.alloc o).heap.size by have:=Oh.size;have:=Nb.size;have:=Hz2.out;simp;omega));have HFs:Hid (bB W2.heap.size (Value.slice ra (k*8+n) RT)):=lh (by rw [Hz2.out];exact RB);clear Nb
     go_wp2_with (first
      | (at_builtin;refine aw rfl (.tmp 26) (.tmp 43) _ rfl EI (Ql.quiet (ae.new _ _)) rfl (Oa.out _) rfl Qj (PG.out _) (fun v1 w4 MN Nu=>?_);obtain ⟨x1,OW,OB,_⟩:=MN.ints.open;subst OB;rw [Ni.out] at MN Nu |-;have Oy:=lh MN;have Od:=lh Nu;clear MN Nu)
      | fail)
     refine ⟨⟨n+1,Mf,Mm,lh ?_,lh (Od.from_ RB (PG.out _)),lh (((Oh.q Nf).q (ae.new _ _)).acc Od HFs)⟩,Mk⟩;rw [Ox.out,<- LR];exact Oy
    ·obtain rfl:n=8:=Mf
     have MR:=kN f x y vx vy k;have WD:=uq f x y vx vy k 8;have Hm:=lh (uM f x y vx vy k);obtain ⟨ra,RT,rfl,-⟩:=PS.ints.open;have Qn:(fE f x y vx vy k ++ kA f x y vx vy k 8).length=k*8+8:=by rw [Ln,MR,WD]
     rw [Qn] at PS RB |-
     clear MR WD Qn;go_wp2_with fail;refine ⟨⟨k+1,Mf,Mm,lh ?_,RB,Oh⟩,Mk⟩;rw [Hm.out,<- (OJ.out k).out];exact PS
  ·obtain rfl:k=8:=Mf
   have MR:=kN f x y vx vy 8;obtain ⟨ra,RT,rfl,-⟩:=Nc.ints.open;rw [MR] at Nc OO |-
   clear MR;go_wp2_with fail;refine MM.out _ _ ⟨_,rfl,?_,Na.q MW.out⟩;rw [HD.out];exact Nc.lower Mf
theorem na {lo hi:Nat} {pv:Value} {w:World} {f:ai} (MU:FrOk f) (h:ah .i64 lo hi w pv f.pix) (x y vx vy:Int) (hx:0<=x/\x<=32) (hy:0<=y/\y<=32) (WG:-15<=vx/\vx<=15) (WH:-15<=vy/\vy<=15) :
  Calls Tryz.prog 71 #[.agg #[f.W,f.H,pv],x,y,.int .i64 8,.agg #[vx,vy]] w fun e w'=>∃ v',e=.returned v'/\Own .i64 3 w.heap.size w' v' (ar f x y 8 vx vy)/\ae [] w w':=by
 refine aN fun Q MM=>?_
 obtain ⟨a,cap,rfl,-⟩:=h.open;have MP:=ae.new w (.cells #[f.W,f.H,.slice a f.pix.length cap] 24);have MV:=MP.q (ae.new _ (.cells #[vx,vy] 73));have Pz:=(ae.new (w.alloc (.cells #[f.W,f.H,.slice a f.pix.length cap] 24)) (.cells #[vx,vy] 73)).row (heap_alloc_new w _);have Rn:=ak (w:=w.alloc (.cells #[f.W,f.H,.slice a f.pix.length cap] 24)) (o:=.cells #[vx,vy] 73) (g:=w.heap.size+1) Mg;have HI:=lh (h.quiet MV);have Nq:=lh Pz;have Px:=lh Rn;have Na:=lh MV;have HM:=lh (fun (W:World) (o:ah .i64 lo hi W (.slice a f.pix.length cap) f.pix)=>jG f.W f.H o);have ht:dV ⟨f.W,f.H,f.pix⟩=true:=dL.2 MU;have hvt:(fJ vx && fJ vy)=true:=by simp [fJ,WG,WH]
 have HS:=lh (fun (W:World) (o:ah .i64 lo hi W (.slice a f.pix.length cap) f.pix)=>kU MU o x y vx vy hx hy WG WH);have HV:=lh (fun (W:World)=>sA vx vy W);rw [ht] at HM;rw [hvt] at HV;obtain ⟨Ue,OB⟩:=hx;obtain ⟨Sr,YX⟩:=hy;clear h MP MV Pz Rn ht hvt;go_enter Tryz.func71,Tryz.ntmps71;go_wp2_with fail;obtain ⟨r0,r1,r2⟩:=ag Nq;generalize Tg:World.alloc (World.alloc w _) _=W2 at *
 clear Tg;go_wp2_with fail;go_at_call 62;refine (HM.out W2 HI).mono ?_;rintro e w3 ⟨rfl,Nb⟩;obtain ⟨r3,r4,r5⟩:=ag (Nb.row Nq);obtain ⟨v0,v1⟩:=aJ (Nb.row Px);have Nf:=lh Nb;clear Nb r0 r1 r2;go_wp2_with fail;go_at_call 130;refine (HV.out w3).mono ?_;rintro e w4 ⟨rfl,Ng⟩;have Jgr:=Nf.q Ng;obtain ⟨r0,r1,r2⟩:=ag (Jgr.row Nq);obtain ⟨u0,u1⟩:=aJ (Jgr.row Px);have NI:=lh Jgr;clear Ng Jgr r3 r4 r5 v0 v1;go_wp2_with fail;go_at_call 131;refine (HS.out w4 (HI.quiet NI)).mono ?_;rintro e w5 ⟨v5,rfl,MQ,NF⟩;have HO:=lh MQ;have Nz:=lh NF;clear MQ NF;go_wp2_with fail;exact MM.out _ _ ⟨v5,rfl,HO.lower (Lz Na.size NI.size),(Na.q NI).q Nz.out⟩
end Go.Proofs.YthcafdfdglfabaaGreatDoor
