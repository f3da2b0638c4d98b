/- Joined texts: DRBl, DSqK, DSqL, DSqO, DSqI, DSqA. Conditions: each part names its own. -/
import Derived.Test.YthcafdfdglfabaaGreatDoorA1
import Derived.Test.YthcafdfdglfabaaGreatDoorS4
set_option maxRecDepth 100000
set_option maxHeartbeats 16000000
namespace Go.Proofs.YthcafdfdglfabaaGreatDoor
open Go.RowKit
set_option linter.unusedVariables false
set_option linter.unusedSimpArgs false
theorem ce {P:Program} {w:World} {o:Oper} {a:Act} {K:Act->World->Prop} {Q:Exit->Act->World->Prop} (XE:o.guard=none) (s x:Operand) (t:TypeId)
  (ho:o.op=.call { callee:=.builtin .append,args:=#[s,x],argTypes:=#[t,t] })
  {k:IntKind} {e:TypeId} {z:Value} {bytes base lo hi:Nat} {v sv:Value} {l m:List Int} (E:kI P t e z 1 bytes)
  (MQ:Own k e base w v l) (hv:a.eval s=v) (hs:ah k lo hi w sv m) (hx:a.eval x=sv)
  (OQ:(l.length+m.length)*bytes<=140737488355328) (Pe:base<=w.heap.size)
  (h:∀ v' w',Own k e base w' v' (l ++ m)->Acc v w v' w'->K (a.put o.dst v') w'):Oper.wp P o a w K Q:=by
 have h1:=pn (ops:=#[]) (Q:=Q) (E':=True) XE s x t ho E MQ hv hs hx OQ Pe h;rwa [if_pos (by simp [Region.wanted,XE])] at h1
def jT (f:ai) (x y vx vy:Int) (k:Nat):List Int:=(List.range k).map fun i:Nat=>ja f (2*(x+((i % 8:Nat):Int))+vx) (2*(y+((i / 8:Nat):Int))+vy)
theorem qE (f:ai) (x y vx vy:Int) (k:Nat):(jT f x y vx vy k).length=k:=by simp [jT]
theorem wh (f:ai) (x y vx vy:Int) (k:Nat):jT f x y vx vy (k+1)=jT f x y vx vy k ++ [ja f (2*(x+((k % 8:Nat):Int))+vx) (2*(y+((k / 8:Nat):Int))+vy)]:=by simp [jT,List.range_succ]
theorem yZ (f:ai) (x y vx vy:Int):jT f x y vx vy 64=ar f x y 8 vx vy:=rfl
section
theorem tQ (vx vy:Int) (w:World) (h:-15<=vx/\vx<=15) (g:-15<=vy/\vy<=15) :
  Calls Tryz.prog 152 #[.agg #[vx,vy]] w fun e w'=>e=.returned (.bool true)/\ae [] w w':=by
 have HQ:=lh (ae.new w (.cells #[vx,vy] 73));obtain ⟨h1,h2⟩:=h;obtain ⟨g1,g2⟩:=g;go_enter Tryz.func152,Tryz.ntmps152;go_wp2_with fail;go_ret;exact ⟨aK rfl,HQ.out⟩
theorem gG {lo hi:Nat} {pv:Value} {w:World} {f:ai} (MU:FrOk f) (h:ah .i64 lo hi w pv f.pix) (x y vx vy:Int) (hx:0<=x/\x<=32) (hy:0<=y/\y<=32) (WG:-15<=vx/\vx<=15) (WH:-15<=vy/\vy<=15) :
  Calls Tryz.prog 94 #[.agg #[f.W,f.H,pv],x,y,.int .i64 8,.agg #[vx,vy]] w fun e w'=>∃ v',e=.returned v'/\Own .i64 3 w.heap.size w' v' (ar f x y 8 vx vy)/\ae [] w w':=by
 refine aN fun Q MM=>?_
 obtain ⟨a,cap,rfl,-⟩:=h.open;have MV:ae [] w ((w.alloc (.cells #[f.W,f.H,.slice a f.pix.length cap] 24)).alloc (.cells #[vx,vy] 73)):=(ae.new w _).alloc _;have Nq:Hid (((w.alloc (.cells #[f.W,f.H,.slice a f.pix.length cap] 24)).alloc (.cells #[vx,vy] 73)).heap[w.heap.size]?=some (.cells #[f.W,f.H,.slice a f.pix.length cap] 24 (0,0))):=lh ((ae.new (w.alloc _) _).row (heap_alloc_new w _));have Px:Hid (((w.alloc (.cells #[f.W,f.H,.slice a f.pix.length cap] 24)).alloc (.cells #[vx,vy] 73)).heap[w.heap.size+1]?=some (.cells #[vx,vy] 73 (0,0))):=lh (ak Mg);have hz2:((w.alloc (.cells #[f.W,f.H,.slice a f.pix.length cap] 24)).alloc (.cells #[vx,vy] 73)).heap.size=w.heap.size+1+1:=Mg;have HI:=lh (h.quiet MV);have Na:=lh MV;have Vo:=lh hz2;have HM:=lh (fun (W:World) (o:ae [] ((w.alloc (.cells #[f.W,f.H,.slice a f.pix.length cap] 24)).alloc (.cells #[vx,vy] 73)) W)=>by have:=gU f.W f.H (HI.quiet o);rw [show dV ⟨f.W,f.H,f.pix⟩=true from dL.2 MU] at this;exact this);have HV:=lh (fun (W:World)=>tQ vx vy W WG WH);have HH:=lh (fun (W:World) (o:ae [] ((w.alloc (.cells #[f.W,f.H,.slice a f.pix.length cap] 24)).alloc (.cells #[vx,vy] 73)) W) (px py:Int) (h1:-1000<=px/\px<=1000) (h2:-1000<=py/\py<=1000)=>Du MU (HI.quiet o) px py h1 h2);have VI:=lh (fun px py=>rb MU.sam px py);have HB:=lh (yZ f x y vx vy);obtain ⟨Ue,OB⟩:=hx;obtain ⟨Sr,YX⟩:=hy;obtain ⟨vx0,vx1⟩:=WG;obtain ⟨vy0,vy1⟩:=WH;clear h MV MU hz2;obtain ⟨r0,r1,r2⟩:=ag Nq;go_enter Tryz.func94,Tryz.ntmps94;go_wp2_with fail;generalize Tg:World.alloc (World.alloc w _) _=W2 at *
 clear Tg r0 r1 r2;go_at_call 60;refine (HM.out W2 (ae.refl _ _)).mono ?_;rintro e w3 ⟨rfl,Nb⟩;obtain ⟨v0,v1,-⟩:=aJ (Nb.row Px);have Nf:=lh Nb;clear Nb;go_wp2_with fail;go_at_call 152;refine (HV.out w3).mono ?_;rintro e w4 ⟨rfl,Ng⟩;have NI:=lh (Nf.q Ng);clear Ng v0 v1;go_wp2_with fail;go_loopw [12,11] (fun i r wr=>∃ (k:Nat),k<=64/\i=.int .i64 k/\Hid (Own .i64 3 (w.heap.size+1+1) wr r (jT f x y vx vy k))/\Hid (bB (w.heap.size+1+1) r)/\Hid (ae [] W2 wr)) (fun i _ _=>64-(intOf i).toNat)
 case atStart=>exact ⟨0,Mf,rfl,lh (Own.nil _ _ _ _),lh (bB.nil _),NI⟩
 case round =>
  obtain ⟨k,hk,rfl,Nc,OO,MW⟩:=hrel;by_cases MO:k<64
  ·have Ny:(k:Int)<64:=Mf
   have NU:(0:Int)<=(k:Int):=Mf;have JpZ:IntKind.i64.wrap (8*8)=64:=Mn;have Ox:=lh (wh f x y vx vy k);have MR:=qE f x y vx vy k;have eM:(k:Int).tmod 8=((k % 8:Nat):Int):=by rw [LX NU];rfl
   have eD:(k:Int).tdiv 8=((k / 8:Nat):Int):=by rw [Int.tdiv_eq_ediv_of_nonneg NU];rfl
   have bM:(0:Int)<=((k % 8:Nat):Int)/\((k % 8:Nat):Int)<=7:=Mf;have bD:(0:Int)<=((k / 8:Nat):Int)/\((k / 8:Nat):Int)<=7:=Mf;generalize ((k % 8:Nat):Int)=M at *
   generalize ((k / 8:Nat):Int)=D at *
   have a1:IntKind.i64.wrap (x+M)=x+M:=Mi;have a2:IntKind.i64.wrap (2*(x+M))=2*(x+M):=Mi;have a3:IntKind.i64.wrap (2*(x+M)+vx)=2*(x+M)+vx:=Mi;have b0:IntKind.i64.wrap D=D:=Mi;have b1:IntKind.i64.wrap (y+D)=y+D:=Mi;have b2:IntKind.i64.wrap (2*(y+D))=2*(y+D):=Mi;have b3:IntKind.i64.wrap (2*(y+D)+vy)=2*(y+D)+vy:=Mi;have YD:=fun W o=>HH.out W o (2*(x+M)+vx) (2*(y+D)+vy) Mf Mf
   have MX:=VI.out (2*(x+M)+vx) (2*(y+D)+vy);have HC:=lh YD;clear YD;generalize ja f (2*(x+M)+vx) (2*(y+D)+vy)=hv at *
   have QF:∀ z∈[hv],InK .i64 z:=by simp only [mSg,forall_eq,InK];omega
   have Oa:=lh (fun (W:World)=>bg (k:=.i64) (w:=W) (t:=3) (l:=[hv]) rfl Mo QF 1 rfl rfl);have Qj:=lh (show ((jT f x y vx vy k).length+[hv].length)*8<=140737488355328 by rw [MR];simp;omega);have Ni:Hid ((jT f x y vx vy k ++ [hv]).length=k+1):=lh (by rw [Ln,MR];rfl);obtain ⟨ra,RT,rfl,-⟩:=Nc.ints.open;rw [MR] at Nc OO |-
   obtain ⟨r0,r1,r2⟩:=ag (MW.row Nq);obtain ⟨v0,v1,-⟩:=aJ (MW.row Px);clear MR QF MX bM bD;go_wp2_with fail;refine wp_region_held_drew (S:=(fun w'=>w'.cell? ⟨w.heap.size,0,none⟩=some (.int .i64 f.W)/\w'.cell? ⟨w.heap.size,1,none⟩=some (.int .i64 f.H)/\w'.cell? ⟨w.heap.size,2,none⟩=some (.slice a f.pix.length cap)/\w'.cell? ⟨w.heap.size+1,0,none⟩=some (.int .i64 vx)/\w'.cell? ⟨w.heap.size+1,1,none⟩=some (.int .i64 vy))) Mh ?_ (fun hHeld=>?_)
   ·exact ⟨r0,r1,r2,v0,v1⟩
   refine tk 0 52 ?_;refine tk 1 53 ?_;refine tk 2 54 ?_;refine tk 3 55 ?_;refine tk 4 56 ?_;refine tk 5 57 ?_;refine tk 6 58 ?_;refine tk 7 59 ?_;refine tk 8 60 ?_;refine tk 9 61 ?_;refine tk 10 62 ?_;refine tk 11 63 ?_;refine tk 12 64 ?_;refine tk 13 65 ?_;refine tk 14 66 ?_;refine tk 15 67 ?_;refine tk 16 68 ?_;refine tk 17 69 ?_;refine tk 18 70 ?_;refine tk 19 71 ?_;refine rdy (rdc 20 72 (fun K hK=>?_) .nil);go_simp;go_at_call 153;refine (HC.out _ MW.drew).mono ?_;rintro e w5 ⟨rfl,NF⟩;have YF:=(ae.refl [] wr).drew.q NF;have Nz:=lh YF;have Sx:=lh (Nc.quiet YF);have PG:=lh (show w.heap.size+1+1<=w5.heap.size by have:=MW.size;have:=YF.size;have:=Vo.out;omega);have HFs:Hid (bB W2.heap.size (Value.slice ra k RT)):=lh (by rw [Vo.out];exact OO);clear NF;refine hK.out _ _ ?_ (fun hHeld=>?_)
   ·exact ⟨(YF).cell r0 Mg,(YF).cell r1 Mg,(YF).cell r2 Mg,(YF).cell v0 Mg,(YF).cell v1 Mg⟩
   clear hK K
   try simp only [Act.put,Lg,Lj,Lk]
   refine rdy (rdc 21 73 (fun K hK=>?_) .nil);go_simp;refine hK.out _ _ ?_ (fun hHeld=>?_)
   ·exact ⟨(YF.q (ae.new w5 _)).cell r0 Mg,(YF.q (ae.new w5 _)).cell r1 Mg,(YF.q (ae.new w5 _)).cell r2 Mg,(YF.q (ae.new w5 _)).cell v0 Mg,(YF.q (ae.new w5 _)).cell v1 Mg⟩
   clear hK K
   try simp only [Act.put,Lg,Lj,Lk]
   refine rdy (rdc 22 74 (fun K hK=>?_) .nil);refine ce rfl (.tmp 52) (.tmp 73) _ rfl EI (Sx.quiet (ae.new _ _)) rfl (Oa.out _) rfl Qj (Lz PG (ae.new _ _).size) (fun v1 w6 MN Nu=>?_);obtain ⟨x1,OW,OB,_⟩:=MN.ints.open;subst OB;rw [Ni.out] at MN Nu |-
   have Oy:=lh MN;have Od:=lh Nu;have hd6:=(MW.q (Nz.q (ae.new w5 _))).acc Nu HFs;clear MN Nu;refine hK.out _ _ ?_ (fun hHeld=>?_)
   ·obtain ⟨r0,r1,r2⟩:=ag (hd6.row Nq);obtain ⟨v0,v1,-⟩:=aJ (hd6.row Px);exact ⟨r0,r1,r2,v0,v1⟩
   clear hK K
   try simp only [Act.put,Lg,Lj,Lk]
   refine tk 23 11 ?_;refine wpAnyH_done Mh ?_ _;have HD6:=lh hd6;clear hd6;go_wp2_with fail;refine ⟨⟨k+1,Mf,Mm,lh ?_,lh (Od.from_ OO (Lz PG (ae.new _ _).size)),HD6⟩,Mk⟩;rw [Ox.out];exact Oy
  ·obtain rfl:k=64:=Mf
   have Ny:¬ ((64:Nat):Int)<64:=Mf;have JpZ:IntKind.i64.wrap (8*8)=64:=Mn;have MR:=qE f x y vx vy 64;obtain ⟨ra,RT,rfl,-⟩:=Nc.ints.open;rw [MR] at Nc OO |-
   clear MR;go_wp2_with fail;refine MM.out _ _ ⟨_,rfl,?_,Na.q MW.out⟩;rw [<- HB.out];exact Nc.lower Mf
end
set_option linter.unusedVariables false
theorem tR {f prev:ai} (h:FrOk f) {s:SqD} (g:s.kind<2->au prev.pix) {x y:Int} (hx:0<=x) (NA:x+8<=f.W) (hy:0<=y) (NM:y+8<=f.H) (hs:qA s) (qp:Int):FrOk (bf f prev x y qp s):=by
 unfold bf
 split
 ·rename_i h0
  exact lN h hx NA hy NM (aD _ _ _ _ _ _) (cD (g Mf) _ _ _ _ _)
 rename_i h0
 split
 ·rename_i h1
  refine lN h hx NA hy NM ?_ (jR _ _ _);rw [fT (by rw [aD,(hs.large (.inl h1)).1]),aD]
 rename_i h1
 split
 ·rename_i h2
  exact iq (n:=8) h hx NA hy NM (hs.large (.inr h2)).1 Mf _ _
 ·rename_i h2
  have h3:s.kind=3:=by have:=hs.kind;omega
  obtain ⟨a,b,c,d⟩:=hs.small h3;have step:∀ (g:ai) (i:Nat),i<4->FrOk g->g.W=f.W->g.H=f.H->FrOk (cj x y qp s g i)/\(cj x y qp s g i).W=f.W/\(cj x y qp s g i).H=f.H:=by
   intro g i hi hg hgw hgh;refine ⟨(show FrOk (dR g (x+((i % 2:Nat):Int)*4) (y+((i / 2:Nat):Int)*4) 4 (s.modes.getD i 0) qp (s.small.getD i [])) from iq hg Mf Mf Mf Mf ?_ Mf _ _),hgw,hgh⟩;exact (d (s.small.getD i []) (by rw [Le,Lf Mf];exact LM _)).1
  obtain ⟨h0,w0,e0⟩:=step f 0 Mf h rfl rfl;obtain ⟨h1',w1,e1⟩:=step _ 1 Mf h0 w0 e0;obtain ⟨h2',w2,e2⟩:=step _ 2 Mf h1' w1 e1;exact (step _ 3 Mf h2' w2 e2).1
set_option linter.unusedVariables false
theorem yN (n:Nat) (q:Int):cA (List.replicate n 0) q=List.replicate n 0:=by simp [cA]
theorem yr {pix:List Int} {o:Nat} {row:List Int} {i:Nat} (ho:o+row.length<=pix.length) (hi:i<o\/o+row.length<=i):(kG pix o row).getD i 0=pix.getD i 0:=by
 unfold kG;simp only [Le];rcases hi with hi | hi
 ·rw [LR,Lv Mw,LI,if_pos hi]
 ·rw [Lu Mq,LH]
  congr 2
  simp;omega
set_option linter.unusedVariables false
theorem FM {W x y n j i:Nat} {b pix:List Int} (hx:x+n<=W) (hj:j<n) (hp:(y+n)*W<=pix.length) (hi:¬ (x<=i % W/\i % W<x+n/\y<=i / W/\i / W<y+n)) :
  (fC W x y n b pix j).getD i 0=pix.getD i 0/\(fC W x y n b pix j).length=pix.length:=by
 unfold fC;have hc:((b.drop (j*n)).take n).length<=n:=Mq;have ho:(((y:Int)+(j:Int))*(W:Int)+(x:Int)).toNat=(y+j)*W+x:=by
  rw [<- LW,<- Int.natCast_mul,<- LW];exact Int.toNat_natCast _
 rw [ho];have e:(y+j+1)*W=(y+j)*W+W:=Nat.succ_mul _ _;have hb:(y+j)*W+x+n<=pix.length:=by
  have:(y+j+1)*W<=(y+n)*W:=Nat.mul_le_mul_right _ Mf;omega
 generalize (b.drop (j*n)).take n=row at *
 refine ⟨yr Mf ?_,by unfold kG;simp;omega⟩;by_cases h1:i<(y+j)*W+x
 ·exact .inl h1
 ·right
  by_cases h2:i<(y+j)*W+x+n
  ·exfalso
   apply hi
   have JoT:i / W=y+j:=Nat.div_eq_of_lt_le Mf (by rw [e];omega);have JdQ:=Nat.div_add_mod i W;rw [JoT,Nat.mul_comm] at JdQ;rw [JoT];omega
  ·omega
theorem xA {W x y n i:Nat} {b:List Int} (hx:x+n<=W) (hi:¬ (x<=i % W/\i % W<x+n/\y<=i / W/\i / W<y+n)):∀ (k:Nat) {pix:List Int},k<=n->(y+n)*W<=pix.length ->
  ((List.range k).foldl (fC W x y n b) pix).getD i 0=pix.getD i 0/\((List.range k).foldl (fC W x y n b) pix).length=pix.length
 | 0,pix,_,_=>⟨rfl,rfl⟩
 | k+1,pix,hk,hp=>by
  obtain ⟨a,c⟩:=xA hx hi k (pix:=pix) Mf hp;rw [List.range_succ,List.foldl_append];obtain ⟨d,e⟩:=FM (b:=b) (pix:=(List.range k).foldl (fC W x y n b) pix) (j:=k) hx Mf (by rw [c];exact hp) hi;exact ⟨d.trans a,e.trans c⟩
theorem kS {f:ai} {W x y n i:Nat} {b:List Int} (hW:f.W=(W:Int)) (hx:x+n<=W) (hp:(y+n)*W<=f.pix.length) (hi:¬ (x<=i % W/\i % W<x+n/\y<=i / W/\i / W<y+n)) :
  (dz f x y n b).pix.getD i 0=f.pix.getD i 0/\(dz f x y n b).pix.length=f.pix.length/\(dz f x y n b).W=f.W/\(dz f x y n b).H=f.H:=by
 obtain ⟨a,c⟩:=xA (b:=b) hx hi n (Lm _) hp;refine ⟨?_,?_,rfl,rfl⟩
 ·show ((List.range n).foldl (fC f.W x y n b) f.pix).getD i 0=_
  rw [hW];exact a
 ·show ((List.range n).foldl (fC f.W x y n b) f.pix).length=_
  rw [hW];exact c
theorem mq {f:ai} {W x y i k:Nat} {q:Int} {s:SqD} (hk:k<4) (hW:f.W=(W:Int)) (hx:x+8<=W) (hp:(y+8)*W<=f.pix.length) (hi:¬ (x<=i % W/\i % W<x+8/\y<=i / W/\i / W<y+8)) :
  (cj x y q s f k).pix.getD i 0=f.pix.getD i 0/\(cj x y q s f k).pix.length=f.pix.length/\(cj x y q s f k).W=f.W/\(cj x y q s f k).H=f.H:=by
 have ex:((x:Int)+((k % 2:Nat):Int)*4)=((x+k % 2*4:Nat):Int):=Mf;have ey:((y:Int)+((k / 2:Nat):Int)*4)=((y+k / 2*4:Nat):Int):=Mf;unfold cj dR;rw [ex,ey];have hle:(y+k / 2*4+4)*W<=(y+8)*W:=Nat.mul_le_mul_right _ Mf;exact kS hW Mf Mf Mf
theorem DG {f p:ai} {W x y i:Nat} {q:Int} {s:SqD} (hW:f.W=(W:Int)) (hx:x+8<=W) (hp:(y+8)*W<=f.pix.length) (hi:¬ (x<=i % W/\i % W<x+8/\y<=i / W/\i / W<y+8)) :
  (bf f p x y q s).pix.getD i 0=f.pix.getD i 0:=by
 unfold bf
 split
 ·exact (kS hW hx hp hi).1
 ·split
  ·exact (kS hW hx hp hi).1
  ·split
   ·unfold dR
    exact (kS hW hx hp hi).1
   ·simp only [List.range_succ,List.range_zero,List.foldl_append,List.foldl_cons,List.foldl_nil,LQ]
    obtain ⟨a0,b0,c0,d0⟩:=mq (q:=q) (s:=s) (k:=0) Mf hW hx hp hi;obtain ⟨a1,b1,c1,d1⟩:=mq (f:=cj x y q s f 0) (q:=q) (s:=s) (k:=1) Mf (c0.trans hW) hx (by rw [b0];exact hp) hi;obtain ⟨a2,b2,c2,d2⟩:=mq (f:=cj x y q s (cj x y q s f 0) 1) (q:=q) (s:=s) (k:=2) Mf (c1.trans (c0.trans hW)) hx (by rw [b1,b0];exact hp) hi;obtain ⟨a3,b3,c3,d3⟩:=mq (f:=cj x y q s (cj x y q s (cj x y q s f 0) 1) 2) (q:=q) (s:=s) (k:=3) Mf (c2.trans (c1.trans (c0.trans hW))) hx (by rw [b2,b1,b0];exact hp) hi;exact a3.trans (a2.trans (a1.trans a0))
set_option linter.unusedVariables false
theorem Jx {pix:List Int} {o:Nat} {row:List Int} {i:Nat} (ho:o+row.length<=pix.length) (h1:o<=i) (h2:i<o+row.length):(kG pix o row).getD i 0=row.getD (i-o) 0:=by
 unfold kG;simp only [Le];have hl:(pix.take o).length=o:=Mw;rw [LR,Lu Mf,hl,Lv Mf]
theorem Jj {W x y n j i:Nat} {b pix:List Int} (hW:0<W) (hx:x+n<=W) (hj:j<n) (hp:(y+n)*W<=pix.length) (hn:((b.drop (j*n)).take n).length=n) (hi:x<=i % W/\i % W<x+n) :
  (fC W x y n b pix j).length=pix.length/\(i / W=y+j->(fC W x y n b pix j).getD i 0=((b.drop (j*n)).take n).getD (i % W-x) 0)/\(i / W≠y+j->(fC W x y n b pix j).getD i 0=pix.getD i 0):=by
 unfold fC;have ho:(((y:Int)+(j:Int))*(W:Int)+(x:Int)).toNat=(y+j)*W+x:=by
  rw [<- LW,<- Int.natCast_mul,<- LW];exact Int.toNat_natCast _
 rw [ho];have e:(y+j+1)*W=(y+j)*W+W:=Nat.succ_mul _ _;have hb:(y+j)*W+x+n<=pix.length:=by
  have:(y+j+1)*W<=(y+n)*W:=Nat.mul_le_mul_right _ Mf;omega
 generalize (b.drop (j*n)).take n=row at *
 refine ⟨by unfold kG;simp;omega,fun h=>?_,fun h=>?_⟩
 ·have JdQ:=Nat.div_add_mod i W
  rw [h,Nat.mul_comm] at JdQ;rw [Jx Mf Mf Mf]
  congr 1
  omega
 ·apply yr Mf
  by_cases h1:i<(y+j)*W+x
  ·exact .inl h1
  ·right
   by_cases h2:i<(y+j)*W+x+n
   ·exact absurd (Nat.div_eq_of_lt_le Mf (by rw [e];omega)) h
   ·omega
theorem Bn {W x y n i:Nat} {b:List Int} (hW:0<W) (hx:x+n<=W) (hn:∀ j,j<n->((b.drop (j*n)).take n).length=n) (hi:x<=i % W/\i % W<x+n) (hy:y<=i / W):∀ (k:Nat) {pix:List Int},k<=n->(y+n)*W<=pix.length ->
  ((List.range k).foldl (fC W x y n b) pix).length=pix.length/\(i / W<y+k->((List.range k).foldl (fC W x y n b) pix).getD i 0=((b.drop ((i / W-y)*n)).take n).getD (i % W-x) 0)
 | 0,pix,_,_=>⟨rfl,fun h=>Mf⟩
 | k+1,pix,hk,hp=>by
  obtain ⟨a,c⟩:=Bn hW hx hn hi hy k (pix:=pix) Mf hp;rw [List.range_succ,List.foldl_append];obtain ⟨d,e,g⟩:=Jj (b:=b) (pix:=(List.range k).foldl (fC W x y n b) pix) (j:=k) hW hx Mf (by rw [a];exact hp) (hn k Mf) hi;refine ⟨d.trans a,fun h=>?_⟩;by_cases hr:i / W=y+k
  ·refine (e hr).trans ?_
   rw [hr,Nat.add_sub_cancel_left]
  ·exact (g hr).trans (c Mf)
set_option linter.unusedVariables false
theorem mE {α β:Type} (g:α->List β) (k:Nat):∀ (l:List α) (j:Nat) (hj:j<l.length),(∀ x∈l,(g x).length=k)->((l.flatMap g).drop (j*k)).take k=g l[j]
 | a :: l,0,_,h=>by
  rw [Nat.zero_mul,List.drop_zero,List.flatMap_cons];exact List.take_left' (h a List.mem_cons_self)
 | a :: l,j+1,hj,h=>by
  have e:(j+1)*k=(g a).length+j*k:=by rw [h a List.mem_cons_self,Nat.succ_mul,Nat.add_comm]
  rw [e,List.flatMap_cons,List.drop_append,List.drop_eq_nil_of_le Mf,LQ,Nat.add_sub_cancel_left];exact mE g k l j (by simpa using hj) (fun x hx=>h x (Lx _ hx))
end Go.Proofs.YthcafdfdglfabaaGreatDoor
