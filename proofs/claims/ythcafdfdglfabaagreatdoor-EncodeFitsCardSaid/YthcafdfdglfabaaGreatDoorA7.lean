/- Joined texts: DRkU, DRBu, DRBd, DRkSm. Conditions: each part names its own. -/
import Derived.Test.YthcafdfdglfabaaGreatDoorA6
namespace Go.Proofs.YthcafdfdglfabaaGreatDoor
open Go.RowKit
set_option linter.unusedVariables false
set_option linter.unusedSimpArgs false
set_option maxRecDepth 100000
set_option maxHeartbeats 16000000
section
theorem GY {p:Prop} (h:p:=by
 clear hK K
 try simp only [Act.put,Lg,Lj,Lk]
 refine rdy (rdc 11 34 (fun K hK=>?_) .nil);refine ce rfl (.tmp 28) (.tmp 33) _ rfl EI (Pw.quiet RY) rfl ((Oa.out wr).quiet (ae.refl [] _).drew) rfl Qj (Lz (PG.out (.cells #[x] 3)) (Lm _)) (fun v1 w3 MN Nu=>?_);obtain ⟨g1,Pc,Rg,_,_⟩:=MN.form Mg;have Oy:=lh MN;have Od:=lh Nu;have Ps:w3.heap[G]?=some (.cells vs.toArray 22 (0,0)):=Od.only.rowAt (RY.rowAt OJ Mg) (fun hm=>by have:=OO.out G Mu;omega);have cx3:w3.cell? ⟨G,kk,none⟩=some vk:=(by rw [cell_of_row _ _ _ _ _ _ Ps,<- cell_of_row _ _ _ _ _ _ OJ.out];exact cv)
 have fx3:=frozen_of_row w3 G kk _ _ Ps;have SJ:=lh Ps;have c03:=Od.only.cell c0d (fun hm=>by have h1:=OO.out _ Mu;have h2:=Hlb.out;have h3:=HG.out;omega);clear MN Nu Ps;obtain ⟨N1,YC⟩:∃ z,z=(iu b kk k ++ [x]).length:=⟨_,rfl⟩
 rw [<- YC] at Rg;subst Rg;clear YC;have c04:(w3.setCell ⟨G,kk,none⟩ (.slice (some ⟨g1,0,none⟩) N1 Pc)).cell? ⟨lb,off+k,none⟩=some (.int .i64 x):=((ae.refl [G] w3).setCell Mg _).cell c03 (by rw [mSg];simp only;have h2:=Hlb.out;have h3:=HG.out;omega);refine hK.out _ _ ?_ (fun hHeld=>?_)
 ·exact c03
 clear hK K
 try simp only [Act.put,Lg,Lj,Lk]
 refine tk 12 35 ?_;refine rdy (rdn 13 (fun K hK=>?_) .nil);go_simp;refine hK.out _ _ ?_ (fun hHeld=>?_)
 ·exact c04
 clear hK K
 try simp only [Act.put,Lg,Lj,Lk]
 refine wpAnyH_done Mh ?_ _;go_wp2_with fail;have Qg:=heap_setCell_same w3 G kk _ _ (.slice (some ⟨g1,0,none⟩) N1 Pc) SJ;rw [Lg] at Qg;have hso:ae [G] w3 (w3.setCell ⟨G,kk,none⟩ (.slice (some ⟨g1,0,none⟩) N1 Pc)):=(ae.refl _ _).setCell Mg _;have hA:Acc (vs.getD kk aj) ((wr.alloc (.cells #[x] 3)).drew) (.slice (some ⟨g1,0,none⟩) N1 Pc) w3:=by rw [<- Hvk.out];exact Od
 have JdL:=((RF.quiet RY).grow (L':=fun j=>iu b j (k+1)) XG hA (by rw [HM1.out];exact Oy) (fun j hj OT=>HM2.out j hj OT)).out hso Mf;refine ⟨⟨k+1,vs.set kk (.slice (some ⟨g1,0,none⟩) N1 Pc),Mf,Mm,lh Qg,lh JdL,lh (fun j=>?_),lh ?_⟩,Mk⟩
 ·by_cases TZ:j=kk
  ·subst TZ
   rw [dt (by rw [Hvl.out];exact XG)];exact Od.from_ OO (PG.out _)
  ·rw [eh TZ];exact Qv.out j
 ·exact (MW.trans (RY.trans Od.only (U:=vk.ownBlock.toList) Mg (fun g h _=>h)) (U:=[G]) (fun _ h _=>h) (fun g hg MO=>by have h1:=OO.out g Mt;have h2:=Ul.out;omega)).trans hso (fun _ h _=>h) (fun _ h _=>h)):p:=h
theorem vg {lo hi:Nat} {bv:Value} {b:List Int} {w:World} (h:ah .i64 lo hi w bv b) (lb:b.length=64) :
  Calls Tryz.prog 158 #[bv] w fun e w'=>∃ vs,e=.returned (.tuple #[.slice (some ⟨w.heap.size+1,0,none⟩) 4 4,.agg #[(),JEu]])/\w'.heap[w.heap.size+1]?=some (.cells vs.toArray 22 (0,0))/\oN (w.heap.size+1+1) w' vs (fun j=>av b j)/\ae [] w w':=by
 refine aN fun Q MM=>?_
 have hI:=h.2;have PX:=lh (fun k:Nat=>(by
  by_cases hk:k<b.length
  ·exact h.2 _ (by rw [Le,Lf hk];exact LM _)
  ·rw [Le,List.getElem?_eq_none Mf];simp [InK]:InK .i64 (b.getD k 0)))
 obtain ⟨la,Nn,rfl,-,-,Pd,MZ⟩:=h.open;rw [lb] at Pd MZ |-
 have Sp:=lh Pd;have NX:=lh MZ;have Qx:=lh (um b);have OX:=lh (ym b);have Jii:=lh (fun j (h:j<4)=>yl b h);have hz:(w.alloc (.cells #[(),JEu] 39)).heap.size=w.heap.size+1:=Mg;have Rc:(Instr.makeSlice 221 (.int .i64 4) (.int .i64 4)).run Tryz.prog (w.alloc (.cells #[(),JEu] 39))=.ok (.slice (some ⟨(w.alloc (.cells #[(),JEu] 39)).heap.size,0,none⟩) 4 4) ((w.alloc (.cells #[(),JEu] 39)).alloc (.cells (madeCells #[JEu] 4) 22)):=run_make_row' (P:=Tryz.prog) 221 22 (.slice none 0 0) 24 Tryz.underlying221 Mh rfl .i64 .i64 4 Mf Mf (w.alloc (.cells #[(),JEu] 39));have hm4:madeCells #[JEu] 4=[aj,aj,aj,aj].toArray:=Mh;have RI:=lh (heap_alloc_new (w.alloc (.cells #[(),JEu] 39)) (.cells (madeCells #[JEu] 4) 22));rw [hm4] at Rc RI;rw [hz] at Rc RI;have XQ:Hid (((w.alloc (.cells #[(),JEu] 39)).alloc (.cells [aj,aj,aj,aj].toArray 22)).heap[w.heap.size]?=some (.cells #[(),JEu] 39 (0,0))):=lh ((ae.new (w.alloc (.cells #[(),JEu] 39)) _).row (heap_alloc_new w _));have WR:=lh ((ae.new w (.cells #[(),JEu] 39)).q (ae.new (w.alloc (.cells #[(),JEu] 39)) (.cells [aj,aj,aj,aj].toArray 22)));have Ul:Hid (((w.alloc (.cells #[(),JEu] 39)).alloc (.cells [aj,aj,aj,aj].toArray 22)).heap.size=w.heap.size+1+1):=lh Mg;clear h lb hI Pd MZ hm4 hz;go_enter Tryz.func158,Tryz.ntmps158;go_wp2_with fail;clear Rc;generalize NB:World.alloc (World.alloc w _) _=W1 at *
 clear NB;obtain ⟨G,hG⟩:∃ z,z=w.heap.size+1:=⟨_,rfl⟩
 rw [<- hG] at RI Ul MM |-
 have HG:=lh hG;clear hG;go_loopw [5,6] (fun i _ wr=>∃ (k:Nat) (vs:List Value),k<=64/\i=.int .i64 k/\Hid (wr.heap[G]?=some (.cells vs.toArray 22 (0,0)))/\Hid (oN (G+1) wr vs (fun j=>iu b j k))/\Hid (∀ j,bB (G+1) (vs.getD j aj))/\Hid (ae [G] W1 wr)) (fun i _ _=>64-(intOf i).toNat)
 case atStart=>exact ⟨0,[aj,aj,aj,aj],Mf,rfl,lh RI.out,lh ⟨rfl,fun j hj=>(by match j,hj with
  | 0,_=>exact Own.nil _ _ _ _
  | 1,_=>exact Own.nil _ _ _ _
  | 2,_=>exact Own.nil _ _ _ _
  | 3,_=>exact Own.nil _ _ _ _),fun i j hi hj hij g hg=>(by match i,hi with
  | 0,_=>simp [Value.ownBlock] at hg
  | 1,_=>simp [Value.ownBlock] at hg
  | 2,_=>simp [Value.ownBlock] at hg
  | 3,_=>simp [Value.ownBlock] at hg)⟩,lh (fun j=>(by match j with
  | 0=>exact bB.nil _
  | 1=>exact bB.nil _
  | 2=>exact bB.nil _
  | 3=>exact bB.nil _
  | (n+4)=>exact bB.nil _)),lh (ae.refl _ _)⟩
 case round =>
  obtain ⟨k,vs,hk,rfl,OJ,RF,Qv,MW⟩:=hrel;by_cases MO:k<64
  ·have Ny:(k:Int)<64:=Mf
   have NU:(0:Int)<=(k:Int):=Mf;obtain ⟨lb,off,rfl,-,-⟩:=Sp.out k MO;have c1:=NX.out lb off rfl k MO;have hlb:=block_lt_of_cell c1;have c0:=MW.cell (WR.cell c1 Mg) (by rw [mSg];simp only;simp only at hlb;have:=HG.out;omega);have HK4:Hid (rW k<4):=lh (by unfold rW;omega);obtain ⟨kk,Un⟩:∃ z,z=rW k:=⟨_,rfl⟩
   have d1:(k:Int).tdiv 32=((k / 32:Nat):Int):=by rw [Int.tdiv_eq_ediv_of_nonneg NU];rfl
   have d2:(k:Int).tmod 8=((k % 8:Nat):Int):=by rw [LX NU];rfl
   have d3:((k % 8:Nat):Int).tdiv 4=((k % 8 / 4:Nat):Int):=by rw [Int.tdiv_eq_ediv_of_nonneg Mf];rfl
   have d4:IntKind.i64.wrap ((k / 32:Nat):Int)=((k / 32:Nat):Int):=Mi;have d5:IntKind.i64.wrap (((k / 32:Nat):Int)*2)=((k / 32:Nat):Int)*2:=Mi;have d6:IntKind.i64.wrap ((k % 8 / 4:Nat):Int)=((k % 8 / 4:Nat):Int):=Mi;have d7:IntKind.i64.wrap (((k / 32:Nat):Int)*2+((k % 8 / 4:Nat):Int))=(kk:Int):=by rw [Un,Ll];unfold rW;omega
   generalize ((k / 32:Nat):Int)=D1 at *
   generalize ((k % 8:Nat):Int)=D2 at *
   generalize ((k % 8 / 4:Nat):Int)=D3 at *
   rw [<- Un] at HK4;have XG:kk<4:=HK4.out;have Jup:(kk:Int)<4:=Mf;have Juq:(0:Int)<=(kk:Int):=Mf;have hvl:=RF.len;have cv:wr.cell? ⟨G,kk,none⟩=some (vs.getD kk aj):=by
    rw [cell_of_row _ _ _ _ _ _ OJ.out,List.getElem?_toArray,Le,Lf Mf];rfl
   have Pw:=lh (RF.own kk XG);have OO:=lh (Qv.out kk);have hx:=PX.out k;have HM1:Hid (iu b kk (k+1)=iu b kk k ++ [b.getD k 0]):=lh (by rw [Qx.out,if_pos Un.symm]);have HM2:Hid (∀ j,j<4->j≠kk->iu b j (k+1)=iu b j k):=lh (fun j hj OT=>by rw [Qx.out,if_neg (fun e=>OT (by rw [Un,e]))]);generalize b.getD k 0=x at *
   have MX:∀ y∈[x],InK .i64 y:=by simp only [mSg,forall_eq];exact hx
   have Oa:=lh (fun (W:World)=>bg (k:=.i64) (w:=W) (t:=3) (l:=[x]) rfl Mo MX 1 rfl rfl);have Qj:=lh (show ((iu b kk k).length+[x].length)*8<=140737488355328 by have:=OX.out kk k;simp;omega);have PG:=lh (fun (o:Obj)=>(show G+1<=(wr.alloc o).heap.size by have:=MW.size;have:=Ul.out;simp;omega));have Hvl:=lh hvl;have HCv:=lh cv;obtain ⟨vk,hvk⟩:∃ z,z=vs.getD kk aj:=⟨_,rfl⟩
   rw [<- hvk] at cv Pw OO;have Hvk:=lh hvk;have Hlb:Hid (lb<w.heap.size):=lh hlb;clear MX hx hvl hlb c1 Un hvk;have RY:=lh ((ae.new wr (.cells #[x] 3)).drew);have c0d:=RY.cell c0 Mg;have cvd:=RY.cell cv Mg;go_upto_region 8 with (fail)
   refine wp_region_held_drew (S:=(fun w'=>w'.cell? ⟨lb,off+k,none⟩=some (.int .i64 x))) Mh ?_ (fun hHeld=>?_)
   ·exact c0
   refine tk 0 23 ?_;refine tk 1 24 ?_;refine tk 2 25 ?_;refine tk 3 26 ?_;refine tk 4 27 ?_;refine tk 6 29 ?_;refine tk 7 30 ?_;refine tk 8 31 ?_;refine tk 9 32 ?_;refine rdy (rdc 5 28 (fun K hK=>?_) (rdc 10 33 (fun K hK=>?_) .nil))
   ·go_simp
    refine hK.out _ _ ?_ (fun hHeld=>?_)
    ·first | exact c0 | exact c0d
    clear hK K
    try simp only [Act.put,Lg,Lj,Lk]
    refine rdy (rdc 10 33 (fun K hK=>?_) .nil);go_simp;refine hK.out _ _ ?_ (fun hHeld=>?_)
    ·exact c0d
    exact GY
   ·go_simp
    refine hK.out _ _ ?_ (fun hHeld=>?_)
    ·exact c0d
    clear hK K
    try simp only [Act.put,Lg,Lj,Lk]
    refine rdy (rdc 5 28 (fun K hK=>?_) .nil);go_simp;refine hK.out _ _ ?_ (fun hHeld=>?_)
    ·first | exact c0 | exact c0d
    exact GY
  ·obtain rfl:k=64:=Mf
   have Ny:¬ ((64:Nat):Int)<64:=Mf;have Xk:=MW.rowAt XQ (by rw [mSg];have:=HG.out;omega);obtain ⟨z0,z1,y0,y1,-⟩:=aJ Xk;obtain ⟨MS,Nd⟩:=aH (x:=.int .i64 0) (y:=.slice none 0 0) Xk;go_wp2_with fail;refine bodyPost_ret (aA Tryz.results158 _ _ w.heap.size _ _ _ _ _ rfl rfl MS Tryz.underlying39 rfl (aR _ rfl)) rfl (MM.out _ _ ⟨vs,rfl,Nd.rowAt OJ.out (by rw [mSg];have:=HG.out;omega),?_,?_⟩)
   ·have hf:=RF.out.out Nd (by have:=HG.out;omega)
    refine ⟨hf.len,fun j hj=>?_,hf.apart⟩;rw [<- Jii.out j hj];exact hf.own j hj
   ·exact (WR.trans MW (U:=[]) Mg (fun g hg MO=>by rw [mSg] at hg;have:=HG.out;omega)).trans Nd Mg (fun g hg MO=>Mj)
end
section
theorem jD {f:ai} (h:FrOk f) {x y:Int} {n:Nat} (hx:0<=x) (NA:x+n<=f.W) (hy:0<=y) (NM:y+n<=f.H) {b:List Int} (hb:b.length=n*n) (hs:au b):(dz f x y n b).pix.length=f.pix.length:=by
 have h1:=(lN h hx NA hy NM hb hs).len;have h2:=h.len;have h3:(dz f x y n b).W=f.W:=rfl;have h4:(dz f x y n b).H=f.H:=rfl;rw [h3,h4] at h1;omega
theorem FrOk.pos {f:ai} (MU:FrOk f):0<f.pix.length/\f.pix.length<=1000000:=by
 have e1:=MU.len;have e2:=MU.w0;have e3:=MU.h0;have e4:=MU.w1;have e5:=MU.h1;have e6:8*8<=f.W*f.H:=Int.mul_le_mul e2 e3 Mf Mf;have e7:f.W*f.H<=32*32:=Int.mul_le_mul e4 e5 Mf Mf;omega
theorem Gu {p:Prop} (h:p:=by
 go_enter Tryz.func107,Tryz.ntmps107;go_wp2_with fail;generalize NB:World.alloc (World.alloc w _) _=W1 at *
 clear NB;go_at_call 168;refine (HPu.out W1 MT).mono ?_;rintro e w2 ⟨v2,rfl,MQ,MV⟩;obtain ⟨g,Ot,rfl,OL,Nl⟩:=MQ.form (by have:=Vl.out;omega);rw [Vl.1] at MQ |-
 have hn:=(ae.new w2 (.cells #[f.W,f.H,.slice (some ⟨g,0,none⟩) f.pix.length Ot] 24)).q (ae.new _ (.cells #[(),JEu] 39));have SJ:=lh ((MV.q hn).row Px);obtain ⟨z0,z1,z2⟩:=ag SJ;have fz0:=frozen_of_row _ _ 0 _ _ SJ;have fz1:=frozen_of_row _ _ 1 _ _ SJ;have fz2:=frozen_of_row _ _ 2 _ _ SJ;obtain ⟨MS,Nd⟩:=fd (x:=.int .i64 f.W) (y:=.int .i64 f.H) (z:=.slice (some ⟨g,0,none⟩) f.pix.length Ot) SJ;have Ql:=lh (MQ.quiet hn);have Nf:=lh (MT.q (MV.q hn));have Si:=lh MS;have Hon:=lh Nd;have Hg:=lh OL;clear MQ MV hn OL Nl MS Nd;go_wp2_with fail;refine bodyPost_ret (v:=.agg #[f.W,f.H,.slice (some ⟨g,0,none⟩) f.pix.length Ot]) (results_cell_row Tryz.results107 _ _ (w.heap.size+1) _ _ _ _ rfl Si Tryz.underlying24 rfl Mh) rfl (MM.out _ _ ⟨_,rfl,?_,?_⟩)
 ·exact (Ql.only Hon (fun x hx hh=>by rw [mSg] at hx;subst hx;simp only [Value.ownBlock] at hh;injection hh with hh;have:=Hg.out;have:=PO.out;omega)).lower MT.size
 ·exact Nf.trans Hon (U:=[]) Mg (fun x hx MO=>Mr)):p:=h
theorem xr {lo hi lo' hi':Nat} {pv bv:Value} {w:World} {f:ai} {x y:Int} {b:List Int} (MU:FrOk f) (h:ah .i64 lo hi w pv f.pix) (hb:ah .i64 lo' hi' w bv b) (NS:b.length=16) (RJ:au b) (hx:0<=x) (NA:x+4<=f.W) (hy:0<=y) (NM:y+4<=f.H):Calls Tryz.prog 107 #[.agg #[f.W,f.H,pv],x,y,.int .i64 4,bv] w fun e w'=>(∃ v',e=.returned (.agg #[f.W,f.H,v'])/\Own .i64 3 w.heap.size w' v' (dz f x y 4 b).pix/\ae [] w w'):=by
 refine aN fun Q MM=>?_
 obtain ⟨a,cap,rfl,-⟩:=h.open;obtain ⟨MP,Nq,Px,PO⟩:=jl w (.cells #[f.W,f.H,.slice a f.pix.length cap] 24) (.cells #[(),(),JEu] 24);have HPu:=lh (fun (W:World) (o:ae [] w W)=>Dy MU (h.quiet o) (hb.quiet o) NS RJ hx NA hy NM);have Vl:Hid ((dz f x y 4 b).pix.length=f.pix.length/\0<f.pix.length):=lh ⟨jD (n:=4) MU hx NA hy NM NS RJ,MU.pos.1⟩;have MT:=lh MP;obtain ⟨ba,VT,rfl,-⟩:=hb.open;clear h hb NS RJ MU hx NA hy NM MP;generalize (dz f x y 4 b).pix=LP at *
 exact Gu
theorem ro {lo hi lo' hi':Nat} {pv bv:Value} {w:World} {f:ai} {x y:Int} {b:List Int} (MU:FrOk f) (h:ah .i64 lo hi w pv f.pix) (hb:ah .i64 lo' hi' w bv b) (NS:b.length=64) (RJ:au b) (hx:0<=x) (NA:x+8<=f.W) (hy:0<=y) (NM:y+8<=f.H):Calls Tryz.prog 107 #[.agg #[f.W,f.H,pv],x,y,.int .i64 8,bv] w fun e w'=>(∃ v',e=.returned (.agg #[f.W,f.H,v'])/\Own .i64 3 w.heap.size w' v' (dz f x y 8 b).pix/\ae [] w w'):=by
 refine aN fun Q MM=>?_
 obtain ⟨a,cap,rfl,-⟩:=h.open;obtain ⟨MP,Nq,Px,PO⟩:=jl w (.cells #[f.W,f.H,.slice a f.pix.length cap] 24) (.cells #[(),(),JEu] 24);have HPu:=lh (fun (W:World) (o:ae [] w W)=>Dz MU (h.quiet o) (hb.quiet o) NS RJ hx NA hy NM);have Vl:Hid ((dz f x y 8 b).pix.length=f.pix.length/\0<f.pix.length):=lh ⟨jD (n:=8) MU hx NA hy NM NS RJ,MU.pos.1⟩;have MT:=lh MP;obtain ⟨ba,VT,rfl,-⟩:=hb.open;clear h hb NS RJ MU hx NA hy NM MP;generalize (dz f x y 8 b).pix=LP at *
 exact Gu
theorem mM {lo hi:Nat} {pv:Value} {w:World} {f:ai} {x y:Int} {n:Nat} {mode:Int} (MU:FrOk f) (h:ah .i64 lo hi w pv f.pix) (hn:n=4\/n=8) (hm:0<=mode/\mode<=3) (hx:0<=x) (NA:x+n<=f.W) (hy:0<=y) (NM:y+n<=f.H):Calls Tryz.prog 110 #[.agg #[f.W,f.H,pv],x,y,n,mode] w fun e w'=>((∃ v',e=.returned v'/\Own .i64 3 w.heap.size w' v' (bj mode (cZ f x y n) (bU f x y n) (aB f (x-1) (y-1))))/\ae [] w w'):=by
 refine aN fun Q MM=>?_
 obtain ⟨a,cap,rfl,-⟩:=h.open;have MP:=ae.new w (.cells #[f.W,f.H,.slice a f.pix.length cap] 24);have HE:=lh (mY MU (h.quiet MP) x y n hn hx NA hy NM);have hti:=ix MU.sam x y n;have hli:=fX MU.sam x y n;have hci:=eo MU.sam (x-1) (y-1);have Xp:=cH f x y n;have Qn:=iA f x y n;have Ug:Hid (∀ (lo1 hi1 TQ RK:Nat) (v1 v2:Value) (W:World),ah .i64 lo1 hi1 W v1 (cZ f x y n)->ah .i64 TQ RK W v2 (bU f x y n)->Calls Tryz.prog 99 #[mode,v1,v2,.int .i64 (aB f (x-1) (y-1))] W fun e w'=>(∃ v',e=.returned (.tuple #[v',.agg #[(),JEu]])/\Own .i64 3 W.heap.size w' v' (bj mode (cZ f x y n) (bU f x y n) (aB f (x-1) (y-1))))/\ae [] W w'):=lh (fun _ _ _ _ _ _ W h1 h2=>by
  rcases hn with rfl | rfl
  ·exact jq h1 h2 Xp Qn hti hli hci hm
  ·exact jr h1 h2 Xp Qn hti hli hci hm)
 have HLt:Hid ((cZ f x y n).length=n/\(bU f x y n).length=n/\0<n):=lh ⟨Xp,Qn,Mf⟩;have Nq:Hid ((w.alloc (.cells #[f.W,f.H,.slice a f.pix.length cap] 24)).heap[w.heap.size]?=some (.cells #[f.W,f.H,.slice a f.pix.length cap] 24 (0,0))):=lh (heap_alloc_new w _);have MT:=lh MP;clear h MP hti hli hci Xp Qn MU hx NA hy NM hn hm;generalize bj mode (cZ f x y n) (bU f x y n) (aB f (x-1) (y-1))=PD at *
 generalize cZ f x y n=T at *
 generalize bU f x y n=L at *
 generalize aB f (x-1) (y-1)=cn at *
 go_enter Tryz.func110,Tryz.ntmps110;obtain ⟨r0,r1,r2⟩:=ag Nq;go_wp2_with fail;generalize NB:World.alloc w _=W1 at *
 clear NB r0 r1 r2;go_at_call 97;refine HE.mono ?_;rintro e w2 ⟨v1,v2,rfl,MN,Om,MV⟩;obtain ⟨g1,c1,rfl,-,-⟩:=MN.form (by have:=HLt.out;omega);obtain ⟨g2,c2,rfl,-,-⟩:=Om.form (by have:=HLt.out;omega);have Oy:=lh MN;have Sb:=lh Om;have Na:=lh MV;clear MN Om MV;go_wp2_with fail;go_at_call 99;refine (Ug.out _ _ _ _ _ _ w2 Oy.ints Sb.ints).mono ?_;rintro e w3 ⟨⟨v3,rfl,MQ⟩,Nb⟩;have Ql:=lh (MQ.quiet (ae.new w3 (.cells #[(),JEu] 39)));have Nf:=lh (Na.q (Nb.q (ae.new w3 (.cells #[(),JEu] 39))));have Hz2:=lh Na.size;clear MQ Nb;go_wp2_with fail;refine MM.out _ _ ⟨⟨_,rfl,?_⟩,MT.q Nf.out⟩;exact Ql.lower (Lz MT.size Hz2)
end
section
theorem Gr {p:Prop} (h:p:=by
 exact (HOp.only Hon (fun x hx hh=>by rw [mSg] at hx;subst hx;simp only [Value.ownBlock] at hh;injection hh with hh;have:=Hg.out;have:=PO.out;omega)).lower MT.size):p:=h
theorem Gp {p:Prop} (h:p:=by
 clear hK K
 try simp only [Act.put,Lg,Lj,Lk]
 refine wpAnyH_done Mh ?_ _;go_wp2_with fail;refine bodyPost_ret (v:=.agg #[f.W,f.H,.slice (some ⟨g,0,none⟩) f.pix.length Ot]) (results_cell_row Tryz.results42 _ _ (w.heap.size+1+1+1) _ _ _ _ rfl Si Tryz.underlying24 rfl Mh) rfl (MM.out _ _ ⟨_,rfl,?_,?_⟩)
 ·exact Gr
 ·exact (MT.q HQp).trans Hon (U:=[]) Mg (fun x hx MO=>Mr)):p:=h
theorem xf {lo hi TQ RK lo3 XF:Nat} {pv qv lv:Value} {vs:List Value} {w:World} {f prev:ai} {x y mo vx vy:Int} {ms L:List Int} {SL:List (List Int)} {q:Nat} {YZ:Nat} (MU:FrOk f) (h:ah .i64 lo hi w pv f.pix) (hp:ah .i64 TQ RK w qv prev.pix) (hs:dU lo3 XF w lv vs L SL) (hm:ms.length=4) (hq:q<=15) (hx:0<=x) (NA:x+8<=f.W) (hy:0<=y) (NM:y+8<=f.H) (hpo:FrOk prev):Calls Tryz.prog 42 #[.agg #[f.W,f.H,pv],.agg #[prev.W,prev.H,qv],x,y,q,.agg (sqL 0 mo ms vx vy lv vs).toArray] w fun e w'=>(∃ v',e=.returned (.agg #[f.W,f.H,v'])/\Own .i64 3 w.heap.size w' v' (bf f prev x y q ⟨0,YZ,ms,vx,vy,L,SL⟩).pix/\ae [] w w'):=by
 refine aN fun Q MM=>?_
 obtain ⟨a,cap,rfl,-⟩:=h.open;obtain ⟨pa,NR,rfl,-⟩:=hp.open;obtain ⟨m0,m1,m2,m3,rfl⟩:=gH hm;have Xf:=hs.one;obtain ⟨s0,s1,s2,s3,rfl⟩:=gH hs.len;obtain ⟨MP,OY,PU,Oj,Ss,PO⟩:=uO w (.cells #[f.W,f.H,.slice a f.pix.length cap] 24) (.cells #[prev.W,prev.H,.slice pa prev.pix.length NR] 24) (.cells (sqL 0 mo [m0,m1,m2,m3] vx vy lv [s0,s1,s2,s3]).toArray 91) (.cells #[(),(),JEu] 24);have Oi:=lh (fun (W:World) (o:ae [] w W)=>gG hpo (hp.quiet o) x y 0 0 ⟨hx,by have:=MU.w1;omega⟩ ⟨hy,by have:=MU.h1;omega⟩ Mf Mf);have NS:=aD prev x y 8 0 0;have RJ:=cD hpo.sam x y 8 0 0;have HPu:Hid (∀ (W:World),ae [] w W->∀ (lo1:Nat) (v:Value) ,Own .i64 3 lo1 W v (ar prev x y 8 0 0)->_):=lh (fun W o _ v hb=>ro MU (h.quiet o) hb.ints NS RJ hx NA hy NM);have Vl:Hid ((dz f x y 8 (ar prev x y 8 0 0)).pix.length=f.pix.length/\0<f.pix.length):=lh ⟨jD (n:=8) MU hx NA hy NM NS RJ,MU.pos.1⟩;have MT:=lh MP;clear MP h hp;simp only [sqL,Ma,Mb,List.cons_append,LQ] at OY PU Oj Ss PO MT |-
 go_enter Tryz.func42,Tryz.ntmps42;go_wp2_with fail;generalize NB:World.alloc (World.alloc (World.alloc (World.alloc w _) _) _) _=W1 at *
 clear NB;obtain ⟨r0,r1,r2⟩:=ag OY;obtain ⟨p0,p1,p2⟩:=ag PU;have c0:=cell_of_row _ _ 0 _ _ _ Oj;simp at c0;go_wp2_with fail;refine wp_region_held_drew (S:=(fun w'=>w'.cell? ⟨w.heap.size,0,none⟩=some (.int .i64 f.W)/\w'.cell? ⟨w.heap.size,1,none⟩=some (.int .i64 f.H)/\w'.cell? ⟨w.heap.size,2,none⟩=some (.slice a f.pix.length cap)/\w'.cell? ⟨w.heap.size+1,0,none⟩=some (.int .i64 prev.W)/\w'.cell? ⟨w.heap.size+1,1,none⟩=some (.int .i64 prev.H)/\w'.cell? ⟨w.heap.size+1,2,none⟩=some (.slice pa prev.pix.length NR))) Mh ?_ (fun hHeld=>?_)
 ·exact ⟨r0,r1,r2,p0,p1,p2⟩
 refine tk 0 20 ?_;refine tk 1 21 ?_;refine tk 2 22 ?_;refine tk 3 23 ?_;refine tk 4 24 ?_;refine tk 5 25 ?_;refine tk 6 26 ?_;refine rdy (rdc 7 27 (fun K hK=>?_) .nil);go_simp;go_at_call 94;refine (Oi.out _ MT.drew).mono ?_;rintro e w5 ⟨v5,rfl,Oo,NF⟩;have o5:=(ae.refl [] W1).drew.q NF;obtain ⟨g5,c5,rfl,-,-⟩:=Oo.form Mx;rw [aD] at Oo |-
 refine hK.out _ _ ?_ (fun hHeld=>?_)
 ·exact ⟨(o5).cell r0 Mg,(o5).cell r1 Mg,(o5).cell r2 Mg,(o5).cell p0 Mg,(o5).cell p1 Mg,(o5).cell p2 Mg⟩
 clear hK K
 try simp only [Act.put,Lg,Lj,Lk]
 refine rdy (rdc 8 28 (fun K hK=>?_) .nil);go_simp;go_at_call 107;refine (HPu.out _ (MT.q o5) _ _ Oo).mono ?_;rintro e w6 ⟨vp,rfl,Pv,hqp⟩;obtain ⟨g,Ot,rfl,OL,Nl⟩:=Pv.form (by have:=Vl.out;omega);rw [Vl.1] at Pv |-
 have op:=(o5).q hqp;have Ps:=op.row Ss;obtain ⟨z0,z1,z2⟩:=ag Ps;have fz0:=frozen_of_row _ _ 0 _ _ Ps;have fz1:=frozen_of_row _ _ 1 _ _ Ps;have fz2:=frozen_of_row _ _ 2 _ _ Ps;obtain ⟨MS,Nd⟩:=fd (x:=.int .i64 f.W) (y:=.int .i64 f.H) (z:=.slice (some ⟨g,0,none⟩) f.pix.length Ot) Ps;have Hg:Hid (W1.heap.size<=g):=lh (Lz (o5).size OL);have HOp:=lh (Pv.lower (o5).size);have HQp:=lh op;have Si:=lh MS;have Hon:=lh Nd;clear Pv hqp OL Nl MS Ps;refine hK.out _ _ ?_ (fun hHeld=>?_)
 ·exact ⟨(op).cell r0 Mg,(op).cell r1 Mg,(op).cell r2 Mg,(op).cell p0 Mg,(op).cell p1 Mg,(op).cell p2 Mg⟩
 clear hK K
 try simp only [Act.put,Lg,Lj,Lk]
 refine rdy (rdn 9 (fun K hK=>?_) .nil);go_simp;refine hK.out _ _ ?_ (fun hHeld=>?_)
 ·exact ⟨Nd.cell (op.cell r0 Mg) (by simp;try omega),Nd.cell (op.cell r1 Mg) (by simp;try omega),Nd.cell (op.cell r2 Mg) (by simp;try omega),Nd.cell (op.cell p0 Mg) (by simp;try omega),Nd.cell (op.cell p1 Mg) (by simp;try omega),Nd.cell (op.cell p2 Mg) (by simp;try omega)⟩
 exact Gp
theorem xg {lo hi TQ RK lo3 XF:Nat} {pv qv lv:Value} {vs:List Value} {w:World} {f prev:ai} {x y mo vx vy:Int} {ms L:List Int} {SL:List (List Int)} {q:Nat} {YZ:Nat} (MU:FrOk f) (h:ah .i64 lo hi w pv f.pix) (hp:ah .i64 TQ RK w qv prev.pix) (hs:dU lo3 XF w lv vs L SL) (hm:ms.length=4) (hq:q<=15) (hx:0<=x) (NA:x+8<=f.W) (hy:0<=y) (NM:y+8<=f.H) (hpo:FrOk prev) (hLl:L.length=64) (hLv:cu L) (hv:-15<=vx/\vx<=15/\-15<=vy/\vy<=15):Calls Tryz.prog 42 #[.agg #[f.W,f.H,pv],.agg #[prev.W,prev.H,qv],x,y,q,.agg (sqL 1 mo ms vx vy lv vs).toArray] w fun e w'=>(∃ v',e=.returned (.agg #[f.W,f.H,v'])/\Own .i64 3 w.heap.size w' v' (bf f prev x y q ⟨1,YZ,ms,vx,vy,L,SL⟩).pix/\ae [] w w'):=by
 refine aN fun Q MM=>?_
 obtain ⟨a,cap,rfl,-⟩:=h.open;obtain ⟨pa,NR,rfl,-⟩:=hp.open;obtain ⟨m0,m1,m2,m3,rfl⟩:=gH hm;have Xf:=hs.one;obtain ⟨s0,s1,s2,s3,rfl⟩:=gH hs.len;obtain ⟨MP,OY,PU,Oj,Ss,PO⟩:=uO w (.cells #[f.W,f.H,.slice a f.pix.length cap] 24) (.cells #[prev.W,prev.H,.slice pa prev.pix.length NR] 24) (.cells (sqL 1 mo [m0,m1,m2,m3] vx vy lv [s0,s1,s2,s3]).toArray 91) (.cells #[(),(),JEu] 24);have Oi:=lh (fun (W:World) (o:ae [] w W)=>gG hpo (hp.quiet o) x y vx vy ⟨hx,by have:=MU.w1;omega⟩ ⟨hy,by have:=MU.h1;omega⟩ ⟨hv.1,hv.2.1⟩ ⟨hv.2.2.1,hv.2.2.2⟩);have WE:cu L:=hLv;have Qw:Hid ((ar prev x y 8 vx vy).length=64/\(bZ L q).length=64):=lh ⟨aD _ _ _ _ _ _,by rw [fP,hLl]⟩;have hRa:cN 401080320 (bZ L q):=gJ (by rw [dP];omega) (ig hLv hq);have Ou:=lh (fun (W:World) (o:ae [] w W)=>lJ (hs.large.quiet o) Mf hLv q hq);have QN:Hid (∀ (W:World) (b5 b6:Nat) (v5 v6:Value),Own .i64 3 b5 W v5 (ar prev x y 8 vx vy)->Own .i64 3 b6 W v6 (bZ L q)->_):=lh (fun W b5 b6 v5 v6 h5 h6=>jZ h5.ints h6.ints (by rw [Qw.1,Qw.2]) (by rw [Qw.1];omega) (cD hpo.sam _ _ _ _ _) hRa);have NS:(dW (ar prev x y 8 vx vy) (bZ L q)).length=64:=by rw [iz (by rw [Qw.1,Qw.2]),Qw.1]
 have RJ:au (dW (ar prev x y 8 vx vy) (bZ L q)):=jR _ _ _;have Ri:=lh NS;have HPu:Hid (∀ (W:World),ae [] w W->∀ (lo1:Nat) (v:Value),Own .i64 3 lo1 W v (dW (ar prev x y 8 vx vy) (bZ L q))->_):=lh (fun W o _ v hb=>ro MU (h.quiet o) hb.ints NS RJ hx NA hy NM);have Vl:Hid ((dz f x y 8 (dW (ar prev x y 8 vx vy) (bZ L q))).pix.length=f.pix.length/\0<f.pix.length):=lh ⟨jD (n:=8) MU hx NA hy NM NS RJ,MU.pos.1⟩;obtain ⟨la,Nn,rfl,-⟩:=hs.large.open;rw [hLl] at Ou OY PU Oj Ss PO MP |-
 have MT:=lh MP;clear MP h hp;simp only [sqL,Ma,Mb,List.cons_append,LQ] at OY PU Oj Ss PO MT |-
 go_enter Tryz.func42,Tryz.ntmps42;go_wp2_with fail;generalize NB:World.alloc (World.alloc (World.alloc (World.alloc w _) _) _) _=W1 at *
 clear NB;obtain ⟨r0,r1,r2⟩:=ag OY;obtain ⟨p0,p1,p2⟩:=ag PU;have c0:=cell_of_row _ _ 0 _ _ _ Oj;have c6:=cell_of_row _ _ 6 _ _ _ Oj;have c7:=cell_of_row _ _ 7 _ _ _ Oj;have c8:=cell_of_row _ _ 8 _ _ _ Oj;simp at c0 c6 c7 c8;go_wp2_with fail;refine wp_region_held_drew (S:=(fun w'=>w'.cell? ⟨w.heap.size,0,none⟩=some (.int .i64 f.W)/\w'.cell? ⟨w.heap.size,1,none⟩=some (.int .i64 f.H)/\w'.cell? ⟨w.heap.size,2,none⟩=some (.slice a f.pix.length cap)/\w'.cell? ⟨w.heap.size+1,0,none⟩=some (.int .i64 prev.W)/\w'.cell? ⟨w.heap.size+1,1,none⟩=some (.int .i64 prev.H)/\w'.cell? ⟨w.heap.size+1,2,none⟩=some (.slice pa prev.pix.length NR)/\w'.cell? ⟨w.heap.size+1+1,6,none⟩=some (.int .i64 vx)/\w'.cell? ⟨w.heap.size+1+1,7,none⟩=some (.int .i64 vy)/\w'.cell? ⟨w.heap.size+1+1,8,none⟩=some (.slice la 64 Nn))) Mh ?_ (fun hHeld=>?_)
 ·exact ⟨r0,r1,r2,p0,p1,p2,c6,c7,c8⟩
 refine tk 0 31 ?_;refine tk 1 32 ?_;refine tk 2 33 ?_;refine tk 3 34 ?_;refine tk 4 35 ?_;refine tk 5 36 ?_;refine tk 6 37 ?_;refine tk 7 38 ?_;refine tk 9 40 ?_;refine tk 10 41 ?_;refine tk 11 42 ?_;refine rdy (rdc 8 39 (fun K hK=>?_) .nil);go_simp;go_at_call 94;refine (Oi.out _ MT.drew).mono ?_;rintro e w5 ⟨v5,rfl,Oo,NF⟩;have o5:=(ae.refl [] W1).drew.q NF;obtain ⟨g5,c5v,rfl,-,-⟩:=Oo.form (by have:=Qw.1;omega);rw [Qw.1] at Oo |-
 refine hK.out _ _ ?_ (fun hHeld=>?_)
 ·exact ⟨(o5).cell r0 Mg,(o5).cell r1 Mg,(o5).cell r2 Mg,(o5).cell p0 Mg,(o5).cell p1 Mg,(o5).cell p2 Mg,(o5).cell c6 Mg,(o5).cell c7 Mg,(o5).cell c8 Mg⟩
 clear hK K
 try simp only [Act.put,Lg,Lj,Lk]
 refine rdy (rdc 12 43 (fun K hK=>?_) .nil);go_simp;go_at_call 109;refine (Ou.out _ (MT.q o5)).mono ?_;rintro e w6 ⟨⟨v6,rfl,Np⟩,XC,Ob⟩;have o6:=o5.q Ob;have h56:=Oo.quiet Ob;obtain ⟨g6,c6v,rfl,-,-⟩:=Np.form (by have:=Qw.2;omega);rw [Qw.2] at Np |-
 refine hK.out _ _ ?_ (fun hHeld=>?_)
 ·exact ⟨(o6).cell r0 Mg,(o6).cell r1 Mg,(o6).cell r2 Mg,(o6).cell p0 Mg,(o6).cell p1 Mg,(o6).cell p2 Mg,(o6).cell c6 Mg,(o6).cell c7 Mg,(o6).cell c8 Mg⟩
 clear hK K
 try simp only [Act.put,Lg,Lj,Lk]
 refine rdy (rdc 13 44 (fun K hK=>?_) .nil);go_simp;go_at_call 108;refine (QN.out _ _ _ _ _ h56 Np).mono ?_;rintro e w7 ⟨⟨v7,rfl,Pu⟩,Tl⟩;have o7:=o6.q Tl;obtain ⟨g7,c7v,rfl,-,-⟩:=Pu.form (by have:=Ri.out;omega);rw [Ri.out] at Pu |-
 refine hK.out _ _ ?_ (fun hHeld=>?_)
 ·exact ⟨(o7).cell r0 Mg,(o7).cell r1 Mg,(o7).cell r2 Mg,(o7).cell p0 Mg,(o7).cell p1 Mg,(o7).cell p2 Mg,(o7).cell c6 Mg,(o7).cell c7 Mg,(o7).cell c8 Mg⟩
 clear hK K
 try simp only [Act.put,Lg,Lj,Lk]
 refine rdy (rdc 14 45 (fun K hK=>?_) .nil);go_simp;go_at_call 107;refine (HPu.out _ (MT.q o7) _ _ Pu).mono ?_;rintro e w8 ⟨vp,rfl,Pv,hqp⟩;obtain ⟨g,Ot,rfl,OL,Nl⟩:=Pv.form (by have:=Vl.out;omega);rw [Vl.1] at Pv |-
 have op:=(o7).q hqp;have Ps:=op.row Ss;obtain ⟨z0,z1,z2⟩:=ag Ps;have fz0:=frozen_of_row _ _ 0 _ _ Ps;have fz1:=frozen_of_row _ _ 1 _ _ Ps;have fz2:=frozen_of_row _ _ 2 _ _ Ps;obtain ⟨MS,Nd⟩:=fd (x:=.int .i64 f.W) (y:=.int .i64 f.H) (z:=.slice (some ⟨g,0,none⟩) f.pix.length Ot) Ps;have Hg:Hid (W1.heap.size<=g):=lh (Lz (o7).size OL);have HOp:=lh (Pv.lower (o7).size);have HQp:=lh op;have Si:=lh MS;have Hon:=lh Nd;clear Pv hqp OL Nl MS Ps;refine hK.out _ _ ?_ (fun hHeld=>?_)
 ·exact ⟨(op).cell r0 Mg,(op).cell r1 Mg,(op).cell r2 Mg,(op).cell p0 Mg,(op).cell p1 Mg,(op).cell p2 Mg,(op).cell c6 Mg,(op).cell c7 Mg,(op).cell c8 Mg⟩
 clear hK K
 try simp only [Act.put,Lg,Lj,Lk]
 refine rdy (rdn 15 (fun K hK=>?_) .nil);go_simp;refine hK.out _ _ ?_ (fun hHeld=>?_)
 ·exact ⟨Nd.cell (op.cell r0 Mg) (by simp;try omega),Nd.cell (op.cell r1 Mg) (by simp;try omega),Nd.cell (op.cell r2 Mg) (by simp;try omega),Nd.cell (op.cell p0 Mg) (by simp;try omega),Nd.cell (op.cell p1 Mg) (by simp;try omega),Nd.cell (op.cell p2 Mg) (by simp;try omega),Nd.cell (op.cell c6 Mg) (by simp;try omega),Nd.cell (op.cell c7 Mg) (by simp;try omega),Nd.cell (op.cell c8 Mg) (by simp;try omega)⟩
 exact Gp
theorem xh {lo hi TQ RK lo3 XF:Nat} {pv qv lv:Value} {vs:List Value} {w:World} {f prev:ai} {x y mo vx vy:Int} {ms L:List Int} {SL:List (List Int)} {q:Nat} (MU:FrOk f) (h:ah .i64 lo hi w pv f.pix) (hp:ah .i64 TQ RK w qv prev.pix) (hs:dU lo3 XF w lv vs L SL) (hm:ms.length=4) (hq:q<=15) (hx:0<=x) (NA:x+8<=f.W) (hy:0<=y) (NM:y+8<=f.H) (VY:mo=((mo.toNat:Nat):Int)) (hm3:mo<=3) (hLl:L.length=64) (hLv:cu L):Calls Tryz.prog 42 #[.agg #[f.W,f.H,pv],.agg #[prev.W,prev.H,qv],x,y,q,.agg (sqL 2 mo ms vx vy lv vs).toArray] w fun e w'=>(∃ v',e=.returned (.agg #[f.W,f.H,v'])/\Own .i64 3 w.heap.size w' v' (bf f prev x y q ⟨2,mo.toNat,ms,vx,vy,L,SL⟩).pix/\ae [] w w'):=by
 refine aN fun Q MM=>?_
 obtain ⟨a,cap,rfl,-⟩:=h.open;obtain ⟨pa,NR,rfl,-⟩:=hp.open;obtain ⟨m0,m1,m2,m3,rfl⟩:=gH hm;have Xf:=hs.one;obtain ⟨s0,s1,s2,s3,rfl⟩:=gH hs.len;obtain ⟨MP,OY,PU,Oj,Ss,PO⟩:=uO w (.cells #[f.W,f.H,.slice a f.pix.length cap] 24) (.cells #[prev.W,prev.H,.slice pa prev.pix.length NR] 24) (.cells (sqL 2 mo [m0,m1,m2,m3] vx vy lv [s0,s1,s2,s3]).toArray 91) (.cells #[(),(),JEu] 24);have HFo:=lh (fun (W:World) (o:ae [] w W)=>mM (n:=8) (mode:=mo) MU (h.quiet o) (.inr rfl) ⟨Mf,Mf⟩ hx NA hy NM);have Hmo:=lh VY;clear VY hm3;have WE:cu L:=hLv;have Qw:Hid ((bj mo (cZ f x y 8) (bU f x y 8) (aB f (x-1) (y-1))).length=64/\(bZ L q).length=64):=lh ⟨by rw [cS,cH],by rw [fP,hLl]⟩;have hRa:cN 401080320 (bZ L q):=gJ (by rw [dP];omega) (ig hLv hq);have Ou:=lh (fun (W:World) (o:ae [] w W)=>lJ (hs.large.quiet o) Mf hLv q hq);have QN:Hid (∀ (W:World) (b5 b6:Nat) (v5 v6:Value),Own .i64 3 b5 W v5 (bj mo (cZ f x y 8) (bU f x y 8) (aB f (x-1) (y-1)))->Own .i64 3 b6 W v6 (bZ L q)->_):=lh (fun W b5 b6 v5 v6 h5 h6=>jZ h5.ints h6.ints (by rw [Qw.1,Qw.2]) (by rw [Qw.1];omega) (jH (ix MU.sam _ _ _) (fX MU.sam _ _ _) (by rw [cH];omega) _ _) hRa);have NS:(dW (bj mo (cZ f x y 8) (bU f x y 8) (aB f (x-1) (y-1))) (bZ L q)).length=64:=by rw [iz (by rw [Qw.1,Qw.2]),Qw.1]
 have RJ:au (dW (bj mo (cZ f x y 8) (bU f x y 8) (aB f (x-1) (y-1))) (bZ L q)):=jR _ _ _;have Ri:=lh NS;have HPu:Hid (∀ (W:World),ae [] w W->∀ (lo1:Nat) (v:Value),Own .i64 3 lo1 W v (dW (bj mo (cZ f x y 8) (bU f x y 8) (aB f (x-1) (y-1))) (bZ L q))->_):=lh (fun W o _ v hb=>ro MU (h.quiet o) hb.ints NS RJ hx NA hy NM);have Vl:Hid ((dz f x y 8 (dW (bj mo (cZ f x y 8) (bU f x y 8) (aB f (x-1) (y-1))) (bZ L q))).pix.length=f.pix.length/\0<f.pix.length):=lh ⟨jD (n:=8) MU hx NA hy NM NS RJ,MU.pos.1⟩;obtain ⟨la,Nn,rfl,-⟩:=hs.large.open;rw [hLl] at Ou OY PU Oj Ss PO MP |-
 have MT:=lh MP;clear MP h hp;simp only [sqL,Ma,Mb,List.cons_append,LQ] at OY PU Oj Ss PO MT |-
 go_enter Tryz.func42,Tryz.ntmps42;go_wp2_with fail;generalize NB:World.alloc (World.alloc (World.alloc (World.alloc w _) _) _) _=W1 at *
 clear NB;obtain ⟨r0,r1,r2⟩:=ag OY;obtain ⟨p0,p1,p2⟩:=ag PU;have c0:=cell_of_row _ _ 0 _ _ _ Oj;have c1:=cell_of_row _ _ 1 _ _ _ Oj;have c8:=cell_of_row _ _ 8 _ _ _ Oj;simp at c0 c1 c8;go_wp2_with fail;refine wp_region_held_drew (S:=(fun w'=>w'.cell? ⟨w.heap.size,0,none⟩=some (.int .i64 f.W)/\w'.cell? ⟨w.heap.size,1,none⟩=some (.int .i64 f.H)/\w'.cell? ⟨w.heap.size,2,none⟩=some (.slice a f.pix.length cap)/\w'.cell? ⟨w.heap.size+1+1,1,none⟩=some (.int .i64 mo)/\w'.cell? ⟨w.heap.size+1+1,8,none⟩=some (.slice la 64 Nn))) Mh ?_ (fun hHeld=>?_)
 ·exact ⟨r0,r1,r2,c1,c8⟩
 refine tk 0 48 ?_;refine tk 1 49 ?_;refine tk 2 50 ?_;refine tk 3 51 ?_;refine tk 4 52 ?_;refine tk 5 53 ?_;refine tk 6 54 ?_;refine tk 7 55 ?_;refine tk 9 57 ?_;refine tk 10 58 ?_;refine tk 11 59 ?_;refine rdy (rdc 8 56 (fun K hK=>?_) .nil);go_simp;go_at_call 110;refine (HFo.out _ MT.drew).mono ?_;rintro e w5 ⟨⟨v5,rfl,Oo⟩,NF⟩;have o5:=(ae.refl [] W1).drew.q NF;obtain ⟨g5,c5v,rfl,-,-⟩:=Oo.form (by have:=Qw.1;omega);rw [Qw.1] at Oo |-
 refine hK.out _ _ ?_ (fun hHeld=>?_)
 ·exact ⟨(o5).cell r0 Mg,(o5).cell r1 Mg,(o5).cell r2 Mg,(o5).cell c1 Mg,(o5).cell c8 Mg⟩
 clear hK K
 try simp only [Act.put,Lg,Lj,Lk]
 refine rdy (rdc 12 60 (fun K hK=>?_) .nil);go_simp;go_at_call 109;refine (Ou.out _ (MT.q o5)).mono ?_;rintro e w6 ⟨⟨v6,rfl,Np⟩,XC,Ob⟩;have o6:=o5.q Ob;have h56:=Oo.quiet Ob;obtain ⟨g6,c6v,rfl,-,-⟩:=Np.form (by have:=Qw.2;omega);rw [Qw.2] at Np |-
 refine hK.out _ _ ?_ (fun hHeld=>?_)
 ·exact ⟨(o6).cell r0 Mg,(o6).cell r1 Mg,(o6).cell r2 Mg,(o6).cell c1 Mg,(o6).cell c8 Mg⟩
 clear hK K
 try simp only [Act.put,Lg,Lj,Lk]
 refine rdy (rdc 13 61 (fun K hK=>?_) .nil);go_simp;go_at_call 108;refine (QN.out _ _ _ _ _ h56 Np).mono ?_;rintro e w7 ⟨⟨v7,rfl,Pu⟩,Tl⟩;have o7:=o6.q Tl;obtain ⟨g7,c7v,rfl,-,-⟩:=Pu.form (by have:=Ri.out;omega);rw [Ri.out] at Pu |-
 refine hK.out _ _ ?_ (fun hHeld=>?_)
 ·exact ⟨(o7).cell r0 Mg,(o7).cell r1 Mg,(o7).cell r2 Mg,(o7).cell c1 Mg,(o7).cell c8 Mg⟩
 clear hK K
 try simp only [Act.put,Lg,Lj,Lk]
 refine rdy (rdc 14 62 (fun K hK=>?_) .nil);go_simp;go_at_call 107;refine (HPu.out _ (MT.q o7) _ _ Pu).mono ?_;rintro e w8 ⟨vp,rfl,Pv,hqp⟩;obtain ⟨g,Ot,rfl,OL,Nl⟩:=Pv.form (by have:=Vl.out;omega);rw [Vl.1] at Pv |-
 have op:=(o7).q hqp;have Ps:=op.row Ss;obtain ⟨z0,z1,z2⟩:=ag Ps;have fz0:=frozen_of_row _ _ 0 _ _ Ps;have fz1:=frozen_of_row _ _ 1 _ _ Ps;have fz2:=frozen_of_row _ _ 2 _ _ Ps;obtain ⟨MS,Nd⟩:=fd (x:=.int .i64 f.W) (y:=.int .i64 f.H) (z:=.slice (some ⟨g,0,none⟩) f.pix.length Ot) Ps;have Hg:Hid (W1.heap.size<=g):=lh (Lz (o7).size OL);have HOp:=lh (Pv.lower (o7).size);have HQp:=lh op;have Si:=lh MS;have Hon:=lh Nd;clear Pv hqp OL Nl MS Ps;refine hK.out _ _ ?_ (fun hHeld=>?_)
 ·exact ⟨(op).cell r0 Mg,(op).cell r1 Mg,(op).cell r2 Mg,(op).cell c1 Mg,(op).cell c8 Mg⟩
 clear hK K
 try simp only [Act.put,Lg,Lj,Lk]
 refine rdy (rdn 15 (fun K hK=>?_) .nil);go_simp;refine hK.out _ _ ?_ (fun hHeld=>?_)
 ·exact ⟨Nd.cell (op.cell r0 Mg) (by simp;try omega),Nd.cell (op.cell r1 Mg) (by simp;try omega),Nd.cell (op.cell r2 Mg) (by simp;try omega),Nd.cell (op.cell c1 Mg) (by simp;try omega),Nd.cell (op.cell c8 Mg) (by simp;try omega)⟩
 clear hK K
 try simp only [Act.put,Lg,Lj,Lk]
 refine wpAnyH_done Mh ?_ _;go_wp2_with fail;refine bodyPost_ret (v:=.agg #[f.W,f.H,.slice (some ⟨g,0,none⟩) f.pix.length Ot]) (results_cell_row Tryz.results42 _ _ (w.heap.size+1+1+1) _ _ _ _ rfl Si Tryz.underlying24 rfl Mh) rfl (MM.out _ _ ⟨_,rfl,?_,?_⟩)
 ·show Own _ _ _ _ _ (dz f x y 8 (fS (bj ((mo.toNat:Nat):Int) (cZ f x y 8) (bU f x y 8) (aB f (x-1) (y-1))) L q)).pix
  rw [<- Hmo.out];exact Gr
 ·exact (MT.q HQp).trans Hon (U:=[]) Mg (fun x hx MO=>Mr)
theorem ww (p r:List Int):au (dW p r):=by
 intro x hx;unfold dW at hx;obtain ⟨i,hi,rfl⟩:=List.mem_iff_getElem.1 hx;rw [List.getElem_zipWith];exact iJ _
theorem xa {lo hi g cap n:Nat} {w:World} {l:List Int} (h:ah .i64 lo hi w (.slice (some ⟨g,0,none⟩) n cap) l):ah .i64 g (g+1) w (.slice (some ⟨g,0,none⟩) n cap) l:=by
 obtain ⟨⟨h1,a,c,e,h3,h4,h5⟩,h6⟩:=h;refine ⟨⟨h1,a,c,e,h3,h4,fun hp=>?_⟩,h6⟩;obtain ⟨b,off,ea,x,y,hc⟩:=h5 hp;rw [ea] at e;injection e with e1 e2 e3
 injection e1 with e1
 injection e1 with e1 e2
 exact ⟨b,off,ea,Mf,Mf,hc⟩
def fsK (f:ai) (x y:Int) (q:Nat) (s:SqD) (j:Nat):ai:=(List.range j).foldl (cj x y q s) f
theorem wS (f:ai) (x y:Int) (q:Nat) (s:SqD) (j:Nat):fsK f x y q s (j+1)=cj x y q s (fsK f x y q s j) j:=by
 unfold fsK;rw [List.range_succ,List.foldl_append]
 rfl
theorem zD {f:ai} (h:FrOk f) {x y:Int} {q:Nat} {s:SqD} (hx:0<=x) (NA:x+8<=f.W) (hy:0<=y) (NM:y+8<=f.H) (hl:∀ i,i<4->(s.small.getD i []).length=16):∀ j,j<=4->FrOk (fsK f x y q s j)/\(fsK f x y q s j).W=f.W/\(fsK f x y q s j).H=f.H
 | 0,_=>⟨h,rfl,rfl⟩
 | j+1,hj=>by
  obtain ⟨a,b,c⟩:=zD h hx NA hy NM hl j Mf;rw [wS];refine ⟨(show FrOk (dR _ (x+((j % 2:Nat):Int)*4) (y+((j / 2:Nat):Int)*4) 4 (s.modes.getD j 0) q (s.small.getD j [])) from iq a Mf Mf Mf Mf (hl j Mf) Mf _ _),?_,?_⟩
  ·exact b
  ·exact c
theorem Ja {f:ai} (h:FrOk f) {x y:Int} {q:Nat} {s:SqD} (hx:0<=x) (NA:x+8<=f.W) (hy:0<=y) (NM:y+8<=f.H) (hl:∀ i,i<4->(s.small.getD i []).length=16) {j:Nat} (hj:j<=4):(fsK f x y q s j).pix.length=f.pix.length:=by
 obtain ⟨a,b,c⟩:=zD (q:=q) h hx NA hy NM hl j hj;have h1:=a.len;have h2:=h.len;rw [b,c] at h1;omega
theorem Gn {p:Prop} (h:p:=by
 refine hK.out _ _ ?_ (fun hHeld=>?_)
 ·exact ⟨c2,c9⟩
 clear hK K
 try simp only [Act.put,Lg,Lj,Lk]
 refine rdy (rdc 18 95 (fun K hK=>?_) .nil);go_simp;go_at_call 107;refine (HPu.out _ o7 _ _ Pu).mono ?_;rintro e w8 ⟨vp,rfl,Pv,hqp⟩;obtain ⟨g,Ot,rfl,OL,Nl⟩:=Pv.form (by have:=Vl.out;omega);rw [Vl.1] at Pv |-
 have op:=o7.q hqp;obtain ⟨r0,r1,r2⟩:=ag ((op).row Hr);have c2:=(op).cell Po Mg;have c9:=(op).cell Yw Mg;have Ps:=op.row Hr;have fz0:=frozen_of_row _ _ 0 _ _ Ps;have fz1:=frozen_of_row _ _ 1 _ _ Ps;have fz2:=frozen_of_row _ _ 2 _ _ Ps;obtain ⟨MS,Nd⟩:=fd (x:=.int .i64 f.W) (y:=.int .i64 f.H) (z:=.slice (some ⟨g,0,none⟩) f.pix.length Ot) Ps;have hgw:w.heap.size<g:=by have:=MW.size;have:=PO.out;have:=o7.size;omega
 clear hqp OL Nl Ps;refine hK.out _ _ ?_ (fun hHeld=>?_)
 ·exact ⟨c2,c9⟩
 clear hK K
 try simp only [Act.put,Lg,Lj,Lk]
 refine rdy (rdn 19 (fun K hK=>?_) .nil);go_simp;refine hK.out _ _ ?_ (fun hHeld=>?_)
 ·exact ⟨Nd.cell c2 (by simp;try omega),Nd.cell c9 (by simp;try omega)⟩
 clear hK K
 try simp only [Act.put,Lg,Lj,Lk]
 refine wpAnyH_done Mh ?_ _;go_wp2_with fail;have hno:=Pv.only Nd (fun x hx hh=>by rw [mSg] at hx;subst hx;simp only [Value.ownBlock] at hh;injection hh with hh;omega);refine ⟨⟨j+1,_,_,g,g+1,by have:=Hj.out;omega,Mm,lh MS,lh ?_,lh (.inr hgw),lh ?_,lh ((MW.trans op (U:=[w.heap.size]) (fun _ h _=>h) Mg).trans Nd (U:=[w.heap.size]) (fun _ h _=>h) (fun _ h _=>h))⟩,by simp [intOf];have:=Hj.out;omega⟩
 ·rw [HfJ.out]
  exact xa hno.ints
 ·refine .inr ?_
  rw [HfJ.out];exact hno.lower (Lz MW.size o7.size)):p:=h
theorem Gt {p:Prop} (h:p:=by
 refine hK.out _ _ ?_ (fun hHeld=>?_)
 ·exact ⟨c2,c9⟩
 clear hK K
 try simp only [Act.put,Lg,Lj,Lk]
 refine rdy (rdc 17 94 (fun K hK=>?_) .nil);go_simp;go_at_call 108;refine (QN.out _ _ _ _ _ h56 Np).mono ?_;rintro e w7 ⟨⟨v7,rfl,Pu⟩,Tl⟩;have o7:=o6.q Tl;obtain ⟨g7,c7v,rfl,-,-⟩:=Pu.form (by have:=Ri.out;omega);rw [Ri.out] at Pu |-
 obtain ⟨r0,r1,r2⟩:=ag ((o7).row Hr);have c2:=(o7).cell Po Mg;have c9:=(o7).cell Yw Mg;exact Gn):p:=h
theorem Gq {p:Prop} (h:p:=by
 refine hK.out _ _ ?_ (fun hHeld=>?_)
 ·exact ⟨c2,c9⟩
 clear hK K
 try simp only [Act.put,Lg,Lj,Lk]
 refine rdy (rdc 16 93 (fun K hK=>?_) .nil);go_simp;go_at_call 109;refine (Ou.out _ o5).mono ?_;rintro e w6 ⟨⟨v6,rfl,Np⟩,XC,Ob⟩;have o6:=o5.q Ob;have h56:=Oo.quiet Ob;obtain ⟨g6,c6v,rfl,-,-⟩:=Np.form (by have:=Qw.2;omega);rw [Qw.2] at Np |-
 obtain ⟨r0,r1,r2⟩:=ag ((o6).row Hr);have c2:=(o6).cell Po Mg;have c9:=(o6).cell Yw Mg;exact Gt):p:=h
theorem Gs {p:Prop} (h:p:=by
 go_simp;refine hK.out _ _ ?_ (fun hHeld=>?_)
 ·exact ⟨c2,c9⟩
 clear hK K
 try simp only [Act.put,Lg,Lj,Lk]
 refine rdy (rdc 10 87 (fun K hK=>?_) .nil);go_simp;go_at_call 110;refine (HFo.out _ ((ae.refl [] wr).drew)).mono ?_;rintro e w5 ⟨⟨v5,rfl,Oo⟩,NF⟩;have o5:=(ae.refl [] wr).drew.q NF;obtain ⟨g5,c5v,rfl,-,-⟩:=Oo.form (by have:=Qw.1;omega);rw [Qw.1] at Oo |-
 obtain ⟨r0,r1,r2⟩:=ag ((o5).row Hr);have c2:=(o5).cell Po Mg;have c9:=(o5).cell Yw Mg;exact Gq):p:=h
theorem xi {lo hi TQ RK lo3 XF:Nat} {pv qv lv:Value} {vs:List Value} {w:World} {f prev:ai} {x y mo vx vy:Int} {ms L:List Int} {SL:List (List Int)} {q:Nat} {YZ:Nat} (MU:FrOk f) (h:ah .i64 lo hi w pv f.pix) (hp:ah .i64 TQ RK w qv prev.pix) (hs:dU lo3 XF w lv vs L SL) (hm:ms.length=4) (hq:q<=15) (hx:0<=x) (NA:x+8<=f.W) (hy:0<=y) (NM:y+8<=f.H) (Ww:hi<=w.heap.size) (QU:∀ z∈ms,0<=z/\z<=3) (hSl:SL.length=4) (hSv:∀ l∈SL,l.length=16/\cu l):Calls Tryz.prog 42 #[.agg #[f.W,f.H,pv],.agg #[prev.W,prev.H,qv],x,y,q,.agg (sqL 3 mo ms vx vy lv vs).toArray] w fun e w'=>(∃ v',e=.returned (.agg #[f.W,f.H,v'])/\Own .i64 3 w.heap.size w' v' (bf f prev x y q ⟨3,YZ,ms,vx,vy,L,SL⟩).pix/\ae [] w w'):=by
 refine aN fun Q MM=>?_
 obtain ⟨a,cap,rfl,-⟩:=h.open;obtain ⟨pa,NR,rfl,-⟩:=hp.open;have Uo:∀ i,i<4->(SL.getD i []).length=16/\cu (SL.getD i []):=fun i hi4=>hSv _ (by rw [Le,Lf Mf];exact LM _)
 have NV:∀ i,i<4->0<=ms.getD i 0/\ms.getD i 0<=3:=fun i hi4=>QU _ (by rw [Le,Lf Mf];exact LM _)
 obtain ⟨MP,OY,_,_,_,-⟩:=uO w (.cells #[f.W,f.H,.slice a f.pix.length cap] 24) (.cells #[prev.W,prev.H,.slice pa prev.pix.length NR] 24) (.cells (sqL 3 mo ms vx vy lv vs).toArray 91) (.cells #[(),(),JEu] 24);have Oj:Hid (bI (w.heap.size+1+1) ((((w.alloc (.cells #[f.W,f.H,.slice a f.pix.length cap] 24)).alloc (.cells #[prev.W,prev.H,.slice pa prev.pix.length NR] 24)).alloc (.cells (sqL 3 mo ms vx vy lv vs).toArray 91)).alloc (.cells #[(),(),JEu] 24)) 3 mo ms vx vy lv vs->True):=lh (fun _=>trivial);have Jfh:Hid (((((w.alloc (.cells #[f.W,f.H,.slice a f.pix.length cap] 24)).alloc (.cells #[prev.W,prev.H,.slice pa prev.pix.length NR] 24)).alloc (.cells (sqL 3 mo ms vx vy lv vs).toArray 91)).alloc (.cells #[(),(),JEu] 24)).heap[w.heap.size+1+1]?=some (.cells (sqL 3 mo ms vx vy lv vs).toArray 91 (0,0))):=lh ((ae.new (((w.alloc _).alloc _).alloc _) _).row (ak Mg));have Ss:Hid (((((w.alloc (.cells #[f.W,f.H,.slice a f.pix.length cap] 24)).alloc (.cells #[prev.W,prev.H,.slice pa prev.pix.length NR] 24)).alloc (.cells (sqL 3 mo ms vx vy lv vs).toArray 91)).alloc (.cells #[(),(),JEu] 24)).heap[w.heap.size+1+1+1]?=some (.cells #[(),(),JEu] 24 (0,0))):=lh (ak Mg);have PO:Hid (((((w.alloc (.cells #[f.W,f.H,.slice a f.pix.length cap] 24)).alloc (.cells #[prev.W,prev.H,.slice pa prev.pix.length NR] 24)).alloc (.cells (sqL 3 mo ms vx vy lv vs).toArray 91)).alloc (.cells #[(),(),JEu] 24)).heap.size=w.heap.size+1+1+1+1):=lh Mg;have c0:((((w.alloc (.cells #[f.W,f.H,.slice a f.pix.length cap] 24)).alloc (.cells #[prev.W,prev.H,.slice pa prev.pix.length NR] 24)).alloc (.cells (sqL 3 mo ms vx vy lv vs).toArray 91)).alloc (.cells #[(),(),JEu] 24)).cell? ⟨w.heap.size+1+1,0,none⟩=some (.int .i64 3):=by rw [cell_of_row _ _ _ _ _ _ Jfh.out];rfl
 have Hc2:Hid (∀ j,j<4->((((w.alloc (.cells #[f.W,f.H,.slice a f.pix.length cap] 24)).alloc (.cells #[prev.W,prev.H,.slice pa prev.pix.length NR] 24)).alloc (.cells (sqL 3 mo ms vx vy lv vs).toArray 91)).alloc (.cells #[(),(),JEu] 24)).cell? ⟨w.heap.size+1+1,2+j,none⟩=some (.int .i64 (ms.getD j 0))):=lh (fun j hj=>by rw [cell_of_row _ _ _ _ _ _ Jfh.out];exact gw hm hj);have Hc9:Hid (∀ j,j<4->((((w.alloc (.cells #[f.W,f.H,.slice a f.pix.length cap] 24)).alloc (.cells #[prev.W,prev.H,.slice pa prev.pix.length NR] 24)).alloc (.cells (sqL 3 mo ms vx vy lv vs).toArray 91)).alloc (.cells #[(),(),JEu] 24)).cell? ⟨w.heap.size+1+1,9+j,none⟩=some (vs.getD j aj)):=lh (fun j hj=>by rw [cell_of_row _ _ _ _ _ _ Jfh.out];exact dy hm hs.len hj);have HI:=lh (h.quiet MP);have HSm:=lh (fun (W:World) (o:ae [] w W) j (hj:j<4)=>(hs.small j hj).quiet o);have TX:=lh (fun j (hj:j<=4)=>zD (q:=q) (s:=⟨3,YZ,ms,vx,vy,L,SL⟩) MU hx NA hy NM (fun i hi=>(Uo i hi).1) j hj);have PN:=lh (fun j (hj:j<=4)=>Ja (q:=q) (s:=⟨3,YZ,ms,vx,vy,L,SL⟩) MU hx NA hy NM (fun i hi=>(Uo i hi).1) hj);have Hnx:=lh (fun j=>wS f x y q ⟨3,YZ,ms,vx,vy,L,SL⟩ j);have HR:Hid (bf f prev x y q ⟨3,YZ,ms,vx,vy,L,SL⟩=fsK f x y q ⟨3,YZ,ms,vx,vy,L,SL⟩ 4):=lh rfl;have Xt:Hid (fsK f x y q ⟨3,YZ,ms,vx,vy,L,SL⟩ 0=f):=lh rfl;have Hsl:=lh Uo;have Hml:=lh NV;have Hq:=lh hq;have Jad:=lh MU.pos;have Hhi:=lh Ww;have Hpl:Hid (0<=x/\x+8<=f.W/\0<=y/\y+8<=f.H/\f.W<=32/\f.H<=32):=lh ⟨hx,NA,hy,NM,MU.w1,MU.h1⟩;have MT:=lh MP;generalize hsa:(sqL 3 mo ms vx vy lv vs).toArray=sa at *
 clear MP h hp hs hm QU hSl hSv Uo NV MU hx NA hy NM hq Ww Oj Jfh hsa;go_enter Tryz.func42,Tryz.ntmps42;go_wp2_with fail;generalize NB:World.alloc (World.alloc (World.alloc (World.alloc w _) _) _) _=W1 at *
 clear NB;go_wp2_with fail;clear c0;go_loopw [13,14,15] (fun i _ _ wr=>∃ (j:Nat) (va:Option Addr) (vc lo' hi':Nat),j<=4/\i=.int .i64 j/\Hid (wr.heap[w.heap.size]?=some (.cells #[f.W,f.H,.slice va f.pix.length vc] 24 (0,0)))/\Hid (ah .i64 lo' hi' wr (.slice va f.pix.length vc) (fsK f x y q ⟨3,YZ,ms,vx,vy,L,SL⟩ j).pix)/\Hid (hi'<=w.heap.size\/w.heap.size<lo')/\Hid (j=0\/Own .i64 3 W1.heap.size wr (.slice va f.pix.length vc) (fsK f x y q ⟨3,YZ,ms,vx,vy,L,SL⟩ j).pix)/\Hid (ae [w.heap.size] W1 wr)) (fun i _ _ _=>4-(intOf i).toNat)
 case atStart=>exact ⟨0,_,_,lo,hi,Mf,rfl,OY,lh (by rw [Xt.out];exact HI),lh (.inl Hhi),lh (.inl rfl),lh (ae.refl _ _)⟩
 case round =>
  obtain ⟨j,va,vc,lo',hi',hj,rfl,Oi,Zf,HRg,HOj,MW⟩:=hrel;by_cases MO:j<4
  ·have hji:(j:Int)<4:=Mf
   have WB:(0:Int)<=(j:Int):=Mf;have hNx:=Hnx.out j;obtain ⟨fok,fw,fh⟩:=TX.out j Mf;have fln:=PN.out j Mf;obtain ⟨MR,Nj⟩:=Hsl.out j MO;have hmd:=Hml.out j MO;have RS:=fun (W:World) (o:ae [] wr W)=>HSm.out W ((MT.trans MW (U:=[]) Mg (fun g hg hl=>Mj)).q o) j MO
   have k2:=MW.cell (Hc2.out j MO) (by simp;try omega);have k9:=MW.cell (Hc9.out j MO) (by simp;try omega);have eM:(j:Int).tmod 2=((j % 2:Nat):Int):=by rw [LX WB];rfl
   have eD:(j:Int).tdiv 2=((j / 2:Nat):Int):=by rw [Int.tdiv_eq_ediv_of_nonneg WB];rfl
   have bM:j % 2<=1:=Mf;have bD:j / 2<=1:=Mf;have Vt:cj x y q ⟨3,YZ,ms,vx,vy,L,SL⟩ (fsK f x y q ⟨3,YZ,ms,vx,vy,L,SL⟩ j) j=dR (fsK f x y q ⟨3,YZ,ms,vx,vy,L,SL⟩ j) (x+((j % 2:Nat):Int)*4) (y+((j / 2:Nat):Int)*4) 4 (ms.getD j 0) q (SL.getD j []):=rfl;rw [<- hNx] at Vt;obtain ⟨F,hF⟩:∃ F,F=fsK f x y q ⟨3,YZ,ms,vx,vy,L,SL⟩ j:=⟨_,rfl⟩
   rw [<- hF] at fok fw fh fln Vt Zf;clear HOj;obtain ⟨X,hX⟩:∃ X,X=x+((j % 2:Nat):Int)*4:=⟨_,rfl⟩
   obtain ⟨Y,hY⟩:∃ Y,Y=y+((j / 2:Nat):Int)*4:=⟨_,rfl⟩
   rw [<- hX,<- hY] at Vt;have SH:=Hpl.out;have X0:0<=X/\X+4<=F.W:=by rw [fw];omega
   have Y0:0<=Y/\Y+4<=F.H:=by rw [fh];omega
   generalize ms.getD j 0=m at *
   generalize SL.getD j []=l at *
   obtain ⟨Zt,sc0,hsv,-⟩:=(RS wr (ae.refl _ _)).open;rw [MR] at hsv;rw [hsv] at k9 RS;generalize j % 2=M at *
   generalize j / 2=Dv at *
   have n0:IntKind.i64.wrap (Dv:Int)=(Dv:Int):=Mi;have n1:IntKind.i64.wrap ((M:Int)*4)=(M:Int)*4:=Mi;have n2:IntKind.i64.wrap ((Dv:Int)*4)=(Dv:Int)*4:=Mi;have n3:IntKind.i64.wrap (x+(M:Int)*4)=X:=by rw [<- hX,Ll];omega
   have n4:IntKind.i64.wrap (y+(Dv:Int)*4)=Y:=by rw [<- hY,Ll];omega
   have TM:=Hq.out;rw [<- fln] at Zf;have hfk:=Zf.out;have HFo:Hid (∀ (W:World),ae [] wr W->Calls Tryz.prog 110 #[.agg #[f.W,f.H,.slice va f.pix.length vc],X,Y,.int .i64 4,m] W fun e w'=>(∃ v',e=.returned v'/\Own .i64 3 W.heap.size w' v' (bj m (cZ F X Y 4) (bU F X Y 4) (aB F (X-1) (Y-1))))/\ae [] W w'):=lh (fun W o=>by have:=mM (n:=4) (mode:=m) fok (hfk.quiet o) (.inl rfl) hmd X0.1 X0.2 Y0.1 Y0.2;rw [fw,fh,fln] at this;exact this);have hpb:(bj m (cZ F X Y 4) (bU F X Y 4) (aB F (X-1) (Y-1))).length=16:=by rw [cS,cH]
   have hps:au (bj m (cZ F X Y 4) (bU F X Y 4) (aB F (X-1) (Y-1))):=jH (ix fok.sam _ _ _) (fX fok.sam _ _ _) (by rw [cH];omega) _ _;have JpU:dR F X Y 4 m q l=dz F X Y 4 (dW (bj m (cZ F X Y 4) (bU F X Y 4) (aB F (X-1) (Y-1))) (bZ l q)):=rfl;rw [JpU] at Vt;have hrl:(bZ l q).length=16:=by rw [fP,MR]
   have hra:cN 401080320 (bZ l q):=gJ (by rw [dP];omega) (ig Nj TM);have Ou:=lh (fun (W:World) (o:ae [] wr W)=>lJ (RS W o) Mf Nj q TM);generalize bj m (cZ F X Y 4) (bU F X Y 4) (aB F (X-1) (Y-1))=PD at *
   generalize bZ l q=RL at *
   have Qw:Hid (PD.length=16/\RL.length=16):=lh ⟨hpb,hrl⟩;have QN:=lh (fun (W:World) (b5 b6:Nat) (v5 v6:Value) (h5:Own .i64 3 b5 W v5 PD) (h6:Own .i64 3 b6 W v6 RL)=>jZ h5.ints h6.ints (by rw [hpb,hrl]) (by rw [hpb];omega) hps hra);have NS:(dW PD RL).length=16:=by rw [iz (by rw [hpb,hrl]),hpb]
   have RJ:au (dW PD RL):=ww _ _;generalize dW PD RL=CB at *
   have Ri:=lh NS;have Jpt:(dz F X Y 4 CB).pix.length=f.pix.length:=by rw [jD (n:=4) fok X0.1 X0.2 Y0.1 Y0.2 NS RJ,fln]
   have HPu:Hid (∀ (W:World),ae [] wr W->∀ (lo1:Nat) (v:Value),Own .i64 3 lo1 W v CB->Calls Tryz.prog 107 #[.agg #[f.W,f.H,.slice va f.pix.length vc],X,Y,.int .i64 4,v] W fun e w'=>∃ v',e=.returned (.agg #[f.W,f.H,v'])/\Own .i64 3 W.heap.size w' v' (dz F X Y 4 CB).pix/\ae [] W w'):=lh (fun W o _ v hb=>by have:=xr fok (hfk.quiet o) hb.ints NS RJ X0.1 X0.2 Y0.1 Y0.2;rw [fw,fh,fln] at this;exact this);have Vl:=lh (And.intro Jpt Jad.1);have HfJ:=lh Vt;have Hr:=Oi;have Po:=lh k2;have Yw:=lh k9;have Hj:=lh MO;obtain ⟨r0,r1,r2⟩:=ag Oi;have c2:=k2;have c9:=k9;clear Vt JpU hX hY SH X0 Y0 hsv RS hfk NS RJ Jpt hpb hps hrl hra hmd MR Nj fok fw fh fln hNx bM bD hF k2 k9 MO TM;go_wp2_with fail;refine wp_region_held_drew (S:=(fun w'=>w'.cell? ⟨w.heap.size+1+1,2+j,none⟩=some (.int .i64 m)/\w'.cell? ⟨w.heap.size+1+1,9+j,none⟩=some (.slice Zt 16 sc0))) Mh ?_ (fun hHeld=>?_)
   ·exact ⟨c2,c9⟩
   refine tk 1 78 ?_;refine tk 2 79 ?_;refine tk 4 81 ?_;refine tk 5 82 ?_;refine tk 6 83 ?_;refine tk 7 84 ?_;refine tk 8 85 ?_;refine tk 9 86 ?_;refine tk 11 88 ?_;refine tk 12 89 ?_;refine tk 13 90 ?_;refine tk 14 91 ?_;refine tk 15 92 ?_;refine rdy (rdc 0 77 (fun K hK=>?_) (rdc 3 80 (fun K hK=>?_) .nil))
   ·go_simp
    refine hK.out _ _ ?_ (fun hHeld=>?_)
    ·exact ⟨c2,c9⟩
    clear hK K
    try simp only [Act.put,Lg,Lj,Lk]
    refine rdy (rdc 3 80 (fun K hK=>?_) .nil);exact Gs
   ·go_simp
    refine hK.out _ _ ?_ (fun hHeld=>?_)
    ·exact ⟨c2,c9⟩
    clear hK K
    try simp only [Act.put,Lg,Lj,Lk]
    refine rdy (rdc 0 77 (fun K hK=>?_) (rdc 10 87 (fun K hK=>?_) .nil))
    ·exact Gs
    ·go_simp
     go_at_call 110;refine (HFo.out _ ((ae.refl [] wr).drew)).mono ?_;rintro e w5 ⟨⟨v5,rfl,Oo⟩,NF⟩;have o5:=(ae.refl [] wr).drew.q NF;obtain ⟨g5,c5v,rfl,-,-⟩:=Oo.form (by have:=Qw.1;omega);rw [Qw.1] at Oo |-
     obtain ⟨r0,r1,r2⟩:=ag ((o5).row Hr);have c2:=(o5).cell Po Mg;have c9:=(o5).cell Yw Mg;refine hK.out _ _ ?_ (fun hHeld=>?_)
     ·exact ⟨c2,c9⟩
     clear hK K
     try simp only [Act.put,Lg,Lj,Lk]
     refine rdy (rdc 0 77 (fun K hK=>?_) (rdc 16 93 (fun K hK=>?_) .nil))
     ·go_simp
      exact Gq
     ·go_simp
      go_at_call 109;refine (Ou.out _ o5).mono ?_;rintro e w6 ⟨⟨v6,rfl,Np⟩,XC,Ob⟩;have o6:=o5.q Ob;have h56:=Oo.quiet Ob;obtain ⟨g6,c6v,rfl,-,-⟩:=Np.form (by have:=Qw.2;omega);rw [Qw.2] at Np |-
      obtain ⟨r0,r1,r2⟩:=ag ((o6).row Hr);have c2:=(o6).cell Po Mg;have c9:=(o6).cell Yw Mg;refine hK.out _ _ ?_ (fun hHeld=>?_)
      ·exact ⟨c2,c9⟩
      clear hK K
      try simp only [Act.put,Lg,Lj,Lk]
      refine rdy (rdc 0 77 (fun K hK=>?_) (rdc 17 94 (fun K hK=>?_) .nil))
      ·go_simp
       exact Gt
      ·go_simp
       go_at_call 108;refine (QN.out _ _ _ _ _ h56 Np).mono ?_;rintro e w7 ⟨⟨v7,rfl,Pu⟩,Tl⟩;have o7:=o6.q Tl;obtain ⟨g7,c7v,rfl,-,-⟩:=Pu.form (by have:=Ri.out;omega);rw [Ri.out] at Pu |-
       obtain ⟨r0,r1,r2⟩:=ag ((o7).row Hr);have c2:=(o7).cell Po Mg;have c9:=(o7).cell Yw Mg;refine hK.out _ _ ?_ (fun hHeld=>?_)
       ·exact ⟨c2,c9⟩
       clear hK K
       try simp only [Act.put,Lg,Lj,Lk]
       refine rdy (rdc 0 77 (fun K hK=>?_) .nil);go_simp;exact Gn
  ·obtain rfl:j=4:=Mf
   have hji:¬ ((4:Nat):Int)<4:=Mf;obtain ⟨r0,r1,r2⟩:=ag Oi;have Ps:=MW.rowAt Ss (by simp;try omega);obtain ⟨z0,z1,z2⟩:=ag Ps;have fz0:=frozen_of_row _ _ 0 _ _ Ps;have fz1:=frozen_of_row _ _ 1 _ _ Ps;have fz2:=frozen_of_row _ _ 2 _ _ Ps;obtain ⟨MS,Nd⟩:=fd (x:=.int .i64 f.W) (y:=.int .i64 f.H) (z:=.slice va f.pix.length vc) Ps;have Si:=lh MS;have Hon:=lh Nd;clear MS Nd Ps MO;go_wp2_with fail;refine bodyPost_ret (v:=.agg #[f.W,f.H,.slice va f.pix.length vc]) (results_cell_row Tryz.results42 _ _ (w.heap.size+1+1+1) _ _ _ _ rfl Si Tryz.underlying24 rfl Mh) rfl (MM.out _ _ ⟨_,rfl,?_,?_⟩)
   ·rw [HR.out]
    rcases HOj with h0 | ho
    ·omega
    exact (ho.only Hon (fun x hx hh=>by rw [mSg] at hx;subst hx;have:=(ho.at _ hh).1;have:=PO.out;omega)).lower MT.size
   ·exact (MT.trans MW (U:=[]) Mg (fun g hg hl=>Mj)).trans Hon (U:=[]) Mg (fun x hx MO=>Mr)
theorem zO {lo hi TQ RK lo3 XF:Nat} {pv qv lv:Value} {vs:List Value} {w:World} {f prev:ai} {x y mo:Int} {s:SqD} {q:Nat} (MU:FrOk f) (h:ah .i64 lo hi w pv f.pix) (Ww:hi<=w.heap.size) (hp:ah .i64 TQ RK w qv prev.pix) (hs:dU lo3 XF w lv vs s.large s.small) (hpr:s.kind<2->FrOk prev) (RS:qA s) (VY:s.kind=2->mo=s.mode) (NV:s.modes.length=4) (hq:q<=15) (hx:0<=x) (NA:x+8<=f.W) (hy:0<=y) (NM:y+8<=f.H) :
  Calls Tryz.prog 42 #[.agg #[f.W,f.H,pv],.agg #[prev.W,prev.H,qv],x,y,q,.agg (sqL s.kind mo s.modes s.vx s.vy lv vs).toArray] w fun e w'=>(∃ v',e=.returned (.agg #[f.W,f.H,v'])/\Own .i64 3 w.heap.size w' v' (bf f prev x y q s).pix/\ae [] w w'):=by
 obtain ⟨kind,mode,ms,vx,vy,L,SL⟩:=s;have hk:=RS.kind;simp only at hs hpr VY NV hk;rcases (by omega:kind=0\/kind=1\/kind=2\/kind=3) with rfl | rfl | rfl | rfl
 ·exact xf MU h hp hs NV hq hx NA hy NM (hpr Mf)
 ·obtain ⟨a,b⟩:=RS.large (.inl rfl)
  exact xg MU h hp hs NV hq hx NA hy NM (hpr Mf) a b (RS.vec rfl)
 ·obtain ⟨a,b⟩:=RS.large (.inr rfl)
  obtain rfl:=VY rfl;exact xh MU h hp hs NV hq hx NA hy NM rfl (by have:mode<=3:=RS.mode rfl;omega) a b
 ·obtain ⟨-,a,b,c⟩:=RS.small rfl
  exact xi MU h hp hs NV hq hx NA hy NM Ww b a c
end
section
theorem dY {k mo:Int} {ms:List Int} {vx vy:Int} {lv:Value} {vs:List Value} (hm:ms.length=4) (hv:vs.length=4):(Tryz.prog.info? 91).map (·.size)=some (sqL k mo ms vx vy lv vs).toArray.size:=by
 rw [show (sqL k mo ms vx vy lv vs).toArray.size=13 from jM hm hv];kernel_rfl
theorem BX {p:Prop} (h:p:=by
 clear hK K
 try simp only [Act.put,Lg,Lj,Lk]
 refine rdy (rdc 11 104 (fun K hK=>?_) .nil);go_simp;go_at_call 107;refine (HPu.out _ (by first | exact XL | exact XL.drew) _ _ _ (by first | exact Tu | exact Tu.quiet (ae.refl _ _).drew)).mono ?_;rintro e v11 ⟨nv,rfl,Xg,hq⟩;have o11:=lh (XL.q (by first | exact hq | exact (ae.refl _ _).drew.q hq):ae [] W12 v11);obtain ⟨gn,cn,rfl,UY,-⟩:=Xg.form HNp;have JiC:=lh Xg;have HGn:=lh (Lz XL.size (by first | exact UY | (simpa using UY)):W12.heap.size<=gn);have hfr:=o11.row WL;obtain ⟨z0,z1,z2⟩:=ag hfr;have y0:=frozen_of_row v11 w.heap.size 0 _ _ hfr;have y1:=frozen_of_row v11 w.heap.size 1 _ _ hfr;have y2:=frozen_of_row v11 w.heap.size 2 _ _ hfr;obtain ⟨Qg,YQ⟩:=fd (x:=.int .i64 f.W) (y:=.int .i64 f.H) (z:=.slice (some ⟨gn,0,none⟩) NP.pix.length cn) hfr;have JnU:=o11.cell cL Mg;have Jty:=YQ.cell JnU (by rw [mSg];exact HNe);have VE:=lh Qg;have JcO:=lh YQ;clear Xg hq hfr Qg YQ UY;refine hK.out _ _ ?_ (fun hHeld=>?_)
 ·exact JnU
 clear hK K
 try simp only [Act.put,Lg,Lj,Lk]
 refine rdy (rdn 12 (fun K hK=>?_) .nil);go_simp;refine hK.out _ _ ?_ (fun hHeld=>?_)
 ·exact Jty
 clear hK K
 try simp only [Act.put,Lg,Lj,Lk]
 refine wpAnyH_done Mh ?_ _;go_wp2_with fail;have Jaj:ae [w.heap.size,BS] wr _:=((Ov.mono (U:=[w.heap.size,BS]) (fun g h _=>by rw [mSg] at h;subst h;simp)).trans (o11.mono (U:=[w.heap.size,BS]) Mg) (U:=[w.heap.size,BS]) (fun _ h _=>h) (fun _ h _=>h)).trans JcO (U:=[w.heap.size,BS]) (fun _ h _=>h) (fun g h _=>by rw [mSg] at h;subst h;simp);have z5:=Ov.size;have z6:=o11.size;have z7:=JcO.size;have z8:=MW.size;have z9:=RX.out;have z10:=XL.size;have z11:=Qw.out;have z12:=HWs.out;have hsr:=JcO.rowAt (o11.row Jnp) Ml;refine ⟨⟨k+1,NP.pix,ms.set k bm,vs.set k (.slice (some ⟨gL,0,none⟩) 16 YB),ls ++ [L],c+4*bs,.slice (some ⟨gn,0,none⟩) NP.pix.length cn,W12.heap.size,_,Mf,Mm,rfl,Tq,lh VE.out,lh ⟨(JiC.ints.only JcO (fun g hg=>Mj)).mono ?_ (Lm _),.inr Mf,Mf⟩,lh hsr,lh ⟨by rw [LK];exact PN.1,by rw [LK];exact PN.2.1,by rw [Ln,PN.2.2];rfl⟩,lh (fun j hj=>?_),lh ?_,lh ?_,lh (MW.trans Jaj (fun _ h _=>h) (fun _ h _=>h))⟩,Mk⟩
 ·exact Lz (Lm _) (by first | exact XL.size | exact XL.drew.size)
 ·by_cases TZ:j=k
  ·subst TZ
   have e2:(ls ++ [L]).getD j []=L:=by
    rw [Le,Lu (by rw [PN.2.2];exact Lm _),PN.2.2,Nat.sub_self];rfl
   rw [dt (by have:=PN.2.1;omega),e2];exact ((JmB.quiet o11).only JcO (fun g hg=>Mj)).mono (by have:=Qw.out;omega) Mf
  ·have YJ:j<k:=Mf
   have e2:(ls ++ [L]).getD j []=ls.getD j []:=by
    rw [Le,Lv (by rw [PN.2.2];exact YJ),<- Le]
   rw [eh TZ,e2];exact ((Jdf.out j YJ).only Jaj (fun g hg=>by simp only [Lh,Li,or_false] at hg;omega)).mono (Lm _) Jaj.size
 ·rw [uB PN.1 MO,<- Pn.out,Pt.out]
 ·have:=Hc.out;have:=HBs.out;omega):p:=h
theorem BZ {p:Prop} (h:p:=by
 clear hK K
 try simp only [Act.put,Lg,Lj,Lk]
 refine rdy (rdc 10 103 (fun K hK=>?_) .nil);go_simp;go_at_call 108;refine (QN.out _ (by first | exact o9 | exact o9.drew) _ _ _ (by first | exact HR9 | exact HR9.quiet (ae.refl _ _).drew) HAb).mono ?_;rintro e Zu ⟨⟨cv,rfl,hoc⟩,hq⟩;have XL:=lh (o9.q (by first | exact hq | exact (ae.refl _ _).drew.q hq):ae [] W12 Zu);obtain ⟨gc,cc2,rfl,-,-⟩:=hoc.form (by rw [Jio.out];omega);have Tu:=lh hoc.ints;obtain ⟨a0',a1',a2'⟩:=ag (XL.row WL);clear hoc hq;refine hK.out _ _ ?_ (fun hHeld=>?_)
 ·exact XL.cell cL Mg
 exact BX):p:=h
theorem zT {q lo hi TQ RK:Nat} {pv bv:Value} {f:ai} {b:List Int} {w:World} (MU:FrOk f) (h:ah .i64 lo hi w pv f.pix) (Ww:hi<=w.heap.size) (hb:ah .i64 TQ RK w bv b) (lb:b.length=64) (sb:au b) (x y:Int) (hx:0<=x) (NA:x+8<=f.W) (hy:0<=y) (NM:y+8<=f.H) (hq:q<=15) :
  Calls Tryz.prog 100 #[bv,.agg #[f.W,f.H,pv],x,y,q] w fun e w'=>(∃ vs,e=.returned (.tuple #[.agg (sqL 3 0 (ew f b x y q).1 0 0 aj vs).toArray,.int .i64 (ew f b x y q).2.2])/\(ew f b x y q).1.length=4/\dU w.heap.size w'.heap.size w' aj vs [] (ew f b x y q).2.1/\ae [] w w'):=by
 refine aN fun Q MM=>?_
 have MR:=MU.len;have hWW:=MU.w0;have hHH:=MU.h0;have NB:=MU.w1;have hH1:=MU.h1;have HQu:=lh (fun (W:World) (o:ae [] w W)=>vg (hb.quiet o) lb);have HDk:=lh (fun (P:List Int) (hP:FrOk ⟨f.W,f.H,P⟩) (c:List Int) (lc:c.length=16) (sc:au c) (ax ay:Int) (hx:0<=ax) (NA:ax+4<=f.W) (hy:0<=ay) (NM:ay+4<=f.H)=>(⟨gK (n:=4) (q:=q) (.inl rfl) hP.sam lc sc ax ay hq,iq hP (n:=4) hx NA hy NM (gK (n:=4) (q:=q) (.inl rfl) hP.sam lc sc ax ay hq).1 Mf ((aG ⟨f.W,f.H,P⟩ c ax ay 4).1:Int) (q:Int),iy _ _ _ _ _,ly hP.sam sc ax ay (n:=4) (.inl rfl) lc⟩:((fp ⟨f.W,f.H,P⟩ c ax ay 4 q).length=16/\cu (fp ⟨f.W,f.H,P⟩ c ax ay 4 q))/\FrOk (dR ⟨f.W,f.H,P⟩ ax ay 4 ((aG ⟨f.W,f.H,P⟩ c ax ay 4).1:Int) (q:Int) (fp ⟨f.W,f.H,P⟩ c ax ay 4 q))/\(aG ⟨f.W,f.H,P⟩ c ax ay 4).1<=3/\0<=(aG ⟨f.W,f.H,P⟩ c ax ay 4).2/\(aG ⟨f.W,f.H,P⟩ c ax ay 4).2<=16320));have HQs:=lh (fun j=>(⟨gu b j,gY sb j⟩:(av b j).length=16/\au (av b j)));have HE:Hid (ew f b x y q=eI b x y q 4 0 ⟨f.W,f.H,f.pix⟩ [] [] 24):=lh rfl;have TX:=lh MU;have Hq:=lh hq;have HP:=lh h;have XT:=lh Ww;obtain ⟨pa,pc,rfl,-⟩:=h.open;obtain ⟨qa,qc,rfl,-⟩:=hb.open;rw [lb];rw [lb] at HQu;obtain ⟨FE,hFE⟩:∃ z,z=ew f b x y q:=⟨_,rfl⟩
 rw [<- hFE] at HE MM;clear h hb lb sb MU hq MR hFE Ww;have Nf:Hid (ae [] w (((w.alloc (.cells #[f.W,f.H,.slice pa f.pix.length pc] 24)).alloc (.cells #[(),(),(),(),(),(),(),(),JEu,JEu,JEu,JEu,JEu] 91)).alloc (.cells (sqL 3 0 [0,0,0,0] 0 0 aj [aj,aj,aj,aj]).toArray 91))):=lh (((ae.new w _).alloc _).alloc _);have Yl:Hid ((((w.alloc (.cells #[f.W,f.H,.slice pa f.pix.length pc] 24)).alloc (.cells #[(),(),(),(),(),(),(),(),JEu,JEu,JEu,JEu,JEu] 91)).alloc (.cells (sqL 3 0 [0,0,0,0] 0 0 aj [aj,aj,aj,aj]).toArray 91)).heap[w.heap.size]?=some (.cells #[f.W,f.H,.slice pa f.pix.length pc] 24 (0,0))):=lh (((ae.new (w.alloc _) _).alloc _).row (heap_alloc_new w _));have Nq:Hid ((((w.alloc (.cells #[f.W,f.H,.slice pa f.pix.length pc] 24)).alloc (.cells #[(),(),(),(),(),(),(),(),JEu,JEu,JEu,JEu,JEu] 91)).alloc (.cells (sqL 3 0 [0,0,0,0] 0 0 aj [aj,aj,aj,aj]).toArray 91)).heap[w.heap.size+1]?=some (.cells (sqL 0 0 [0,0,0,0] 0 0 aj [aj,aj,aj,aj]).toArray 91 (0,0))):=lh ((ae.new ((w.alloc _).alloc _) _).row (ak Mg));have Px:Hid ((((w.alloc (.cells #[f.W,f.H,.slice pa f.pix.length pc] 24)).alloc (.cells #[(),(),(),(),(),(),(),(),JEu,JEu,JEu,JEu,JEu] 91)).alloc (.cells (sqL 3 0 [0,0,0,0] 0 0 aj [aj,aj,aj,aj]).toArray 91)).heap[w.heap.size+1+1]?=some (.cells (sqL 3 0 [0,0,0,0] 0 0 aj [aj,aj,aj,aj]).toArray 91 (0,0))):=lh (ak Mg);have HZ3:Hid ((((w.alloc (.cells #[f.W,f.H,.slice pa f.pix.length pc] 24)).alloc (.cells #[(),(),(),(),(),(),(),(),JEu,JEu,JEu,JEu,JEu] 91)).alloc (.cells (sqL 3 0 [0,0,0,0] 0 0 aj [aj,aj,aj,aj]).toArray 91)).heap.size=w.heap.size+1+1+1):=lh Mg;go_enter Tryz.func100,Tryz.ntmps100;go_wp2_with fail;have hw3:(((w.alloc (.cells #[f.W,f.H,.slice pa f.pix.length pc] 24)).alloc (.cells #[(),(),(),(),(),(),(),(),JEu,JEu,JEu,JEu,JEu] 91)).alloc (.cells #[.int .i64 3,(),(),(),(),(),(),(),JEu,JEu,JEu,JEu,JEu] 91))=(((w.alloc (.cells #[f.W,f.H,.slice pa f.pix.length pc] 24)).alloc (.cells #[(),(),(),(),(),(),(),(),JEu,JEu,JEu,JEu,JEu] 91)).alloc (.cells (sqL 3 0 [0,0,0,0] 0 0 aj [aj,aj,aj,aj]).toArray 91)):=rfl
 rw [hw3];clear hw3;generalize PZ:World.alloc (World.alloc (World.alloc w _) _) _=W3 at *
 clear PZ;obtain ⟨BS,hBS⟩:∃ z,z=w.heap.size+1+1:=⟨_,rfl⟩
 rw [<- hBS] at Px HZ3 |-
 have HBS:=lh hBS;clear hBS;go_at_call 158;refine (HQu.out W3 Nf).mono ?_;rintro e w5 ⟨qs,rfl,hqr,hqf,NF⟩;have Rz:=ae.new w5 (.cells #[(),JEu] 39);obtain ⟨GQ,hGQ⟩:∃ z,z=W3.heap.size+1:=⟨_,rfl⟩
 rw [<- hGQ] at hqr hqf |-
 have HGQ:=lh hGQ;have HQA:=lh (Rz.row hqr);have QL:=lh (fun j (hj:j<4)=>((hqf.own j hj).ints.quiet Rz:ah .i64 (GQ+1) w5.heap.size _ (qs.getD j aj) (av b j)));have HQl:=lh hqf.len;have Jfz:=lh (NF.q Rz);have SK:Hid (W3.heap.size<=w5.heap.size):=lh NF.size;clear hqr hqf NF Rz hGQ HQu;go_wp2_with fail;generalize hW6:World.alloc w5 _=W6 at *
 clear hW6;have OI:=lh (Nf.q Jfz);have RX:Hid (w.heap.size<BS/\w.heap.size+1<BS/\BS<GQ/\GQ<W6.heap.size):=lh (by have:=HBS.out;have:=HZ3.out;have:=HGQ.out;have:=(Array.getElem?_eq_some_iff.1 HQA).1;omega);go_loopw [16,15,17,18,19,20,21,22,23,24,25,26] (fun i cv _ _ _ _ _ _ _ _ _ _ wr=>∃ (k:Nat) (P ms:List Int) (vs:List Value) (ls:List (List Int)) (c:Int) (fv:Value) (l1 h1:Nat),k<=4/\i=.int .i64 k/\cv=.int .i64 c/\Hid (FrOk ⟨f.W,f.H,P⟩)/\Hid (wr.heap[w.heap.size]?=some (.cells #[f.W,f.H,fv] 24 (0,0)))/\Hid (ah .i64 l1 h1 wr fv P/\(h1<=w.heap.size\/BS<l1)/\h1<=wr.heap.size)/\Hid (wr.heap[BS]?=some (.cells (sqL 3 0 ms 0 0 aj vs).toArray 91 (0,0)))/\Hid (ms.length=4/\vs.length=4/\ls.length=k)/\Hid (∀ j,j<k->ah .i64 (BS+1) wr.heap.size wr (vs.getD j aj) (ls.getD j []))/\Hid (eI b x y q (4-k) k ⟨f.W,f.H,P⟩ (ms.take k) ls c=FE)/\Hid (0<=c/\c<=24+70000*k)/\Hid (ae [w.heap.size,BS] W6 wr)) (fun i _ _ _ _ _ _ _ _ _ _ _ _=>4-(intOf i).toNat)
 case atStart=>exact ⟨0,f.pix,[0,0,0,0],[aj,aj,aj,aj],[],24,.slice pa f.pix.length pc,lo,hi,Mf,rfl,rfl,TX,lh (Jfz.row Yl),lh ⟨HP.quiet OI,.inl XT.out,by have:=XT.out;have:=OI.size;omega⟩,lh (Jfz.row Px),lh ⟨rfl,rfl,rfl⟩,lh (fun j hj=>absurd hj Mf),lh HE.symm,lh Mf,lh (ae.refl _ _)⟩
 case round =>
  obtain ⟨k,P,ms,vs,ls,c,fv,l1,h1,hk,rfl,rfl,Sc,OO,Zf,RV,PN,Jdf,Pn,Hc,MW⟩:=hrel;by_cases MO:k<4
  ·have Ny:(k:Int)<4:=Mf
   have NU:(0:Int)<=(k:Int):=Mf;obtain ⟨fa,fc,rfl,-⟩:=Zf.1.open;obtain ⟨a0,a1,a2⟩:=ag OO;have hqa:=MW.rowAt HQA (by have:=RX.out;simp only [Lh,Li,or_false];omega);have cq:wr.cell? ⟨GQ,k,none⟩=some (qs.getD k aj):=by
    rw [cell_of_row _ _ _ _ _ _ hqa,List.getElem?_toArray,Le,Lf (by have:=HQl.out;omega)];rfl
   have hqi:=(QL.out k MO).only MW (fun g hg=>by have:=RX.out;simp only [Lh,Li,or_false] at hg;omega);have Ve:=HQs.out k;obtain ⟨ca,cc,hcv,-⟩:=hqi.open;rw [Ve.1] at hcv;rw [hcv] at cq hqi;have HQi:=lh hqi;have Hqs:=lh Ve;have HCq:=lh cq;clear hqa hqi Ve hcv;have d1:(k:Int).tmod 2=((k % 2:Nat):Int):=by rw [LX NU];rfl
   have d2:(k:Int).tdiv 2=((k / 2:Nat):Int):=by rw [Int.tdiv_eq_ediv_of_nonneg NU];rfl
   have d3:IntKind.i64.wrap (((k % 2:Nat):Int)*4)=((k % 2:Nat):Int)*4:=Mi;have d4:IntKind.i64.wrap ((k / 2:Nat):Int)=((k / 2:Nat):Int):=Mi;have d5:IntKind.i64.wrap (((k / 2:Nat):Int)*4)=((k / 2:Nat):Int)*4:=Mi;obtain ⟨AX,hAX⟩:∃ z,z=x+((k % 2:Nat):Int)*4:=⟨_,rfl⟩
   obtain ⟨AY,hAY⟩:∃ z,z=y+((k / 2:Nat):Int)*4:=⟨_,rfl⟩
   have bx:0<=AX/\AX+4<=f.W:=Mf;have bY:0<=AY/\AY+4<=f.H:=Mf;have d6:IntKind.i64.wrap (x+((k % 2:Nat):Int)*4)=AX:=by rw [<- hAX,Ll];omega
   have d7:IntKind.i64.wrap (y+((k / 2:Nat):Int)*4)=AY:=by rw [<- hAY,Ll];omega
   have HB:=lh (And.intro bx bY);have Pt:Hid (eI b x y q (4-k) k ⟨f.W,f.H,P⟩ (ms.take k) ls c=eI b x y q (4-(k+1)) (k+1) (dR ⟨f.W,f.H,P⟩ AX AY 4 (aG ⟨f.W,f.H,P⟩ (av b k) AX AY 4).1 q (fp ⟨f.W,f.H,P⟩ (av b k) AX AY 4 q)) (ms.take k ++ [((aG ⟨f.W,f.H,P⟩ (av b k) AX AY 4).1:Int)]) (ls ++ [fp ⟨f.W,f.H,P⟩ (av b k) AX AY 4 q]) (c+4*(aG ⟨f.W,f.H,P⟩ (av b k) AX AY 4).2)):=lh (by
    obtain ⟨k3,Qd⟩:∃ k3,4-k=k3+1:=⟨3-k,Mf⟩
    rw [Qd,show 4-(k+1)=k3 by omega,hAX,hAY]
    rfl)
   have hdk:=HDk.out P Sc (av b k) Hqs.1 Hqs.2 AX AY bx.1 bx.2 bY.1 bY.2;have Qk:=lh hdk.1;have Tq:=lh hdk.2.1;obtain ⟨hm3,hs0,NC⟩:=hdk.2.2;have HBs:=lh (And.intro hs0 NC);have HEd:=lh (mY (f:=⟨f.W,f.H,P⟩) Sc Zf.1 AX AY 4 (.inl rfl) bx.1 bx.2 bY.1 bY.2);have Xp:=cH ⟨f.W,f.H,P⟩ AX AY 4;have Qn:=iA ⟨f.W,f.H,P⟩ AX AY 4;have Sl:=ix Sc.sam AX AY 4;have PQ:=fX Sc.sam AX AY 4;have TI:=eo Sc.sam (AX-1) (AY-1);have HBe:=lh (fun (W:World) (l1 h1 l2 h2 l3 h3:Nat) (v0 v1 v2:Value) (i0:ah .i64 l3 h3 W v0 (av b k)) (i1:ah .i64 l1 h1 W v1 (cZ ⟨f.W,f.H,P⟩ AX AY 4)) (i2:ah .i64 l2 h2 W v2 (bU ⟨f.W,f.H,P⟩ AX AY 4))=>tM (n:=4) (.inl rfl) i0 i1 i2 Hqs.1 Xp Qn Hqs.2 Sl PQ TI);rw [show ku (av b k) (cZ ⟨f.W,f.H,P⟩ AX AY 4) (bU ⟨f.W,f.H,P⟩ AX AY 4) (aB ⟨f.W,f.H,P⟩ (AX-1) (AY-1))=aG ⟨f.W,f.H,P⟩ (av b k) AX AY 4 from rfl] at HBe;have Ug:=lh (fun (W:World) (l1 h1 l2 h2:Nat) (v1 v2:Value) (i1:ah .i64 l1 h1 W v1 (cZ ⟨f.W,f.H,P⟩ AX AY 4)) (i2:ah .i64 l2 h2 W v2 (bU ⟨f.W,f.H,P⟩ AX AY 4))=>jq i1 i2 Xp Qn Sl PQ TI (mode:=((aG ⟨f.W,f.H,P⟩ (av b k) AX AY 4).1:Int)) Mf);rw [show bj ((aG ⟨f.W,f.H,P⟩ (av b k) AX AY 4).1:Int) (cZ ⟨f.W,f.H,P⟩ AX AY 4) (bU ⟨f.W,f.H,P⟩ AX AY 4) (aB ⟨f.W,f.H,P⟩ (AX-1) (AY-1))=eR ⟨f.W,f.H,P⟩ AX AY 4 (aG ⟨f.W,f.H,P⟩ (av b k) AX AY 4).1 from rfl] at Ug;have hpo:=gW Sc.sam AX AY (n:=4) Mf (aG ⟨f.W,f.H,P⟩ (av b k) AX AY 4).1;have Vm:=lh (fun (W:World) (l1 h1 l2 h2:Nat) (v0 v1:Value) (i0:ah .i64 l2 h2 W v0 (av b k)) (i1:ah .i64 l1 h1 W v1 (eR ⟨f.W,f.H,P⟩ AX AY 4 (aG ⟨f.W,f.H,P⟩ (av b k) AX AY 4).1))=>Dx i0 i1 Hqs.1 hpo.1 Hqs.2 hpo.2 q Hq);rw [show bA (av b k) (eR ⟨f.W,f.H,P⟩ AX AY 4 (aG ⟨f.W,f.H,P⟩ (av b k) AX AY 4).1) q=fp ⟨f.W,f.H,P⟩ (av b k) AX AY 4 q from rfl] at Vm;have Jhc:Hid (dR ⟨f.W,f.H,P⟩ AX AY 4 ((aG ⟨f.W,f.H,P⟩ (av b k) AX AY 4).1:Int) q (fp ⟨f.W,f.H,P⟩ (av b k) AX AY 4 q)=dz ⟨f.W,f.H,P⟩ AX AY 4 (dW (eR ⟨f.W,f.H,P⟩ AX AY 4 (aG ⟨f.W,f.H,P⟩ (av b k) AX AY 4).1) (bZ (fp ⟨f.W,f.H,P⟩ (av b k) AX AY 4 q) q))):=lh rfl;have HPo:=lh hpo;have HTl:=lh (And.intro Xp Qn);generalize hbe:aG ⟨f.W,f.H,P⟩ (av b k) AX AY 4=BE at *
   obtain ⟨bm,bs⟩:=BE;simp only at hm3 hs0 NC Pt Tq HBe Ug Vm HPo Jhc HBs;generalize hL:fp ⟨f.W,f.H,P⟩ (av b k) AX AY 4 q=L at *
   generalize hPP:eR ⟨f.W,f.H,P⟩ AX AY 4 bm=PP at *
   obtain ⟨Vq,Sj⟩:=Hc.out;have e1:IntKind.i64.wrap (4*bs)=4*bs:=Mi;have e2:IntKind.i64.wrap (c+4*bs)=c+4*bs:=Mi;have JoK:(0:Int)<=(bm:Int):=Mf;clear hdk bx bY hAX hAY hbe hL hPP hpo Xp Qn Sl PQ TI;generalize ((k % 2:Nat):Int)=D1 at *
   generalize ((k / 2:Nat):Int)=D2 at *
   go_wp2_with fail;clear d1 d2 d3 d4 d5 d6 d7 a0 a1 a2;go_at_call 97;refine HEd.mono ?_;rintro e w7 ⟨v1,v2,rfl,Nu,OU,Tl⟩;obtain ⟨gt,ct,rfl,-,-⟩:=Nu.form (by rw [HTl.1];omega);obtain ⟨gl,cl,rfl,-,-⟩:=OU.form (by rw [HTl.2];omega);rw [HTl.1] at Nu |-
   rw [HTl.2] at OU |-
   have HT7:=lh (And.intro Nu.ints OU.ints);have HX7:=lh Tl;have cq7:=Tl.cell cq Mg;clear Nu OU Tl cq;go_wp2_with fail;clear cq7;go_at_call 98;refine (HBe.out w7 _ _ _ _ _ _ _ _ _ (HQi.quiet HX7) HT7.1 HT7.2).mono ?_;rintro e w8 ⟨rfl,RZ⟩;have hn9:=ae.new w8 (.cells #[(),JEu] 39);have HX9:=lh (HX7.q (RZ.q hn9));have HT9:=lh (And.intro ((HT7.1.quiet RZ).quiet hn9) ((HT7.2.quiet RZ).quiet hn9));clear RZ hn9;go_wp2_with fail;generalize hW9:World.alloc w8 _=W9 at *
   clear hW9;go_at_call 99;refine (Ug.out W9 _ _ _ _ _ _ HT9.1 HT9.2).mono ?_;rintro e Sa ⟨⟨vp,rfl,Xg⟩,QI⟩;obtain ⟨gp,cp,rfl,-,-⟩:=Xg.form (by rw [HPo.1];omega);rw [HPo.1] at Xg |-
   have Jko:=ae.new Sa (.cells #[(),JEu] 39);have Jjb:=lh (HX9.q (QI.q Jko));have Jbo:=lh (Xg.ints.quiet Jko);clear Xg QI Jko;have Xo:=Jjb.row RV;have x1:(Sa.alloc (.cells #[(),JEu] 39)).cell? ⟨BS,2+k,none⟩=some (.int .i64 (ms.getD k 0)):=by rw [cell_of_row _ _ _ _ _ _ Xo];exact gw PN.1 MO
   have y1:=frozen_of_row _ BS (2+k) _ _ Xo;have hsA:=heap_setCell_same _ BS (2+k) _ _ (.int .i64 (bm:Int)) Xo;rw [pV PN.1 MO (bm:Int)] at hsA;have hoA:ae [BS] (Sa.alloc (.cells #[(),JEu] 39)) ((Sa.alloc (.cells #[(),JEu] 39)).setCell ⟨BS,2+k,none⟩ (.int .i64 (bm:Int))):=(ae.refl _ _).setCell Mg _;have NV:(ms.set k (bm:Int)).length=4:=by rw [LK];exact PN.1
   have JtB:=hoA.cell (Jjb.cell HCq Mg) (by rw [mSg];have:=RX.out;simp only;omega);have HSA:=lh hsA;have HOA:=lh (Jjb.trans hoA (U:=[BS]) Mg (fun _ h _=>h));have HPA:=lh (Jbo.only hoA (fun g hg=>by rw [mSg] at hg;have h1:=HX9.size;have h2:=MW.size;have h3:=RX.out;omega));have PA:=lh NV;clear Xo hsA hoA NV;go_wp2_with fail;clear x1 y1 JtB;generalize hWA:World.setCell (World.alloc Sa _) _ _=WA at *
   clear hWA;go_at_call 93;refine (Vm.out WA _ _ _ _ _ _ (HQi.only HOA (fun g hg=>by rw [mSg] at hg;have:=RX.out;omega)) HPA).mono ?_;rintro e Qt ⟨⟨lv,rfl,Tr⟩,Tk⟩;obtain ⟨gL,YB,rfl,hgL,-⟩:=Tr.form (by rw [Qk.1];omega);rw [Qk.1] at Tr |-
   have Xo:=Tk.row HSA;have x2:Qt.cell? ⟨BS,9+k,none⟩=some (vs.getD k aj):=by rw [cell_of_row _ _ _ _ _ _ Xo];exact dy PA PN.2.1 MO
   have y2:=frozen_of_row _ BS (9+k) _ _ Xo;have hsB:=heap_setCell_same _ BS (9+k) _ _ (.slice (some ⟨gL,0,none⟩) 16 YB) Xo;rw [oH PA.out PN.2.1 MO] at hsB;have hoB:ae [BS] Qt (Qt.setCell ⟨BS,9+k,none⟩ (.slice (some ⟨gL,0,none⟩) 16 YB)):=(ae.refl _ _).setCell Mg _;have Jnp:=lh hsB;have HWs:=lh hoB.size;have Ov:=lh ((HOA.trans Tk (U:=[BS]) (fun _ h _=>h) Mg).trans hoB (U:=[BS]) (fun _ h _=>h) (fun _ h _=>h));have z4:=MW.size;have z3:=HOA.size;have z2:=RX.out;have JmB:=lh (Tr.ints.only hoB (fun g hg=>Mj));have Qw:Hid (BS+1<=WA.heap.size):=lh Mf;have Jsk:=lh ((HPA.quiet Tk).only hoB (fun g hg=>by rw [mSg] at hg;have h1:=HX9.size;have h2:=MW.size;have h3:=RX.out;omega));have WL:=lh (Ov.rowAt OO Ml);clear Tr Tk Xo hsB hoB hgL z4 z3 z2;go_upto_region 14 with (fail)
   generalize JtT:World.setCell Qt _ _=W12 at *
   clear JtT x2 y2;have JcD:=lh (Zf.1.only Ov (fun g hg=>by rw [mSg] at hg;have h1:=Zf.2.1;have h3:=RX.out;omega));have HRl:Hid ((bZ L q).length=16):=lh (by rw [fP];exact Qk.1);have Jio:Hid ((dW PP (bZ L q)).length=16):=lh (by rw [iz (by rw [HPo.1,HRl.out])];exact HPo.1);have Pi:=lh (fun (W:World) (o:ae [] W12 W)=>lJ (JmB.quiet o) (.inl Qk.1) Qk.2 q Hq);have QN:=lh (fun (W:World) (o:ae [] W12 W) (l h:Nat) (v:Value) (hv:ah .i64 l h W v (bZ L q)) (XC:cN 401080320 (bZ L q))=>jZ (Jsk.quiet o) hv (by rw [HPo.1,HRl.out]) (by rw [HPo.1];omega) HPo.2 XC);have HPu:=lh (fun (W:World) (o:ae [] W12 W) (l h:Nat) (v:Value) (hv:ah .i64 l h W v (dW PP (bZ L q)))=>xr (f:=⟨f.W,f.H,P⟩) Sc (JcD.quiet o) hv Jio (ww _ _) HB.1.1 HB.1.2 HB.2.1 HB.2.2);rw [Jhc.out] at Pt Tq;have HNq:Hid ((⟨f.W,f.H,(dz ⟨f.W,f.H,P⟩ AX AY 4 (dW PP (bZ L q))).pix⟩:ai)=(dz ⟨f.W,f.H,P⟩ AX AY 4 (dW PP (bZ L q)))):=lh rfl;generalize (dz ⟨f.W,f.H,P⟩ AX AY 4 (dW PP (bZ L q)))=NP at *
   rw [<- HNq.out] at Tq Pt;have HNp:Hid (0<NP.pix.length):=lh (by have h1:=Tq.len;simp only at h1;have h2:8*8<=f.W*f.H:=Int.mul_le_mul Mf Mf Mf Mf;omega);have HNe:Hid (¬ BS=w.heap.size):=lh (by have:=RX.out;omega);have cL:W12.cell? ⟨BS,9+k,none⟩=some (.slice (some ⟨gL,0,none⟩) 16 YB):=by rw [cell_of_row _ _ _ _ _ _ Jnp.out];exact (dy PA (by rw [LK];exact PN.2.1) MO).trans (by rw [dt (by rw [PN.2.1];exact MO)])
   obtain ⟨a0,a1,a2⟩:=ag WL;refine wp_region_held_drew (S:=(fun w'=>w'.cell? ⟨BS,9+k,none⟩=some (.slice (some ⟨gL,0,none⟩) 16 YB))) Mh ?_ (fun hHeld=>?_)
   ·exact cL
   refine tk 1 94 ?_;refine tk 2 95 ?_;refine tk 3 96 ?_;refine tk 4 97 ?_;refine tk 5 98 ?_;refine tk 6 99 ?_;refine tk 7 100 ?_;refine tk 8 101 ?_;refine rdy (rdc 0 93 (fun K hK=>?_) (rdc 9 102 (fun K hK=>?_) .nil))
   ·go_simp
    refine hK.out _ _ ?_ (fun hHeld=>?_)
    ·first | exact cL | exact o9.cell cL Mg | exact XL.cell cL Mg | exact o9.drew.cell cL Mg | exact XL.drew.cell cL Mg
    clear hK K
    try simp only [Act.put,Lg,Lj,Lk]
    refine rdy (rdc 9 102 (fun K hK=>?_) .nil);go_simp;go_at_call 109;refine (Pi.out _ (by first | exact ae.refl _ _ | exact (ae.refl _ _).drew)).mono ?_;rintro e v9 ⟨⟨rv,rfl,hor⟩,XC,hq⟩;have o9:=lh ((by first | exact hq | exact (ae.refl _ _).drew.q hq):ae [] W12 v9);obtain ⟨gr,cr,rfl,-,-⟩:=hor.form (by rw [HRl.out];omega);have HR9:=lh hor.ints;have HAb:=lh XC;obtain ⟨a0,a1,a2⟩:=ag (o9.row WL);clear hor XC hq;refine hK.out _ _ ?_ (fun hHeld=>?_)
    ·exact o9.cell cL Mg
    exact BZ
   ·go_simp
    go_at_call 109;refine (Pi.out _ (by first | exact ae.refl _ _ | exact (ae.refl _ _).drew)).mono ?_;rintro e v9 ⟨⟨rv,rfl,hor⟩,XC,hq⟩;have o9:=lh ((by first | exact hq | exact (ae.refl _ _).drew.q hq):ae [] W12 v9);obtain ⟨gr,cr,rfl,-,-⟩:=hor.form (by rw [HRl.out];omega);have HR9:=lh hor.ints;have HAb:=lh XC;obtain ⟨a0,a1,a2⟩:=ag (o9.row WL);clear hor XC hq;refine hK.out _ _ ?_ (fun hHeld=>?_)
    ·exact o9.cell cL Mg
    clear hK K
    try simp only [Act.put,Lg,Lj,Lk]
    refine rdy (rdc 0 93 (fun K hK=>?_) (rdc 10 103 (fun K hK=>?_) .nil))
    ·go_simp
     refine hK.out _ _ ?_ (fun hHeld=>?_)
     ·first | exact cL | exact o9.cell cL Mg | exact XL.cell cL Mg | exact o9.drew.cell cL Mg | exact XL.drew.cell cL Mg
     exact BZ
    ·go_simp
     go_at_call 108;refine (QN.out _ (by first | exact o9 | exact o9.drew) _ _ _ (by first | exact HR9 | exact HR9.quiet (ae.refl _ _).drew) HAb).mono ?_;rintro e Zu ⟨⟨cv,rfl,hoc⟩,hq⟩;have XL:=lh (o9.q (by first | exact hq | exact (ae.refl _ _).drew.q hq):ae [] W12 Zu);obtain ⟨gc,cc2,rfl,-,-⟩:=hoc.form (by rw [Jio.out];omega);have Tu:=lh hoc.ints;obtain ⟨a0',a1',a2'⟩:=ag (XL.row WL);clear hoc hq;refine hK.out _ _ ?_ (fun hHeld=>?_)
     ·exact XL.cell cL Mg
     clear hK K
     try simp only [Act.put,Lg,Lj,Lk]
     refine rdy (rdc 0 93 (fun K hK=>?_) .nil);go_simp;refine hK.out _ _ ?_ (fun hHeld=>?_)
     ·first | exact cL | exact o9.cell cL Mg | exact XL.cell cL Mg | exact o9.drew.cell cL Mg | exact XL.drew.cell cL Mg
     exact BX
  ·obtain rfl:k=4:=Mf
   have Ny:¬ ((4:Nat):Int)<4:=Mf;have HF:Hid (FE=(ms,ls,c)):=lh (by rw [<- Pn.out,List.take_of_length_le (by have:=PN.1;omega)];rfl);have MX:dU (BS+1) wr.heap.size wr aj vs [] ls:=⟨ah.nil _ _ _ _,PN.2.1,fun i hi=>Jdf.out i hi⟩
   have PX:=lh MX;have Tx:=lh (dY (k:=3) (mo:=0) (ms:=ms) (vx:=0) (vy:=0) (lv:=aj) (vs:=vs) PN.1 PN.2.1);have Ro:=lh (dO (k:=3) (mo:=0) (ms:=ms) (vx:=0) (vy:=0) (lv:=aj) (vs:=vs) rfl MX.one.2);have VF:=lh (dh (k:=0) (mo:=0) (ms:=[0,0,0,0]) (vx:=0) (vy:=0) (lv:=aj) (vs:=[aj,aj,aj,aj]) (k':=3) (mo':=0) (ms':=ms) (vx':=0) (vy':=0) (lv':=aj) (vs':=vs) rfl rfl PN.1 PN.2.1);have NY:=lh Tryz.underlying91;have Zh:=lh (MW.rowAt (Jfz.row Nq) (by have:=RX.out;have:=HBS.out;simp only [Lh,Li,or_false];omega));have RB:=lh (setRow_heap wr (w.heap.size+1) _ (sqL 3 0 ms 0 0 aj vs).toArray _ _ Zh);have Sg:=lh (ae.setRow (S:=[w.heap.size+1]) (ae.refl _ wr) (g:=w.heap.size+1) (fun _=>Mg) (sqL 3 0 ms 0 0 aj vs).toArray);clear MX
   go_wp2_with (first
    | (refine az rfl (.tmp 12) 91 rfl rfl RV NY rfl Tx ?_)
    | (refine aq rfl (.tmp 10) (.tmp 105) 91 rfl rfl rfl Zh Tx VF Ro ?_)
    | fail)
   rw [HF.out] at MM;have z1:=Sg.size;have z2:=MW.size;have z3:=RX.out;have z4:=OI.size;refine bodyPost_ret (v:=.tuple #[.agg (sqL 3 0 ms 0 0 aj vs).toArray,c]) (dM Tryz.results100 _ _ (w.heap.size+1) _ _ _ _ _ rfl rfl RB NY rfl Tx) rfl (MM.out _ _ ⟨vs,rfl,PN.1,?_,?_⟩)
   ·have VX:=PX.only Sg (fun g hg=>Mj)
    exact ⟨VX.large.mono Mf Mf,VX.len,fun i hi=>(VX.small i hi).mono Mf Mf⟩
   ·exact ((OI.trans MW (U:=[]) Mg (fun g hg MO=>by simp only [Lh,Li,or_false] at hg;omega))).trans Sg (U:=[]) Mg (fun g hg MO=>Mj)
end
end Go.Proofs.YthcafdfdglfabaaGreatDoor
