/- Joined texts: EQua, EFour, ETake, EGet. Conditions: each part names its own. -/
import Derived.Test.YthcafdfdglfabaaGreatDoorW6
namespace Go.Proofs.YthcafdfdglfabaaGreatDoor
open Go.RowKit
set_option linter.unusedVariables false
set_option linter.unusedSimpArgs false
set_option maxRecDepth 100000
set_option maxHeartbeats 16000000
def rW (i:Nat):Nat:=i / 32*2+i % 8 / 4
def iu (b:List Int) (j k:Nat):List Int:=((List.range k).filter fun i=>rW i == j).map fun i=>b.getD i 0
theorem um (b:List Int) (j k:Nat):iu b j (k+1)=if rW k=j then iu b j k ++ [b.getD k 0] else iu b j k:=by
 unfold iu;rw [List.range_succ,List.filter_append,LS]
 split
 ·rename_i h;simp [h]
 ·rename_i h;simp [h]
theorem ym (b:List Int) (j k:Nat):(iu b j k).length<=k:=by
 unfold iu;rw [Lt];exact Lz (List.length_filter_le _ _) Mg
theorem yl (b:List Int) {j:Nat} (h:j<4):iu b j 64=av b j:=by
 have e:((List.range 64).filter fun i=>rW i == j)=(List.range 16).map fun k:Nat=>(j / 2*4+k / 4)*8+j % 2*4+k % 4:=by
  match j,h with
  | 0,_=>decide +kernel
  | 1,_=>decide +kernel
  | 2,_=>decide +kernel
  | 3,_=>decide +kernel
 unfold iu av;rw [e,List.map_map]
 rfl
structure oN (base:Nat) (w:World) (vs:List Value) (L:Nat->List Int):Prop where
 len:vs.length=4
 own:∀ j,j<4->Own .i64 3 base w (vs.getD j aj) (L j)
 apart:∀ i j,i<4->j<4->i≠j->∀ g,(vs.getD i aj).ownBlock=some g->(vs.getD j aj).ownBlock≠some g
theorem oN.quiet {base:Nat} {w w':World} {vs:List Value} {L:Nat->List Int} (h:oN base w vs L) (o:ae [] w w'):oN base w' vs L:=⟨h.len,fun j hj=>(h.own j hj).quiet o,h.apart⟩
theorem oN.out {base B:Nat} {w w':World} {vs:List Value} {L:Nat->List Int} (h:oN base w vs L) (o:ae [B] w w') (hB:B<base):oN base w' vs L :=
 ⟨h.len,fun j hj=>(h.own j hj).only o (fun g hg e=>by rw [mSg] at hg;have:=(h.own j hj).at g e;omega),h.apart⟩
theorem dt {vs:List Value} {k:Nat} (h:k<vs.length) (v:Value):(vs.set k v).getD k aj=v:=by
 rw [Le,LZ h];rfl
theorem eh {vs:List Value} {k j:Nat} (h:j≠k) (v:Value):(vs.set k v).getD j aj=vs.getD j aj:=by
 rw [Le,LY (Ne.symm h),<- Le]
theorem oN.grow {base:Nat} {w w':World} {vs:List Value} {L L':Nat->List Int} {k:Nat} {v:Value} (h:oN base w vs L) (hk:k<4) (a:Acc (vs.getD k aj) w v w') (ho:Own .i64 3 base w' v (L' k)) (hL:∀ j,j<4->j≠k->L' j=L j):oN base w' (vs.set k v) L':=by
 have hl:=h.len;refine ⟨by rw [LK];exact hl,fun j hj=>?_,fun i j hi hj hij g hg e=>?_⟩
 ·by_cases TZ:j=k
  ·subst TZ
   rw [dt Mf];exact ho
  ·rw [eh TZ,hL j hj TZ]
   exact (h.own j hj).only a.only (fun g hg e=>h.apart k j hk hj (Ne.symm TZ) g Mt e)
 ·by_cases hik:i=k
  ·subst hik
   have hji:j≠i:=Ne.symm hij;rw [dt Mf] at hg;rw [eh hji] at e;rcases a.at_ with x | x
   ·exact h.apart i j hi hj hij g (by rw [<- x];exact hg) e
   ·have h1:=x g hg
    have h2:=(h.own j hj).at g e;omega
  ·rw [eh hik] at hg
   by_cases TZ:j=k
   ·subst TZ
    rw [dt Mf] at e;rcases a.at_ with x | x
    ·exact h.apart i j hi hj hij g hg (by rw [<- x];exact e)
    ·have h1:=x g e
     have h2:=(h.own i hi).at g hg;omega
   ·rw [eh TZ] at e
    exact h.apart i j hi hj hij g hg e
section
theorem yo {lo hi:Nat} {bv:Value} {b:List Int} {w:World} (h:ah .i64 lo hi w bv b) (lb:b.length=64) :
  Calls Tryz.prog 139 #[bv] w fun e w'=>∃ vs,e=.returned (.tuple #[.slice (some ⟨w.heap.size,0,none⟩) 4 4,.nilIface])/\w'.heap[w.heap.size]?=some (.cells vs.toArray 22 (0,0))/\oN (w.heap.size+1) w' vs (fun j=>av b j)/\ae [] w w':=by
 refine aN fun Q MM=>?_
 have hI:=h.2;have PX:=lh (fun k:Nat=>(by
  by_cases hk:k<b.length
  ·exact h.2 _ (by rw [Le,Lf hk];exact LM _)
  ·rw [Le,List.getElem?_eq_none Mf];simp [InK]:InK .i64 (b.getD k 0)))
 obtain ⟨la,Nn,rfl,-,-,Pd,MZ⟩:=h.open;rw [lb] at Pd MZ |-
 have Sp:=lh Pd;have NX:=lh MZ;have Qx:=lh (um b);have OX:=lh (ym b);have Jii:=lh (fun j (h:j<4)=>yl b h);have Rc:(Instr.makeSlice 221 (.int .i64 4) (.int .i64 4)).run Tryz.prog w=.ok (.slice (some ⟨w.heap.size,0,none⟩) 4 4) (w.alloc (.cells (madeCells #[JEu] 4) 22)):=run_make_row' (P:=Tryz.prog) 221 22 (.slice none 0 0) 24 Tryz.underlying221 Mh rfl .i64 .i64 4 Mf Mf w;have hm4:madeCells #[JEu] 4=[aj,aj,aj,aj].toArray:=Mh;have RI:=lh (heap_alloc_new w (.cells (madeCells #[JEu] 4) 22));rw [hm4] at Rc RI;have WR:=lh (ae.new w (.cells [aj,aj,aj,aj].toArray 22));have Ul:Hid ((w.alloc (.cells [aj,aj,aj,aj].toArray 22)).heap.size=w.heap.size+1):=lh Mg;clear h lb hI Pd MZ hm4;go_enter Tryz.func139,Tryz.ntmps139;go_wp2_with fail;clear Rc;generalize NB:World.alloc w _=W1 at *
 clear NB;go_loopw [15,5,6,7] (fun i _ _ _ wr=>∃ (k:Nat) (vs:List Value),k<=64/\i=.int .i64 k/\Hid (wr.heap[w.heap.size]?=some (.cells vs.toArray 22 (0,0)))/\Hid (oN (w.heap.size+1) wr vs (fun j=>iu b j k))/\Hid (∀ j,bB (w.heap.size+1) (vs.getD j aj))/\Hid (ae [w.heap.size] W1 wr)) (fun i _ _ _ _=>64-(intOf i).toNat)
 case atStart=>exact ⟨0,[aj,aj,aj,aj],Mf,rfl,lh RI.out,lh ⟨rfl,fun j hj=>(by match j,hj with
  | 0,_=>exact Own.nil _ _ _ _
  | 1,_=>exact Own.nil _ _ _ _
  | 2,_=>exact Own.nil _ _ _ _
  | 3,_=>exact Own.nil _ _ _ _),fun i j hi hj hij g hg=>(by match i,hi with
  | 0,_=>simp [Value.ownBlock] at hg
  | 1,_=>simp [Value.ownBlock] at hg
  | 2,_=>simp [Value.ownBlock] at hg
  | 3,_=>simp [Value.ownBlock] at hg)⟩,lh (fun j=>(by match j with
  | 0=>exact bB.nil _
  | 1=>exact bB.nil _
  | 2=>exact bB.nil _
  | 3=>exact bB.nil _
  | (n+4)=>exact bB.nil _)),lh (ae.refl _ _)⟩
 case round =>
  obtain ⟨k,vs,hk,rfl,OJ,RF,Qv,MW⟩:=hrel;by_cases MO:k<64
  ·have Ny:(k:Int)<64:=Mf
   have NU:(0:Int)<=(k:Int):=Mf;obtain ⟨lb,off,rfl,-,-⟩:=Sp.out k MO;have c1:=NX.out lb off rfl k MO;have hlb:=block_lt_of_cell c1;have c0:=MW.out.cell (WR.out.cell c1 Mg) (by rw [mSg];simp only;simp only at hlb;omega);have HK4:Hid (rW k<4):=lh (by unfold rW;omega);obtain ⟨kk,Un⟩:∃ z,z=rW k:=⟨_,rfl⟩
   have d1:(k:Int).tdiv 32=((k / 32:Nat):Int):=by rw [Int.tdiv_eq_ediv_of_nonneg NU];rfl
   have d2:(k:Int).tmod 8=((k % 8:Nat):Int):=by rw [LX NU];rfl
   have d3:((k % 8:Nat):Int).tdiv 4=((k % 8 / 4:Nat):Int):=by rw [Int.tdiv_eq_ediv_of_nonneg Mf];rfl
   have d4:IntKind.i64.wrap ((k / 32:Nat):Int)=((k / 32:Nat):Int):=Mi;have d5:IntKind.i64.wrap (((k / 32:Nat):Int)*2)=((k / 32:Nat):Int)*2:=Mi;have d6:IntKind.i64.wrap ((k % 8 / 4:Nat):Int)=((k % 8 / 4:Nat):Int):=Mi;have d7:IntKind.i64.wrap (((k / 32:Nat):Int)*2+((k % 8 / 4:Nat):Int))=(kk:Int):=by rw [Un,Ll];unfold rW;omega
   generalize ((k / 32:Nat):Int)=D1 at *
   generalize ((k % 8:Nat):Int)=D2 at *
   generalize ((k % 8 / 4:Nat):Int)=D3 at *
   rw [<- Un] at HK4;have XG:kk<4:=HK4.out;have Jup:(kk:Int)<4:=Mf;have Juq:(0:Int)<=(kk:Int):=Mf;have hvl:=RF.out.len;have cv:wr.cell? ⟨w.heap.size,kk,none⟩=some (vs.getD kk aj):=by
    rw [cell_of_row _ _ _ _ _ _ OJ.out,List.getElem?_toArray,Le,Lf Mf];rfl
   have Pw:=lh (RF.out.own kk XG);have OO:=lh (Qv.out kk);have hx:=PX.out k;have HM1:Hid (iu b kk (k+1)=iu b kk k ++ [b.getD k 0]):=lh (by rw [Qx.out,if_pos Un.symm]);have HM2:Hid (∀ j,j<4->j≠kk->iu b j (k+1)=iu b j k):=lh (fun j hj OT=>by rw [Qx.out,if_neg (fun e=>OT (by rw [Un,e]))]);generalize b.getD k 0=x at *
   have MX:∀ y∈[x],InK .i64 y:=by simp only [mSg,forall_eq];exact hx
   have Oa:=lh (fun (W:World)=>bg (k:=.i64) (w:=W) (t:=3) (l:=[x]) rfl Mo MX 1 rfl rfl);have Qj:=lh (show ((iu b kk k).length+[x].length)*8<=140737488355328 by have:=OX.out kk k;simp;omega);have PG:=lh (fun (o:Obj)=>(show w.heap.size+1<=(wr.alloc o).heap.size by have:=MW.out.size;have:=Ul.out;simp;omega));have Hvl:=lh hvl;have HCv:=lh cv;obtain ⟨vk,hvk⟩:∃ z,z=vs.getD kk aj:=⟨_,rfl⟩
   rw [<- hvk] at cv Pw OO;have Hvk:=lh hvk;clear MX hx hvl hlb c1 Un hvk
   go_wp2_with (first
    | (at_builtin;refine aw rfl (.tmp 32) (.tmp 34) _ rfl EI (Pw.out.quiet (ae.new _ _)) rfl (Oa.out _) rfl Qj.out (PG.out _) (fun v1 w3 MN Nu=>?_);obtain ⟨g1,Pc,Rg,_,_⟩:=MN.form Mg;have Oy:=lh MN;have Od:=lh Nu;have Ps:w3.heap[w.heap.size]?=some (.cells vs.toArray 22 (0,0)):=Od.out.only.rowAt ((ae.new wr _).rowAt OJ.out Mg) (fun hm=>by have:=OO.out w.heap.size Mu;omega);have cx3:w3.cell? ⟨w.heap.size,kk,none⟩=some vk:=(by rw [cell_of_row _ _ _ _ _ _ Ps,<- cell_of_row _ _ _ _ _ _ OJ.out];exact cv);have fx3:=frozen_of_row w3 w.heap.size kk _ _ Ps;have SJ:=lh Ps;clear MN Nu Ps;obtain ⟨N1,YC⟩:∃ z,z=(iu b kk k ++ [x]).length:=⟨_,rfl⟩;rw [<- YC] at Rg;subst Rg;clear YC)
    | fail)
   have Qg:=heap_setCell_same w3 w.heap.size kk _ _ (.slice (some ⟨g1,0,none⟩) N1 Pc) SJ.out;rw [Lg] at Qg;have hso:ae [w.heap.size] w3 (w3.setCell ⟨w.heap.size,kk,none⟩ (.slice (some ⟨g1,0,none⟩) N1 Pc)):=(ae.refl _ _).setCell Mg _;have hA:Acc (vs.getD kk aj) (wr.alloc (.cells #[x] 3)) (.slice (some ⟨g1,0,none⟩) N1 Pc) w3:=by rw [<- Hvk.out];exact Od.out
   have JdL:=((RF.out.quiet (ae.new wr (.cells #[x] 3))).grow (L':=fun j=>iu b j (k+1)) XG hA (by rw [HM1.out];exact Oy.out) (fun j hj OT=>HM2.out j hj OT)).out hso Mf;refine ⟨⟨k+1,vs.set kk (.slice (some ⟨g1,0,none⟩) N1 Pc),Mf,Mm,lh Qg,lh JdL,lh (fun j=>?_),lh ?_⟩,Mk⟩
   ·by_cases TZ:j=kk
    ·subst TZ
     rw [dt (by rw [Hvl.out];exact XG)];exact Od.out.from_ OO.out (PG.out _)
    ·rw [eh TZ];exact Qv.out j
   ·exact (MW.out.trans ((ae.new wr _).trans Od.out.only (U:=vk.ownBlock.toList) Mg (fun g h _=>h)) (U:=[w.heap.size]) (fun _ h _=>h) (fun g hg MO=>by have h1:=OO.out g Mt;have h2:=Ul.out;omega)).trans hso (fun _ h _=>h) (fun _ h _=>h)
  ·obtain rfl:k=64:=Mf
   have Ny:¬ ((64:Nat):Int)<64:=Mf;go_wp2_with fail;refine MM.out _ _ ⟨vs,rfl,OJ.out,⟨RF.out.len,fun j hj=>?_,RF.out.apart⟩,WR.out.trans MW.out Mg (fun g hg MO=>Mj)⟩;rw [<- Jii.out j hj];exact RF.out.own j hj
end
theorem sY {b top left:List Int} {corner:Int} (h:∀ m:Nat,dl b (bj m top left corner)<=16320):∀ (ms:List Nat) (r:Nat×Int),r.2<=16320->(r.2<0->ms≠[])->0<=(eK b top left corner ms r).2/\(eK b top left corner ms r).2<=16320
 | [],r,h1,h2=>⟨by (have:¬ r.2<0:=fun e=>h2 e rfl);show 0<=r.2;omega,h1⟩
 | m :: ms,r,h1,h2=>by
  unfold eK;have h3:=ld b (bj m top left corner);refine sY h ms _ ?_ ?_
  ·split
   ·exact h m
   ·exact h1
  ·split
   ·intro e;simp only at e;omega
   ·rename_i hn;intro e;exact absurd (Or.inl e) hn
theorem ly {f:ai} (hs:au f.pix) {b:List Int} (sb:au b) (x y:Int) {n:Nat} (hn:n=4\/n=8) (lb:b.length=n*n):0<=(aG f b x y n).2/\(aG f b x y n).2<=16320:=by
 refine sY (fun m=>?_) _ _ Mn Mg;have hp:=gW hs x y (n:=n) (by rcases hn with rfl | rfl <;> omega) m;exact (Cx (by rw [lb];rcases hn with rfl | rfl <;> omega) sb hp.2).2
section
theorem DO {q lo hi TQ RK:Nat} {pv bv:Value} {f:ai} {b:List Int} {w:World} (MU:FrOk f) (h:ah .i64 lo hi w pv f.pix) (hb:ah .i64 TQ RK w bv b) (lb:b.length=64) (sb:au b) (x y:Int) (hx:0<=x) (NA:x+8<=f.W) (hy:0<=y) (NM:y+8<=f.H) (hq:q<=15) :
  Calls Tryz.prog 75 #[.agg #[f.W,f.H,pv],bv,x,y,q] w fun e w'=>∃ vs,e=.returned (.tuple #[.agg (sqL 3 0 (ew f b x y q).1 0 0 aj vs).toArray,.int .i64 (ew f b x y q).2.2])/\(ew f b x y q).1.length=4/\dU w.heap.size w'.heap.size w' aj vs [] (ew f b x y q).2.1/\ae [] w w':=by
 refine aN fun Q MM=>?_
 have MR:=MU.len;have hWW:=MU.w0;have hHH:=MU.h0;have NB:=MU.w1;have hH1:=MU.h1;have hWH:f.W*f.H<=32*32:=Int.mul_le_mul MU.w1 MU.h1 Mf Mf;have JfY:8*8<=f.W*f.H:=Int.mul_le_mul MU.w0 MU.h0 Mf Mf;have QN:=lh (fun (W:World) (o:ae [] w W)=>oQ (h.quiet o) Mf Mf);have HQu:=lh (fun (W:World) (o:ae [] w W)=>yo (hb.quiet o) lb);have Vy:=lh (fun (W:World) (P:List Int) (l1 h1 l2 h2:Nat) (v1 v2:Value) (c:List Int) (ax ay:Int) (hP:FrOk ⟨f.W,f.H,P⟩) (i1:ah .i64 l1 h1 W v1 P) (i2:ah .i64 l2 h2 W v2 c) (lc:c.length=16) (sc:au c) (hx:0<=ax) (NA:ax+4<=f.W) (hy:0<=ay) (NM:ay+4<=f.H)=>xH (n:=4) (q:=q) (f:=⟨f.W,f.H,P⟩) (.inl rfl) hP i1 i2 lc sc ax ay hx NA hy NM hq);have JrD:=lh (fun (W:World) (P:List Int) (lo hi g cap base:Nat) (lv:Value) (l:List Int) (ax ay mode:Int) (hP:FrOk ⟨f.W,f.H,P⟩) (hp:Own .i64 3 base W (.slice (some ⟨g,0,none⟩) P.length cap) P) (hl:ah .i64 lo hi W lv l) (hg:g<lo\/hi<=g) (Qn:l.length=16) (Nj:cu l) (hm:0<=mode/\mode<=3) (hx:0<=ax) (NA:ax+4<=f.W) (hy:0<=ay) (NM:ay+4<=f.H)=>lS (n:=4) (q:=q) (f:=⟨f.W,f.H,P⟩) hP hp hl hg (.inl rfl) Qn Nj hq hm hx NA hy NM);have HDk:=lh (fun (P:List Int) (hP:FrOk ⟨f.W,f.H,P⟩) (c:List Int) (lc:c.length=16) (sc:au c) (ax ay:Int) (hx:0<=ax) (NA:ax+4<=f.W) (hy:0<=ay) (NM:ay+4<=f.H)=>(⟨gK (n:=4) (q:=q) (.inl rfl) hP.sam lc sc ax ay hq,iq hP (n:=4) hx NA hy NM (gK (n:=4) (q:=q) (.inl rfl) hP.sam lc sc ax ay hq).1 Mf ((aG ⟨f.W,f.H,P⟩ c ax ay 4).1:Int) (q:Int),iy _ _ _ _ _,ly hP.sam sc ax ay (n:=4) (.inl rfl) lc⟩:((fp ⟨f.W,f.H,P⟩ c ax ay 4 q).length=16/\cu (fp ⟨f.W,f.H,P⟩ c ax ay 4 q))/\FrOk (dR ⟨f.W,f.H,P⟩ ax ay 4 ((aG ⟨f.W,f.H,P⟩ c ax ay 4).1:Int) (q:Int) (fp ⟨f.W,f.H,P⟩ c ax ay 4 q))/\(aG ⟨f.W,f.H,P⟩ c ax ay 4).1<=3/\0<=(aG ⟨f.W,f.H,P⟩ c ax ay 4).2/\(aG ⟨f.W,f.H,P⟩ c ax ay 4).2<=16320));have HQs:=lh (fun j=>(⟨gu b j,gY sb j⟩:(av b j).length=16/\au (av b j)));have HE:Hid (ew f b x y q=eI b x y q 4 0 ⟨f.W,f.H,f.pix⟩ [] [] 24):=lh rfl;have TX:=lh MU;have OX:=lh (fun (P:List Int) (hP:FrOk ⟨f.W,f.H,P⟩)=>(by have h1:(P.length:Int)=f.W*f.H:=hP.len;omega:P.length=f.pix.length))
 obtain ⟨pa,pc,rfl,-⟩:=h.open;obtain ⟨qa,qc,rfl,-⟩:=hb.open;rw [lb];rw [lb] at HQu;have HLp:Hid (0<f.pix.length):=lh Mf;obtain ⟨FE,hFE⟩:∃ z,z=ew f b x y q:=⟨_,rfl⟩
 rw [<- hFE] at HE MM;clear h hb lb sb MU hq MR hWH JfY hFE;generalize f.pix.length=NL at *
 have Wo:=lh (OX.out f.pix TX.out);have Na:Hid (ae [] w ((w.alloc (.cells #[f.W,f.H,.slice pa NL pc] 24)).alloc (.cells #[(),(),(),(),(),(),(),(),JEu,JEu,JEu,JEu,JEu] 76))):=lh ((ae.new w _).alloc _);have Yl:Hid (((w.alloc (.cells #[f.W,f.H,.slice pa NL pc] 24)).alloc (.cells #[(),(),(),(),(),(),(),(),JEu,JEu,JEu,JEu,JEu] 76)).heap[w.heap.size]?=some (.cells #[f.W,f.H,.slice pa NL pc] 24 (0,0))):=lh ((ae.new (w.alloc _) _).row (heap_alloc_new w _));have Nq:Hid (bI (w.heap.size+1) ((w.alloc (.cells #[f.W,f.H,.slice pa NL pc] 24)).alloc (.cells #[(),(),(),(),(),(),(),(),JEu,JEu,JEu,JEu,JEu] 76)) 0 0 [0,0,0,0] 0 0 aj [aj,aj,aj,aj]):=lh (ak Mg);have Vo:Hid (w.heap.size+1<((w.alloc (.cells #[f.W,f.H,.slice pa NL pc] 24)).alloc (.cells #[(),(),(),(),(),(),(),(),JEu,JEu,JEu,JEu,JEu] 76)).heap.size):=lh Mg;obtain ⟨a0,a1,a2⟩:=ag Yl.out;go_enter Tryz.func75,Tryz.ntmps75;go_wp2_with fail;generalize Tg:World.alloc (World.alloc w _) _=W2 at *
 clear Tg a0 a1 a2;go_at_call 51;refine (QN.out W2 Na.out).mono ?_;rintro e w3 ⟨v3,rfl,ho3,Nb⟩;obtain ⟨g0,PB,rfl,hg0,Jpc⟩:=ho3.form (by rw [Wo.out];exact HLp.out);rw [Wo.out] at ho3 |-
 have Ql:=lh ho3;have Nf:=lh Nb;have HG0:=lh (And.intro hg0 Jpc);have JfB:=lh (Nb.row Yl.out);clear ho3 Nb hg0 Jpc QN;obtain ⟨a0,a1,a2⟩:=ag JfB.out;have f2:=frozen_of_row w3 w.heap.size 2 _ _ JfB.out;have Ub:=heap_setCell_same w3 w.heap.size 2 _ _ (.slice (some ⟨g0,0,none⟩) NL PB) JfB.out;have JdT:ae [w.heap.size] w3 (w3.setCell ⟨w.heap.size,2,none⟩ (.slice (some ⟨g0,0,none⟩) NL PB)):=(ae.refl _ _).setCell Mg _;have HR4:Hid ((w3.setCell ⟨w.heap.size,2,none⟩ (.slice (some ⟨g0,0,none⟩) NL PB)).heap[w.heap.size]?=some (.cells #[f.W,f.H,.slice (some ⟨g0,0,none⟩) NL PB] 24 (0,0))):=lh Ub;have Jfu:=lh JdT;clear Ub JdT;go_wp2_with fail;have JpV:(w3.setCell ⟨w.heap.size,2,none⟩ (.slice (some ⟨g0,0,none⟩) NL PB)).heap.size=w3.heap.size:=by simp [World.setCell]
 have Jdb:=lh JpV;clear JpV;generalize hW4:World.setCell w3 _ _=W4 at *
 clear hW4 a0 a1 a2 f2;have NI:Hid (ae [] w W4):=lh ((Na.out.q Nf.out).trans Jfu.out Mg (fun g hg MO=>Mj));go_at_call 139;refine (HQu.out W4 NI.out).mono ?_;rintro e w5 ⟨qs,rfl,hqr,hqf,NF⟩;have HQR:=lh hqr;have HQF:=lh hqf;have Nz:=lh NF;clear hqr hqf NF HQu;go_wp2_with fail;have hz4:W4.heap.size=w3.heap.size:=Jdb.out;have HN:Hid (w.heap.size+1<W2.heap.size/\W2.heap.size<=g0/\g0<W4.heap.size/\W4.heap.size<w5.heap.size):=lh ⟨Vo.out,HG0.out.1,by rw [hz4];exact HG0.out.2,(Array.getElem?_eq_some_iff.1 HQR.out).1⟩;obtain ⟨BS,hBS⟩:∃ z,z=w5.heap.size:=⟨_,rfl⟩
 obtain ⟨GQ,hGQ⟩:∃ z,z=W4.heap.size:=⟨_,rfl⟩
 have Rz:ae [] w5 (w5.alloc (.cells (sqL 3 0 [0,0,0,0] 0 0 aj [aj,aj,aj,aj]).toArray 76)):=ae.new _ _;have HRS:Hid (bI BS (w5.alloc (.cells (sqL 3 0 [0,0,0,0] 0 0 aj [aj,aj,aj,aj]).toArray 76)) 3 0 [0,0,0,0] 0 0 aj [aj,aj,aj,aj]):=lh (by rw [hBS];exact heap_alloc_new _ _);have HR6:=lh (Rz.row (Nz.out.row HR4.out));have Jst:Hid (bI (w.heap.size+1) (w5.alloc (.cells (sqL 3 0 [0,0,0,0] 0 0 aj [aj,aj,aj,aj]).toArray 76)) 0 0 [0,0,0,0] 0 0 aj [aj,aj,aj,aj]):=lh (Rz.row (Nz.out.row (Jfu.out.rowAt (Nf.out.row Nq.out) Mg)));have HQA:=lh (Rz.row HQR.out);have QL:=lh (fun j (hj:j<4)=>((HQF.out.own j hj).ints.quiet Rz:ah .i64 (W4.heap.size+1) w5.heap.size _ (qs.getD j aj) (av b j)));have HQl:=lh HQF.out.len;have Xv:=lh ((((Ql.out.only Jfu.out (fun g hg e=>by rw [mSg] at hg;simp only [Value.ownBlock,LU] at e;have:=HN.out;omega)).quiet Nz.out).quiet Rz).lower (base':=w.heap.size) Na.out.size);have OI:=lh ((NI.out.q Nz.out).q Rz);have RX:Hid (BS<(w5.alloc (.cells (sqL 3 0 [0,0,0,0] 0 0 aj [aj,aj,aj,aj]).toArray 76)).heap.size):=lh (by rw [hBS];simp);rw [<- hBS] at HN QL;rw [<- hGQ] at HN HQA QL |-
 rw [<- hBS];have hw6:w5.alloc (.cells #[.int .i64 3,(),(),(),(),(),(),(),JEu,JEu,JEu,JEu,JEu] 76)=w5.alloc (.cells (sqL 3 0 [0,0,0,0] 0 0 aj [aj,aj,aj,aj]).toArray 76):=rfl;rw [hw6];clear hw6 Rz hz4 hBS hGQ HQR HQF Nz HR4 Jfu Nf JfB Yl Nq Ql Jdb NI Na HG0 Vo;generalize World.alloc w5 _=W6 at *
 have HK0:Hid (w.heap.size∉[g0,BS]/\w.heap.size+1∉[g0,BS]/\GQ∉[g0,BS]/\BS≠g0):=lh (by have:=HN.out;simp only [Lh,Li,or_false];omega);go_loopw [35,15] (fun i cv wr=>∃ (k:Nat) (P ms:List Int) (vs:List Value) (ls:List (List Int)) (c:Int),k<=4/\i=.int .i64 k/\cv=.int .i64 c/\Hid (FrOk ⟨f.W,f.H,P⟩)/\Hid (Own .i64 3 w.heap.size wr (.slice (some ⟨g0,0,none⟩) NL PB) P)/\Hid (bI BS wr 3 0 ms 0 0 aj vs)/\Hid (ms.length=4/\vs.length=4/\ls.length=k)/\Hid (∀ j,j<k->ah .i64 (BS+1) wr.heap.size wr (vs.getD j aj) (ls.getD j []))/\Hid (eI b x y q (4-k) k ⟨f.W,f.H,P⟩ (ms.take k) ls c=FE)/\Hid (0<=c/\c<=24+70000*k)/\Hid (ae [g0,BS] W6 wr)) (fun i _ _=>4-(intOf i).toNat)
 case atStart=>exact ⟨0,f.pix,[0,0,0,0],[aj,aj,aj,aj],[],24,Mf,rfl,rfl,TX,Xv,HRS,lh ⟨rfl,rfl,rfl⟩,lh (fun j hj=>absurd hj Mf),lh HE.out.symm,lh Mf,lh (ae.refl _ _)⟩
 case round =>
  obtain ⟨k,P,ms,vs,ls,c,hk,rfl,rfl,Sc,Nc,RV,PN,Jdf,Pn,Hc,MW⟩:=hrel;by_cases MO:k<4
  ·have Ny:(k:Int)<4:=Mf
   have NU:(0:Int)<=(k:Int):=Mf;have QK:Hid (P.length=NL):=lh (OX.out P Sc.out);obtain ⟨a0,a1,a2⟩:=ag (MW.out.rowAt HR6.out HK0.out.1);have hqa:=MW.out.rowAt HQA.out HK0.out.2.2.1;have cq:wr.cell? ⟨GQ,k,none⟩=some (qs.getD k aj):=by
    rw [cell_of_row _ _ _ _ _ _ hqa,List.getElem?_toArray,Le,Lf (by have:=HQl.out;omega)];rfl
   have hqi:=(QL.out k MO).only MW.out (fun g hg=>by have:=HN.out;simp only [Lh,Li,or_false] at hg;omega);have Ve:=HQs.out k;obtain ⟨ca,cc,hcv,-⟩:=hqi.open;rw [Ve.1] at hcv;rw [hcv] at cq hqi;have HQi:=lh hqi;have Hqs:=lh Ve;clear hqa hqi Ve hcv;have d1:(k:Int).tmod 2=((k % 2:Nat):Int):=by rw [LX NU];rfl
   have d2:(k:Int).tdiv 2=((k / 2:Nat):Int):=by rw [Int.tdiv_eq_ediv_of_nonneg NU];rfl
   have d3:IntKind.i64.wrap (((k % 2:Nat):Int)*4)=((k % 2:Nat):Int)*4:=Mi;have d4:IntKind.i64.wrap ((k / 2:Nat):Int)=((k / 2:Nat):Int):=Mi;have d5:IntKind.i64.wrap (((k / 2:Nat):Int)*4)=((k / 2:Nat):Int)*4:=Mi;obtain ⟨AX,hAX⟩:∃ z,z=x+((k % 2:Nat):Int)*4:=⟨_,rfl⟩
   obtain ⟨AY,hAY⟩:∃ z,z=y+((k / 2:Nat):Int)*4:=⟨_,rfl⟩
   have bx:0<=AX/\AX+4<=f.W:=Mf;have bY:0<=AY/\AY+4<=f.H:=Mf;have d6:IntKind.i64.wrap (x+((k % 2:Nat):Int)*4)=AX:=by rw [<- hAX,Ll];omega
   have d7:IntKind.i64.wrap (y+((k / 2:Nat):Int)*4)=AY:=by rw [<- hAY,Ll];omega
   have HB:=lh (And.intro bx bY);have Pt:Hid (eI b x y q (4-k) k ⟨f.W,f.H,P⟩ (ms.take k) ls c=eI b x y q (4-(k+1)) (k+1) (dR ⟨f.W,f.H,P⟩ AX AY 4 (aG ⟨f.W,f.H,P⟩ (av b k) AX AY 4).1 q (fp ⟨f.W,f.H,P⟩ (av b k) AX AY 4 q)) (ms.take k ++ [((aG ⟨f.W,f.H,P⟩ (av b k) AX AY 4).1:Int)]) (ls ++ [fp ⟨f.W,f.H,P⟩ (av b k) AX AY 4 q]) (c+4*(aG ⟨f.W,f.H,P⟩ (av b k) AX AY 4).2)):=lh (by
    obtain ⟨k3,Qd⟩:∃ k3,4-k=k3+1:=⟨3-k,Mf⟩
    rw [Qd,show 4-(k+1)=k3 by omega,hAX,hAY]
    rfl)
   have hdk:=HDk.out P Sc.out (av b k) Hqs.out.1 Hqs.out.2 AX AY bx.1 bx.2 bY.1 bY.2;have Xf:=Vy.out wr P _ _ _ _ _ _ (av b k) AX AY Sc.out Nc.out.ints HQi.out Hqs.out.1 Hqs.out.2 bx.1 bx.2 bY.1 bY.2;have Qk:=lh hdk.1;have Tq:=lh hdk.2.1;obtain ⟨hm3,hs0,NC⟩:=hdk.2.2;have PS:=lh Xf;generalize hbe:aG ⟨f.W,f.H,P⟩ (av b k) AX AY 4=BE at *
   obtain ⟨bm,bs⟩:=BE;simp only at hm3 hs0 NC Pt Tq PS;generalize hL:fp ⟨f.W,f.H,P⟩ (av b k) AX AY 4 q=L at *
   obtain ⟨Vq,Sj⟩:=Hc.out;have e1:IntKind.i64.wrap (4*bs)=4*bs:=Mi;have e2:IntKind.i64.wrap (c+4*bs)=c+4*bs:=Mi;clear hdk Xf bx bY hAX hAY hbe hL;generalize ((k % 2:Nat):Int)=D1 at *
   generalize ((k / 2:Nat):Int)=D2 at *
   go_wp2_with fail;clear d1 d2 d3 d4 d5 d6 d7;go_at_call 74;refine PS.out.mono ?_;rintro e w7 ⟨v7,rfl,Zs,Tl⟩;obtain ⟨gL,YB,rfl,hgL,JBy⟩:=Zs.form (by rw [Qk.out.1];omega);rw [Qk.out.1] at Zs |-
   have RH:=lh Zs;have Vn:=lh Tl;have hs7:bI BS w7 3 0 ms 0 0 aj vs:=Tl.row RV.out;clear Zs Tl a0 a1 a2 cq PS;have x1:=hs7.cell (gw PN.out.1 MO);have y1:=frozen_of_row w7 BS (2+k) _ _ hs7;obtain ⟨hsA,hoA⟩:=hs7.set (pV PN.out.1 MO (bm:Int));have NV:(ms.set k (bm:Int)).length=4:=by rw [LK];exact PN.out.1
   have x2:=hsA.cell (dy NV PN.out.2.1 MO);have y2:=frozen_of_row _ BS (9+k) _ _ hsA;obtain ⟨hsB,hoB⟩:=hsA.set (oH NV PN.out.2.1 MO (.slice (some ⟨gL,0,none⟩) 16 YB));have HSB:=lh hsB;have HOB:=lh (hoA.trans hoB (U:=[BS]) (fun _ h _=>h) (fun _ h _=>h));have JoK:(0:Int)<=(bm:Int):=Mf;clear hs7 hsA hoA hsB hoB NV;have r7:=Vn.out.row (MW.out.rowAt HR6.out HK0.out.1);have r8:=HOB.out.rowAt r7 (by have:=HK0.out;simp only [mSg,Lh,Li,or_false] at this |-;omega);obtain ⟨a0,a1,a2⟩:=ag r8;go_wp2_with fail;clear x1 y1 x2 y2 r7 a0 a1 a2;generalize hW8:World.setCell (World.setCell w7 _ _) _ _=W8 at *
   clear hW8 r8;have Ur:=lh ((Nc.out.quiet Vn.out).only HOB.out (fun g hg e=>by rw [mSg] at hg;simp only [Value.ownBlock,LU] at e;have:=HK0.out.2.2.2;omega));have HI8:=lh (RH.out.ints.only HOB.out (fun g hg=>by rw [mSg] at hg;have:=MW.out.size;have:=RX.out;omega));have Jug:g0<wr.heap.size:=by have:=HN.out;have:=MW.out.size;have:=RX.out;omega
   have JbG:=JrD.out W8 P _ _ g0 PB w.heap.size _ L AX AY (bm:Int) Sc.out (by rw [QK.out];exact Ur.out) HI8.out (.inl Jug) Qk.out.1 Qk.out.2 ⟨JoK,Mf⟩ HB.out.1.1 HB.out.1.2 HB.out.2.1 HB.out.2.2;rw [QK.out] at JbG;have HDe:=lh JbG;clear JbG;go_at_call 83;refine HDe.out.mono ?_;rintro e w9 ⟨rfl,Oc,Rm⟩;have HO9:=lh Oc;have Ph:=lh Rm;clear Oc Rm HDe;go_wp2_with fail;have z1:=Vn.out.size;have z2:=HOB.out.size;have z3:=Ph.out.size;have z4:=MW.out.size;have z5:=RX.out;have Jaj:ae [g0,BS] wr w9:=((Vn.out.mono (U:=[g0,BS]) Mg).trans HOB.out (U:=[g0,BS]) (fun _ h _=>h) (fun g h _=>by rw [mSg] at h;subst h;simp)).trans Ph.out (U:=[g0,BS]) (fun _ h _=>h) (fun g h _=>by rw [mSg] at h;subst h;simp);refine ⟨⟨k+1,(dR ⟨f.W,f.H,P⟩ AX AY 4 bm q L).pix,ms.set k bm,vs.set k (.slice (some ⟨gL,0,none⟩) 16 YB),ls ++ [L],c+4*bs,Mf,Mm,rfl,Tq,HO9,lh (Ph.out.rowAt HSB.out (by have:=HK0.out.2.2.2;simp only [mSg];omega)),lh ⟨by rw [LK];exact PN.out.1,by rw [LK];exact PN.out.2.1,by rw [Ln,PN.out.2.2];rfl⟩,lh (fun j hj=>?_),lh ?_,lh ?_,lh (MW.out.trans Jaj (fun _ h _=>h) (fun _ h _=>h))⟩,Mk⟩
   ·by_cases TZ:j=k
    ·subst TZ
     have e2:(ls ++ [L]).getD j []=L:=by
      rw [Le,Lu (by rw [PN.out.2.2];exact Lm _),PN.out.2.2,Nat.sub_self];rfl
     rw [dt (by have:=PN.out.2.1;omega),e2];exact (HI8.out.only Ph.out (fun g hg=>Mj)).mono Mf Mf
    ·have YJ:j<k:=Mf
     have e2:(ls ++ [L]).getD j []=ls.getD j []:=by
      rw [Le,Lv (by rw [PN.out.2.2];exact YJ),<- Le]
     rw [eh TZ,e2];exact ((Jdf.out j YJ).only Jaj (fun g hg=>by have:=HN.out;simp only [Lh,Li,or_false] at hg;omega)).mono (Lm _) Jaj.size
   ·rw [uB PN.out.1 MO,<- Pn.out,Pt.out];rfl
   ·have:=Hc.out;omega
  ·obtain rfl:k=4:=Mf
   have Ny:¬ ((4:Nat):Int)<4:=Mf;have HF:Hid (FE=(ms,ls,c)):=lh (by rw [<- Pn.out,List.take_of_length_le (by have:=PN.out.1;omega)];rfl);have MX:dU (BS+1) wr.heap.size wr aj vs [] ls:=⟨ah.nil _ _ _ _,PN.out.2.1,fun i hi=>Jdf.out i hi⟩
   have PX:=lh MX;have Tx:=lh (ia (k:=3) (mo:=0) (ms:=ms) (vx:=0) (vy:=0) (lv:=aj) (vs:=vs) PN.out.1 PN.out.2.1);have Ro:=lh (dO (k:=3) (mo:=0) (ms:=ms) (vx:=0) (vy:=0) (lv:=aj) (vs:=vs) rfl MX.one.2);have VF:=lh (dh (k:=0) (mo:=0) (ms:=[0,0,0,0]) (vx:=0) (vy:=0) (lv:=aj) (vs:=[aj,aj,aj,aj]) (k':=3) (mo':=0) (ms':=ms) (vx':=0) (vy':=0) (lv':=aj) (vs':=vs) rfl rfl PN.out.1 PN.out.2.1);have NY:=lh Tryz.underlying76;have Zh:=lh (MW.out.rowAt Jst.out HK0.out.2.1);have RB:=lh (show bI (w.heap.size+1) (wr.setRow (w.heap.size+1) (sqL 3 0 ms 0 0 aj vs).toArray) 3 0 ms 0 0 aj vs from setRow_heap wr (w.heap.size+1) _ _ _ _ Zh.out);have Sg:=lh (ae.setRow (S:=[w.heap.size+1]) (ae.refl _ wr) (g:=w.heap.size+1) (fun _=>Mg) (sqL 3 0 ms 0 0 aj vs).toArray);clear MX
   go_wp2_with (first
    | (refine az rfl (.tmp 14) 76 rfl rfl RV.out NY.out rfl Tx.out ?_)
    | (refine aq rfl (.tmp 10) (.tmp 80) 76 rfl rfl rfl Zh.out Tx.out VF.out Ro.out ?_)
    | fail)
   rw [HF.out] at MM;have z1:=Sg.out.size;have z2:=MW.out.size;have z3:=HN.out;have z4:=RX.out;refine bodyPost_ret (v:=.tuple #[.agg (sqL 3 0 ms 0 0 aj vs).toArray,c]) (dM Tryz.results75 _ _ (w.heap.size+1) _ _ _ _ _ rfl rfl RB.out NY.out rfl Tx.out) rfl (MM.out _ _ ⟨vs,rfl,PN.out.1,?_,?_⟩)
   ·have VX:=PX.out.only Sg.out (fun g hg=>Mj)
    exact ⟨VX.large.mono Mf Mf,VX.len,fun i hi=>(VX.small i hi).mono Mf Mf⟩
   ·exact ((OI.out.trans MW.out (U:=[]) Mg (fun g hg MO=>by simp only [Lh,Li,or_false] at hg;omega))).trans Sg.out (U:=[]) Mg (fun g hg MO=>Mj)
end
structure mQ (BQ LB base:Nat) (w:World) (r:SqD×Int):Prop where
 least:w.heap[LB]?=some (.cells #[r.2] 3 (0,0))
 best:∃ lv vs,bI BQ w r.1.kind r.1.mode r.1.modes r.1.vx r.1.vy lv vs/\dU base w.heap.size w lv vs r.1.large r.1.small
 ml:r.1.modes.length=4
 lt:BQ<base/\LB<base/\BQ≠LB
theorem mQ.quiet {BQ LB base:Nat} {w w':World} {r:SqD×Int} (h:mQ BQ LB base w r) (o:ae [] w w'):mQ BQ LB base w' r:=by
 obtain ⟨lv,vs,h1,h2⟩:=h.best;have h3:=h2.only o Mg;exact ⟨o.row h.least,⟨lv,vs,o.row h1,⟨h3.large.mono (Lm _) o.size,h3.len,fun i hi=>(h3.small i hi).mono (Lm _) o.size⟩⟩,h.ml,h.lt⟩
theorem dU.grown {lo:Nat} {w w':World} {lv:Value} {vs:List Value} {L:List Int} {S:List (List Int)} (h:dU lo w.heap.size w lv vs L S) {T:List Nat} (o:ae T w w') (hT:∀ g∈T,g<lo):dU lo w'.heap.size w' lv vs L S:=by
 have h3:=h.only o (fun g hg=>.inl (hT g hg));exact ⟨h3.large.mono (Lm _) o.size,h3.len,fun i hi=>(h3.small i hi).mono (Lm _) o.size⟩
section
theorem Cv {p:Prop} (h:p:=by
 clear hc;go_enter Tryz.func68,Tryz.ntmps68
 go_wp2_with (first
  | (refine az rfl (.tmp 4) 76 rfl rfl JcM.out NY.out rfl HI.out ?_)
  | (refine aq rfl (.tmp 3) (.tmp 13) 76 rfl rfl rfl HB.out HI.out HS.out H1.out ?_)
  | fail)
 exact bodyPost_end (results_none Tryz.results68 _ _ _) rfl (MM.out _ _ ⟨rfl,Pq.out⟩)):p:=h
theorem DR {LB BQ:Nat} {C C':Array Value} {ls c:Int} {w:World} (hl:w.heap[LB]?=some (.cells #[ls] 3 (0,0))) (hb:w.heap[BQ]?=some (.cells C 76 (0,0))) (OT:BQ≠LB) (h1:C'.all (·.oneCell')=true) (hs:C.size=C'.size) (hi:(Tryz.prog.info? 76).map (·.size)=some C'.size) :
  Calls Tryz.prog 68 #[.agg C',c,.pointer (some ⟨LB,0,none⟩),.pointer (some ⟨BQ,0,none⟩)] w fun e w'=>e=.returned (.tuple #[])/\w'.heap[LB]?=some (.cells #[.int .i64 (if ls<0\/c<ls then c else ls)] 3 (0,0))/\w'.heap[BQ]?=some (.cells (if ls<0\/c<ls then C' else C) 76 (0,0))/\ae [LB,BQ] w w':=by
 refine aN fun Q MM=>?_
 have hq:=ae.new w (.cells C' 76);have JcM:=lh (heap_alloc_new w (.cells C' 76));have HL:=lh (hq.row hl);have HB:=lh (hq.row hb);have HQ:=lh hq;have HI:=lh hi;have HS:=lh hs;have H1:=lh h1;have hlw:=(Array.getElem?_eq_some_iff.1 hl).1;have hbw:=(Array.getElem?_eq_some_iff.1 hb).1;have NY:=lh Tryz.underlying76;have c0:(w.alloc (.cells C' 76)).cell? ⟨LB,0,none⟩=some (.int .i64 ls):=by rw [cell_of_row _ _ _ _ _ _ HL.out];rfl
 clear hq hi hs h1;have way:(ls<0\/c<ls)->Calls Tryz.prog 68 #[.agg C',c,.pointer (some ⟨LB,0,none⟩),.pointer (some ⟨BQ,0,none⟩)] w Q:=by
  intro hc;rw [if_pos hc,if_pos hc] at MM;have Rn:=setRow_heap (w.alloc (.cells C' 76)) BQ _ C' _ _ HB.out;have OU:=ae.setRow (S:=[BQ]) (ae.refl _ (w.alloc (.cells C' 76))) (g:=BQ) (fun _=>Mg) C';have hl2:=OU.rowAt HL.out (by simp only [mSg];omega);have c2:((w.alloc (.cells C' 76)).setRow BQ C').cell? ⟨LB,0,none⟩=some (.int .i64 ls):=by rw [cell_of_row _ _ _ _ _ _ hl2];rfl
  have f2:=frozen_of_row _ LB 0 _ _ hl2;have Px:=lh Rn;have Sb:=lh OU;have Ps:=heap_setCell_same _ LB 0 _ _ (.int .i64 c) hl2;have ho3:ae [LB] ((w.alloc (.cells C' 76)).setRow BQ C') (((w.alloc (.cells C' 76)).setRow BQ C').setCell ⟨LB,0,none⟩ (.int .i64 c)):=(ae.refl _ _).setCell Mg _;have SJ:=lh Ps;have Ql:=lh ho3;clear Rn OU hl2 Ps ho3 hl hb;have Pq:Hid ((((w.alloc (.cells C' 76)).setRow BQ C').setCell ⟨LB,0,none⟩ (.int .i64 c)).heap[LB]?=some (.cells #[c] 3 (0,0))/\(((w.alloc (.cells C' 76)).setRow BQ C').setCell ⟨LB,0,none⟩ (.int .i64 c)).heap[BQ]?=some (.cells C' 76 (0,0))/\ae [LB,BQ] w (((w.alloc (.cells C' 76)).setRow BQ C').setCell ⟨LB,0,none⟩ (.int .i64 c))):=lh ⟨SJ.out,Ql.out.rowAt Px.out (by simp only [mSg];omega),((HQ.out.mono (U:=[LB,BQ]) Mg).trans Sb.out (U:=[LB,BQ]) (fun _ h _=>h) (fun g h _=>by rw [mSg] at h;subst h;simp)).trans Ql.out (fun _ h _=>h) (fun g h _=>by rw [mSg] at h;subst h;simp)⟩;by_cases hn:ls<0
  ·exact Cv
  ·have QZ:c<ls:=hc.elim (fun h=>absurd h hn) id
   exact Cv
 by_cases hc:ls<0\/c<ls
 ·exact way hc
 ·rw [if_neg hc,if_neg hc] at MM
  have n1:¬ ls<0:=fun h=>hc (.inl h)
  have n2:¬ c<ls:=fun h=>hc (.inr h)
  clear hc way hl hb;go_enter Tryz.func68,Tryz.ntmps68;go_wp2_with fail;exact bodyPost_end (results_none Tryz.results68 _ _ _) rfl (MM.out _ _ ⟨rfl,HL.out,HB.out,HQ.out.mono Mg⟩)
theorem nc {BQ LB base:Nat} {r:SqD×Int} {s:SqD} {c:Int} {w:World} {lv:Value} {vs:List Value} (h:mQ BQ LB base w r) (hm:s.modes.length=4) (MX:dU base w.heap.size w lv vs s.large s.small) :
  Calls Tryz.prog 68 #[.agg (sqL s.kind s.mode s.modes s.vx s.vy lv vs).toArray,c,.pointer (some ⟨LB,0,none⟩),.pointer (some ⟨BQ,0,none⟩)] w fun e w'=>e=.returned (.tuple #[])/\mQ BQ LB base w' (dK r s c)/\ae [LB,BQ] w w':=by
 obtain ⟨XK,WJ,hr,Um⟩:=h.best;obtain ⟨l1,l2,l3⟩:=h.lt;refine (DR h.least hr l3 (dO MX.one.1 MX.one.2) (dh h.ml Um.len hm MX.len) (ia hm MX.len)).mono ?_;rintro e w' ⟨rfl,hl',hb',hq'⟩;have hT:∀ g∈[LB,BQ],g<base:=by intro g hg;simp only [Lh,Li,or_false] at hg;omega
 refine ⟨rfl,?_,hq'⟩;unfold dK;by_cases hc:r.2<0\/c<r.2
 ·rw [if_pos hc] at hl' hb' |-
  exact ⟨hl',⟨lv,vs,hb',MX.grown hq' hT⟩,hm,h.lt⟩
 ·rw [if_neg hc] at hl' hb' |-
  exact ⟨hl',⟨XK,WJ,hb',Um.grown hq' hT⟩,h.ml,h.lt⟩
end
section
theorem Jp {lo hi:Nat} {pv:Value} {w:World} {f:ai} (MU:FrOk f) (h:ah .i64 lo hi w pv f.pix) (x y:Int) (hx:0<=x/\x<f.W) (hy:0<=y/\y<f.H) :
  Calls Tryz.prog 125 #[.agg #[f.W,f.H,pv],x,y] w fun e w'=>e=.returned (.int .i64 (f.pix.getD (y*f.W+x).toNat 0))/\ae [] w w':=by
 have hW:8<=f.W/\f.W<=32:=⟨MU.w0,MU.w1⟩
 have hH:8<=f.H/\f.H<=32:=⟨MU.h0,MU.h1⟩
 obtain ⟨i1,i2,i3,i4⟩:=qh hW hH x y;rw [show min (max y 0) (f.H-1)=y by omega] at i1 i2;rw [show min (max x 0) (f.W-1)=x by omega] at i2;have MR:=MU.len;obtain ⟨b,off,cap,rfl,-,-,hc⟩:=h.at (i:=(y*f.W+x).toNat) Mf;have HQ:=lh (ae.new w (.cells #[f.W,f.H,.slice (some ⟨b,off,none⟩) f.pix.length cap] 24));have QZ:=(ae.new w (.cells #[f.W,f.H,.slice (some ⟨b,off,none⟩) f.pix.length cap] 24)).cell hc Mg;have HR:=lh (heap_alloc_new w (.cells #[f.W,f.H,.slice (some ⟨b,off,none⟩) f.pix.length cap] 24));generalize f.pix.getD (y*f.W+x).toNat 0=v at *
 generalize f.pix.length=N at *
 generalize f.W=W at *
 generalize f.H=H at *
 obtain ⟨k,hk⟩:∃ k:Nat,(y*W+x).toNat=k:=⟨_,rfl⟩
 have NK:y*W+x=(k:Int):=Mf;rw [hk] at hc QZ;obtain ⟨Ue,OB⟩:=hx;obtain ⟨Sr,YX⟩:=hy;obtain ⟨NB,Tg⟩:=hW;obtain ⟨hH1,hH2⟩:=hH;have p1:¬ y<0:=Mf;have p2:¬ H-1<y:=Mf;have p3:¬ x<0:=Mf;have p4:¬ W-1<x:=Mf;have a1:IntKind.i64.wrap (H-1)=H-1:=Mi;have a2:IntKind.i64.wrap (W-1)=W-1:=Mi;have YL:0<=y*W:=i1;have a3:IntKind.i64.wrap (y*W)=y*W:=Mi;have a4:IntKind.i64.wrap (y*W+x)=(k:Int):=by rw [NK,Ll];omega
 have q0:(0:Int)<=(k:Int):=Mf;have q1:(k:Int)<(N:Int):=Mf;clear hc h MU MR i1 i2 i3 i4 hk NK YL;obtain ⟨r0,r1,r2⟩:=ag HR.out;go_enter Tryz.func125,Tryz.ntmps125;go_wp2_with fail;go_ret;exact ⟨rfl,HQ.out⟩
def jo (f:ai) (x y:Int) (k:Nat):List Int:=(List.range k).map fun i:Nat=>f.pix.getD ((y+((i / 8:Nat):Int))*f.W+(x+((i % 8:Nat):Int))).toNat 0
theorem jC (f:ai) (x y:Int) (k:Nat):(jo f x y k).length=k:=by simp [jo]
theorem tJ (f:ai) (x y:Int) {j i:Nat} (hi:i<8):jo f x y (j*8+i+1)=jo f x y (j*8+i) ++ [f.pix.getD ((y+(j:Int))*f.W+(x+(i:Int))).toNat 0]:=by
 have e1:(j*8+i) / 8=j:=Mf;have e2:(j*8+i) % 8=i:=Mf;unfold jo;rw [List.range_succ,LS,Ma,Mb,e1,e2]
theorem wT (f:ai) (x y:Int):jo f x y 64=aO f x y 8:=by
 unfold jo aO;have e:∀ i:Nat,((y+((i / 8:Nat):Int))*f.W+(x+((i % 8:Nat):Int)))=(y+((i / 8:Nat):Int))*f.W+x+((i % 8:Nat):Int):=fun i=>by omega
 simp only [e]
 rfl
theorem Gl {lo hi:Nat} {pv:Value} {w:World} {f:ai} (MU:FrOk f) (h:ah .i64 lo hi w pv f.pix) (x y:Int) (hx:0<=x/\x+8<=f.W) (hy:0<=y/\y+8<=f.H) :
  Calls Tryz.prog 67 #[.agg #[f.W,f.H,pv],x,y,.int .i64 8] w fun e w'=>∃ v',e=.returned v'/\Own .i64 3 w.heap.size w' v' (aO f x y 8)/\ae [] w w':=by
 refine aN fun Q MM=>?_
 obtain ⟨a,cap,rfl,-⟩:=h.open;have MP:=ae.new w (.cells #[f.W,f.H,.slice a f.pix.length cap] 24);have Nq:=lh (heap_alloc_new w (.cells #[f.W,f.H,.slice a f.pix.length cap] 24));have MT:=lh MP;have HI:=lh (h.quiet MP);have HM:=lh (fun (W:World) (o:ah .i64 lo hi W (.slice a f.pix.length cap) f.pix)=>by have:=jG f.W f.H o;rw [show dV ⟨f.W,f.H,f.pix⟩=true from dL.2 MU] at this;exact this);have HA:=lh (fun (W:World) (o:ah .i64 lo hi W (.slice a f.pix.length cap) f.pix) (x y:Int) (hx:0<=x/\x<f.W) (hy:0<=y/\y<f.H)=>Jp MU o x y hx hy);have VI:=lh (fun k=>MU.sam.at k);have HD:=lh (wT f x y);have hw1:=MU.w1;have Rb:=MU.h1;obtain ⟨Ue,OB⟩:=hx;obtain ⟨Sr,YX⟩:=hy;have x2:x<=24:=Mf;have y2:y<=24:=Mf;clear h MP MU;obtain ⟨r0,r1,r2⟩:=ag Nq.out;go_enter Tryz.func67,Tryz.ntmps67;go_wp2_with fail;clear r0 r1 r2;generalize NB:World.alloc w _=W1 at *
 have Sh:Hid (w.heap.size<W1.heap.size):=lh (by rw [<- NB];simp);clear NB;go_at_call 62;refine (HM.out W1 HI.out).mono ?_;rintro e w2 ⟨rfl,MV⟩;have Na:=lh MV;clear MV HM;go_wp2_with fail;go_loopw [40,9,44] (fun j r _ wr=>∃ (k:Nat),k<=8/\j=.int .i64 k/\Hid (Own .i64 3 W1.heap.size wr r (jo f x y (k*8)))/\Hid (bB W1.heap.size r)/\Hid (ae [] W1 wr)) (fun j _ _ _=>8-(intOf j).toNat)
 case atStart=>exact ⟨0,Mf,rfl,lh (Own.nil _ _ _ _),lh (bB.nil _),Na⟩
 case round =>
  obtain ⟨k,hk,rfl,Nc,OO,MW⟩:=hrel;by_cases MO:k<8
  ·have Ny:(k:Int)<8:=Mf
   have NU:(0:Int)<=(k:Int):=Mf;go_wp2_with fail;go_loopw [44,9] (fun i r wr=>∃ (n:Nat),n<=8/\i=.int .i64 n/\Hid (Own .i64 3 W1.heap.size wr r (jo f x y (k*8+n)))/\Hid (bB W1.heap.size r)/\Hid (ae [] W1 wr)) (fun i _ _=>8-(intOf i).toNat)
   case atStart=>exact ⟨0,Mf,rfl,Nc,OO,MW⟩
   case round =>
    obtain ⟨n,hn,rfl,PS,RB,Oh⟩:=hrel;by_cases YO:n<8
    ·have XH:(n:Int)<8:=Mf
     have Uu:(0:Int)<=(n:Int):=Mf;have Ox:=lh (tJ f x y (j:=k) YO);have HC:=lh (fun W o=>HA.out W o (x+(n:Int)) (y+(k:Int)) Mf Mf);have MX:=VI.out ((y+(k:Int))*f.W+(x+(n:Int))).toNat;generalize f.pix.getD ((y+(k:Int))*f.W+(x+(n:Int))).toNat 0=hv at *
     have QF:∀ z∈[hv],InK .i64 z:=by simp only [mSg,forall_eq,InK];omega
     have Oa:=lh (fun (W:World)=>bg (k:=.i64) (w:=W) (t:=3) (l:=[hv]) rfl Mo QF 1 rfl rfl);have Qj:=lh (show ((jo f x y (k*8+n)).length+[hv].length)*8<=140737488355328 by rw [jC];simp;omega);have Ni:Hid ((jo f x y (k*8+n) ++ [hv]).length=k*8+n+1):=lh (by rw [Ln,jC];rfl);obtain ⟨ra,RT,rfl,-⟩:=PS.out.ints.open;rw [jC] at PS RB |-
     obtain ⟨r0,r1,r2⟩:=ag (Oh.out.row Nq.out);have PX:=lh (HI.out.quiet Oh.out);clear QF MX;go_wp2_with fail;go_at_call 125;refine (HC.out _ PX.out).mono ?_;rintro e w3 ⟨rfl,Nb⟩;have Nf:=lh Nb;have Ql:=lh (PS.out.quiet Nb);have PG:=lh (fun (o:Obj)=>(show W1.heap.size<=(w3.alloc o).heap.size by have:=Oh.out.size;have:=Nb.size;simp;omega));clear Nb
     go_wp2_with (first
      | (at_builtin;refine aw rfl (.tmp 47) (.tmp 56) _ rfl EI (Ql.out.quiet (ae.new _ _)) rfl (Oa.out _) rfl Qj.out (PG.out _) (fun v1 w4 MN Nu=>?_);obtain ⟨x1,OW,OB,_⟩:=MN.ints.open;subst OB;rw [Ni.out] at MN Nu |-;have Oy:=lh MN;have Od:=lh Nu;clear MN Nu)
      | fail)
     refine ⟨⟨n+1,Mf,Mm,lh ?_,lh (Od.out.from_ RB.out (PG.out _)),lh (((Oh.out.q Nf.out).q (ae.new _ _)).acc Od.out RB.out)⟩,Mk⟩;rw [<- Nat.add_assoc,Ox.out];exact Oy.out
    ·obtain rfl:n=8:=Mf
     have XH:¬ ((8:Nat):Int)<8:=Mf;have Ur:Hid (jo f x y (k*8+8)=jo f x y ((k+1)*8)):=lh (by rw [show (k+1)*8=k*8+8 by omega]);rw [Ur.out] at PS;go_wp2_with fail;exact ⟨⟨k+1,Mf,Mm,PS,RB,Oh⟩,Mk⟩
  ·obtain rfl:k=8:=Mf
   have Ny:¬ ((8:Nat):Int)<8:=Mf;have Ur:Hid (jo f x y (8*8)=aO f x y 8):=HD;rw [Ur.out] at Nc;go_wp2_with fail;exact MM.out _ _ ⟨_,rfl,Nc.out.lower (Nat.le_of_lt Sh.out),MT.out.q MW.out⟩
end
end Go.Proofs.YthcafdfdglfabaaGreatDoor
