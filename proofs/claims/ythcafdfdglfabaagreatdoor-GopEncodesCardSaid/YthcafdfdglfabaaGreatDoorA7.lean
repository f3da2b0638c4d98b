/- Joined texts: DRkU, DRBu, DRBd, DRkSm. Conditions: each part names its own. -/
import Derived.Test.YthcafdfdglfabaaGreatDoorA6
namespace Go.Proofs.YthcafdfdglfabaaGreatDoor
open Tryz
open Go.RowKit
set_option linter.unusedVariables false
set_option linter.unusedSimpArgs false
set_option maxRecDepth 100000
set_option maxHeartbeats 16000000
theorem jn {p:Prop} (h:p:=by intro wz Rb;(try dsimp only at Rb);go_simp;try with_reducible rfl):p:=h
section
theorem xX {lo hi:Nat} {bv:Value} {b:List Int} {w:World} (h:aj .i64 lo hi w bv b) (O:b.length=64) :
  Calls prog 158 #[bv] w fun e w'=>∃ vs,e=.returned (.tuple #[.slice (some ⟨w.heap.size+1,0,none⟩) 4 4,.agg #[(),d8]])/\w'.heap[w.heap.size+1]?=some (.cells vs.toArray 22)/\qE (w.heap.size+1+1) w' vs (fun j=>av b j)/\ae [] w w':=by
 refine aK fun Q QF=>?_
 have hI:=h.2;have Tg:=lh (fun k:Nat=>(by
  by_cases hk:k<b.length
  ·exact h.2 _ (by rw [Pd,Pe hk];exact PG _)
  ·rw [Pd,C3 Qa];simp [i7]:i7 .i64 (b.getD k 0)))
 obtain ⟨la,Rl,rfl,-,-,RO,QR⟩:=h.open;rw [O] at RO QR |-
 have TT:=lh RO;have Rm:=lh QR;have UB:=lh (wT b);have Ta:=lh (Bi b);have Jay:=lh (fun j (h:j<4)=>Bh b h);have hz:(w.alloc (.cells #[(),d8] 39)).heap.size=w.heap.size+1:=Qb;have Uv:(Instr.makeSlice 221 (.int .i64 4) (.int .i64 4)).run prog (w.alloc (.cells #[(),d8] 39))=.ok (.slice (some ⟨(w.alloc (.cells #[(),d8] 39)).heap.size,0,none⟩) 4 4) ((w.alloc (.cells #[(),d8] 39)).alloc (.cells (madeCells #[d8] 4) 22)):=run_make_row' (P:=prog) 221 22 (.slice none 0 0) 24 underlying221 Qc rfl .i64 .i64 4 Qa Qa (w.alloc (.cells #[(),d8] 39));have hm4:madeCells #[d8] 4=[ai,ai,ai,ai].toArray:=Qc;have Vy:=lh (Sd (w.alloc (.cells #[(),d8] 39)) (.cells (madeCells #[d8] 4) 22));rw [hm4] at Uv Vy;rw [hz] at Uv Vy;have HE0:Hid (((w.alloc (.cells #[(),d8] 39)).alloc (.cells [ai,ai,ai,ai].toArray 22)).heap[w.heap.size]?=some (.cells #[(),d8] 39)):=lh ((ae.new (w.alloc (.cells #[(),d8] 39)) _).row (Sd w _));have Z:=lh ((ae.new w (.cells #[(),d8] 39)).q (ae.new (w.alloc (.cells #[(),d8] 39)) (.cells [ai,ai,ai,ai].toArray 22)));have Yg:Hid (((w.alloc (.cells #[(),d8] 39)).alloc (.cells [ai,ai,ai,ai].toArray 22)).heap.size=w.heap.size+1+1):=lh Qb;clear h O hI RO QR hm4 hz;go_enter func158,ntmps158;go_wp2_with fail;clear Uv;generalize Rs:World.alloc (World.alloc w _) _=W1 at *
 clear Rs;obtain ⟨G,hG⟩:=bu (w.heap.size+1)
 rw [<- hG] at Vy Yg QF |-
 have I:=lh hG;clear hG;go_loopw [5,6] (fun i _ wr=>∃ (k:Nat) (vs:List Value),k<=64/\i=.int .i64 k/\Hid (wr.heap[G]?=some (.cells vs.toArray 22))/\Hid (qE (G+1) wr vs (fun j=>jp b j k))/\Hid (∀ j,bj (G+1) (vs.getD j ai))/\Hid (ae [G] W1 wr)) (fun i _ _=>64-(intOf i).toNat)
 case atStart=>exact ⟨0,[ai,ai,ai,ai],Qa,rfl,lh Vy.out,lh ⟨rfl,fun j F=>(by match j,F with
  | 0,_=>exact f9.nil _ _ _ _
  | 1,_=>exact f9.nil _ _ _ _
  | 2,_=>exact f9.nil _ _ _ _
  | 3,_=>exact f9.nil _ _ _ _),fun i j hi F hij g hg=>(by match i,hi with
  | 0,_=>simp [Value.ownBlock] at hg
  | 1,_=>simp [Value.ownBlock] at hg
  | 2,_=>simp [Value.ownBlock] at hg
  | 3,_=>simp [Value.ownBlock] at hg)⟩,lh (fun j=>(by match j with
  | 0=>exact bj.nil _
  | 1=>exact bj.nil _
  | 2=>exact bj.nil _
  | 3=>exact bj.nil _
  | (n+4)=>exact bj.nil _)),lh (AY)⟩
 case round =>
  obtain ⟨k,vs,hk,rfl,SA,Vw,UA,QP⟩:=hrel;by_cases QH:k<64
  ·have Rt:(k:Int)<64:=Qa
   have RA:(0:Int)<=(k:Int):=Qa;obtain ⟨O,off,rfl,-,-⟩:=TT.out k QH;have c1:=Rm.out O off rfl k QH;have M:=s4 c1;have c0:=QP.cell (Z.cell c1 Qb) (by rw [i5];simp only;simp only at M;have:=I.out;omega);have Y:Hid (un k<4):=lh (by unfold un;omega);obtain ⟨D,Yk⟩:=bu (un k)
   have d1:(k:Int).tdiv 32=((k / 32:Nat):Int):=by rw [TY RA];rfl
   have d2:(k:Int).tmod 8=((k % 8:Nat):Int):=by rw [PR RA];rfl
   have d3:((k % 8:Nat):Int).tdiv 4=((k % 8 / 4:Nat):Int):=by rw [TY Qa];rfl
   have d4:IntKind.i64.wrap ((k / 32:Nat):Int)=((k / 32:Nat):Int):=Qe;have d5:IntKind.i64.wrap (((k / 32:Nat):Int)*2)=((k / 32:Nat):Int)*2:=Qe;have d6:IntKind.i64.wrap ((k % 8 / 4:Nat):Int)=((k % 8 / 4:Nat):Int):=Qe;have d7:IntKind.i64.wrap (((k / 32:Nat):Int)*2+((k % 8 / 4:Nat):Int))=(D:Int):=by rw [Yk,Pk];unfold un;omega
   generalize ((k / 32:Nat):Int)=D1 at *
   generalize ((k % 8:Nat):Int)=D2 at *
   generalize ((k % 8 / 4:Nat):Int)=D3 at *
   rw [<- Yk] at Y;have L:D<4:=Y.out;have JBe:(D:Int)<4:=Qa;have JBf:(0:Int)<=(D:Int):=Qa;have hvl:=Vw.len;have cv:wr.cell? ⟨G,D,none⟩=some (vs.getD D ai):=by
    rw [RG SA.out,C4,Pd,Pe Qa];rfl
   have SG:=lh (Vw.own D L);have SU:=lh (UA.out D);have hx:=Tg.out k;have HM1:Hid (jp b D (k+1)=jp b D k ++ [b.getD k 0]):=lh (by rw [UB.out,if_pos Yk.symm]);have HM2:Hid (∀ j,j<4->j≠D->jp b j (k+1)=jp b j k):=lh (fun j F RX=>by rw [UB.out,if_neg (fun e=>RX (by rw [Yk,e]))]);generalize b.getD k 0=x at *
   have QS:∀ y∈[x],i7 .i64 y:=by simp only [i5,n7];exact hx
   have RI:=lh (fun (W:World)=>aU (k:=.i64) (w:=W) (t:=3) (l:=[x]) rfl Qj QS 1 rfl rfl);have TU:=lh (show ((jp b D k).length+[x].length)*8<=140737488355328 by have:=Ta.out D k;simp;omega);have Tn:=lh (fun (o:Obj)=>(show G+1<=(wr.alloc o).heap.size by have:=QP.size;have:=Yg.out;simp;omega));have Hvl:=lh hvl;have HCv:=lh cv;obtain ⟨vk,N⟩:=bu (vs.getD D ai)
   rw [<- N] at cv SG SU;have Hvk:=lh N;have Hlb:Hid (O<w.heap.size):=lh M;clear QS hx hvl M c1 Yk N;have V:=lh ((ae.new wr (.cells #[x] 3)).drew);have J:=V.cell c0 Qb;have cvd:=V.cell cv Qb;go_upto_region 8 with (fail)
   refine Tf (S:=(fun w'=>w'.cell? ⟨O,off+k,none⟩=some (.int .i64 x))) Qc ?_ (fun hHeld=>?_)
   ·exact c0
   refine e9 0 23 ⟨rfl,jn⟩ ?_;refine e9 1 24 ⟨rfl,jn⟩ ?_;refine e9 2 25 ⟨rfl,jn⟩ ?_;refine e9 3 26 ⟨rfl,jn⟩ ?_;refine e9 4 27 ⟨rfl,jn⟩ ?_;refine e9 6 29 ⟨rfl,jn⟩ ?_;refine e9 7 30 ⟨rfl,jn⟩ ?_;refine e9 8 31 ⟨rfl,jn⟩ ?_;refine e9 9 32 ⟨rfl,jn⟩ ?_
   iterate 4 (all_goals (first | (refine j8 (rs:=[5,10]) Qg Qb ?_;refine j2 5 28 (fun K hK=>?_) (j2 10 33 (fun K hK=>?_) .nil)) | (refine j8 (rs:=[5]) Qg Qb ?_;refine j2 5 28 (fun K hK=>?_) .nil) | (refine j8 (rs:=[10]) Qg Qb ?_;refine j2 10 33 (fun K hK=>?_) .nil) | (refine j8 (rs:=[11]) Qg Qb ?_;refine j2 11 34 (fun K hK=>?_) .nil) | (refine j8 (rs:=[13]) Qg Qb ?_;refine C9 13 (fun K hK=>?_) .nil));all_goals (first | (refine ck rfl (.tmp 28) (.tmp 33) _ rfl EI (SG.out.quiet V.out) rfl ((RI.out wr).quiet (ae.refl [] _).drew) rfl TU.out (Pw (Tn.out (.cells #[x] 3)) (Pm _)) (fun v1 E QG Rc=>?_);obtain ⟨g1,Sb,UU,_,_⟩:=QG.form Qb;have SD:=lh QG;have Sa:=lh Rc;have SM:E.heap[G]?=some (.cells vs.toArray 22):=Sa.out.only.rowAt (V.out.rowAt SA.out Qb) (fun hm=>by have:=SU.out G Qr;omega);have cx3:E.cell? ⟨G,D,none⟩=some vk:=(by rw [RG SM,<- RG SA.out];exact cv);have fx3:=Sz E G D _ _ SM;have Wk:=lh SM;have c03:=Sa.out.only.cell J (fun hm=>by have h1:=SU.out _ Qr;have h2:=Hlb.out;have h3:=I.out;omega);clear QG Rc SM;obtain ⟨N1,hN1⟩:=bu ((jp b D k ++ [x]).length);rw [<- hN1] at UU;subst UU;clear hN1;have c04:(E.setCell ⟨G,D,none⟩ (.slice g1 N1 Sb)).cell? ⟨O,off+k,none⟩=some (.int .i64 x):=((ae.refl [G] E).setCell Qb _).cell c03 (by rw [i5];simp only;have h2:=Hlb.out;have h3:=I.out;omega);refine hK.out _ _ (c03) (fun hHeld=>?_);clear hK K;refine e9 12 35 ⟨rfl,by intro wz Rb;(try dsimp only at Rb);go_simp;try with_reducible rfl⟩ ?_) | (go_simp;first | (refine hK.out _ _ (by first | exact c0 | exact J) (fun hHeld=>?_);clear hK K) | (refine hK.out _ _ (J) (fun hHeld=>?_);clear hK K) | (refine hK.out _ _ (c04) (fun hHeld=>?_);clear hK K))))
   all_goals (refine Wn Qc ?_ _)
   all_goals
    go_wp2_with fail;have Uf:=WG E G D _ _ (.slice g1 N1 Sb) Wk;rw [Pf] at Uf;have hso:ae [G] E (E.setCell ⟨G,D,none⟩ (.slice g1 N1 Sb)):=(AY).setCell Qb _;have hA:p9 (vs.getD D ai) ((wr.alloc (.cells #[x] 3)).drew) (.slice g1 N1 Sb) E:=na Hvk Sa
    have JhS:=((Vw.quiet V).grow (L':=fun j=>jp b j (k+1)) L hA (bC HM1 SD) (fun j F RX=>HM2.out j F RX)).out hso Qa;refine ⟨⟨k+1,vs.set D (.slice g1 N1 Sb),Qa,Qh,lh Uf,lh JhS,lh (fun j=>?_),lh ?_⟩,Qf⟩
    ·by_cases XQ:j=D
     ·subst XQ
      rw [dM (bC Hvl L)];exact Sa.from_ SU (Tn.out _)
     ·rw [eO XQ];exact UA.out j
    ·exact (QP.trans (V.trans Sa.only (U:=vk.ownBlock.toList) Qb (fun g h _=>h)) (U:=[G]) (fun _ h _=>h) (fun g hg QH=>by have h1:=SU.out g Qn;have h2:=Yg.out;omega)).trans hso (fun _ h _=>h) (fun _ h _=>h)
  ·obtain rfl:k=64:=Qa
   have Rt:¬ ((64:Nat):Int)<64:=Qa;have hre:=QP.rowAt HE0 (eW I);obtain ⟨z0,z1,y0,y1,-⟩:=aL hre;obtain ⟨QK,QV⟩:=aJ (x:=.int .i64 0) (y:=.slice none 0 0) hre;go_wp2_with fail;refine TV (aA results158 _ _ w.heap.size _ _ _ _ _ rfl rfl QK underlying39 rfl (aG _ rfl)) rfl (QF.out _ _ ⟨vs,rfl,QV.rowAt SA.out (eW I),?_,?_⟩)
   ·have hf:=Vw.out.out QV (j0 I.out)
    refine ⟨hf.len,fun j F=>?_,hf.apart⟩;rw [<- Jay.out j F];exact hf.own j F
   ·exact (Z.trans QP (U:=[]) Qb (fun g hg QH=>by rw [i5] at hg;have:=I.out;omega)).trans QV Qb (fun g hg QH=>Qd)
end
section
theorem kK {f:ah} (h:FrOk f) {x y:Int} {n:Nat} (hx:0<=x) (E:x+n<=f.W) (M:0<=y) (D:y+n<=f.H) {b:List Int} (J:b.length=n*n) (L:ar b):(dP f x y n b).pix.length=f.pix.length:=by
 have h1:=(nK h hx E M D J L).len;have N:=h.len;have F:(dP f x y n b).W=f.W:=rfl;have I:(dP f x y n b).H=f.H:=rfl;rw [F,I] at h1;omega
theorem FrOk.pos {f:ah} (D:FrOk f):0<f.pix.length/\f.pix.length<=1000000:=by
 have J:=D.len;have e2:=D.w0;have E:=D.h0;have F:=D.w1;have I:=D.h1;have L:8*8<=f.W*f.H:=A3 e2 E Qa Qa;have M:f.W*f.H<=32*32:=A3 F I Qa Qa;omega
theorem Kz {p:Prop} (h:p:=by
 go_enter func107,ntmps107;go_wp2_with fail;generalize Rs:World.alloc (World.alloc w _) _=W1 at *
 clear Rs;refine (HPu.out W1 QO).mono ?_;rintro e w2 ⟨v2,rfl,QL,QN⟩;obtain ⟨g,Sk,rfl,ST,Rj⟩:=QL.form (j0 VM.out);rw [VM.1] at QL |-
 have hn:=(ae.new w2 (sT f g Sk)).q (ae.new _ (.cells #[(),d8] 39));have Wk:=lh ((QN.q hn).row SQ);obtain ⟨z0,z1,z2⟩:=ag Wk;have fz0:=Sz _ _ 0 _ _ Wk;have fz1:=Sz _ _ 1 _ _ Wk;have fz2:=Sz _ _ 2 _ _ Wk;obtain ⟨QK,QV⟩:=eI (x:=.int .i64 f.W) (y:=.int .i64 f.H) (z:=.slice g f.pix.length Sk) Wk;have Ui:=lh (QL.quiet hn);have QW:=lh (QO.q (QN.q hn));have VV:=lh QK;have Hon:=lh QV;have Hg:=lh ST;clear QL QN hn ST Rj QK QV;go_wp2_with fail;refine TV (v:=.agg #[f.W,f.H,.slice g f.pix.length Sk]) (results_cell_row results107 _ _ (w.heap.size+1) _ _ _ _ rfl VV underlying24 rfl Qc) rfl (QF.out _ _ ⟨_,rfl,?_,?_⟩)
 ·exact (Ui.only Hon (fun x hx hh=>by rw [i5] at hx;subst hx;simp only [Value.ownBlock] at hh;injection hh with hh;have:=Hg.out;have:=TF.out;omega)).lower QO.size
 ·exact QW.trans Hon (U:=[]) Qb (fun x hx QH=>Qo)):p:=h
theorem Ad {lo hi lo' hi':Nat} {pv bv:Value} {w:World} {f:ah} {x y:Int} {b:List Int} (D:FrOk f) (h:aj .i64 lo hi w pv f.pix) (L:aj .i64 lo' hi' w bv b) (F:b.length=16) (J:ar b) (hx:0<=x) (I:x+4<=f.W) (M:0<=y) (E:y+4<=f.H):Calls prog 107 #[.agg #[f.W,f.H,pv],x,y,.int .i64 4,bv] w fun e w'=>(∃ v',e=.returned (.agg #[f.W,f.H,v'])/\f9 .i64 3 w.heap.size w' v' (dP f x y 4 b).pix/\ae [] w w'):=by
 refine aK fun Q QF=>?_
 obtain ⟨a,cap,rfl,-⟩:=h.open;obtain ⟨N,O,SQ,TF⟩:=km w (sT f a cap) (.cells #[(),(),d8] 24);have HPu:=lh (fun (W:World) (o:ae [] w W)=>GC D (h.quiet o) (L.quiet o) F J hx I M E);have VM:Hid ((dP f x y 4 b).pix.length=f.pix.length/\0<f.pix.length):=lh ⟨kK (n:=4) D hx I M E F J,D.pos.1⟩;have QO:=lh N;obtain ⟨Y,V,rfl,-⟩:=L.open;clear h L F J D hx I M E N;generalize (dP f x y 4 b).pix=LP at *
 exact Kz
theorem tF {lo hi lo' hi':Nat} {pv bv:Value} {w:World} {f:ah} {x y:Int} {b:List Int} (D:FrOk f) (h:aj .i64 lo hi w pv f.pix) (L:aj .i64 lo' hi' w bv b) (F:b.length=64) (J:ar b) (hx:0<=x) (I:x+8<=f.W) (M:0<=y) (E:y+8<=f.H):Calls prog 107 #[.agg #[f.W,f.H,pv],x,y,.int .i64 8,bv] w fun e w'=>(∃ v',e=.returned (.agg #[f.W,f.H,v'])/\f9 .i64 3 w.heap.size w' v' (dP f x y 8 b).pix/\ae [] w w'):=by
 refine aK fun Q QF=>?_
 obtain ⟨a,cap,rfl,-⟩:=h.open;obtain ⟨N,O,SQ,TF⟩:=km w (sT f a cap) (.cells #[(),(),d8] 24);have HPu:=lh (fun (W:World) (o:ae [] w W)=>GD D (h.quiet o) (L.quiet o) F J hx I M E);have VM:Hid ((dP f x y 8 b).pix.length=f.pix.length/\0<f.pix.length):=lh ⟨kK (n:=8) D hx I M E F J,D.pos.1⟩;have QO:=lh N;obtain ⟨Y,V,rfl,-⟩:=L.open;clear h L F J D hx I M E N;generalize (dP f x y 8 b).pix=LP at *
 exact Kz
theorem oz {lo hi:Nat} {pv:Value} {w:World} {f:ah} {x y:Int} {n:Nat} {mode:Int} (M:FrOk f) (h:aj .i64 lo hi w pv f.pix) (hn:n=4\/n=8) (hm:0<=mode/\mode<=3) (hx:0<=x) (Ry:x+n<=f.W) (hy:0<=y) (RJ:y+n<=f.H):Calls prog 110 #[.agg #[f.W,f.H,pv],x,y,n,mode] w fun e w'=>((∃ v',e=.returned v'/\f9 .i64 3 w.heap.size w' v' (bi mode (dA f x y n) (cd f x y n) (aB f (x-1) (y-1))))/\ae [] w w'):=by
 refine aK fun Q QF=>?_
 obtain ⟨a,cap,rfl,-⟩:=h.open;have Y:=ae.new w (sT f a cap);have HE:=lh (oL M (h.quiet Y) x y n hn hx Ry hy RJ);have I:=jr M.sam x y n;have F:=hZ M.sam x y n;have E:=eZ M.sam (x-1) (y-1);have D:=cV f x y n;have N:=ju f x y n;have Yb:Hid (∀ (lo1 hi1 Wi Uq:Nat) (v1 v2:Value) (W:World),aj .i64 lo1 hi1 W v1 (dA f x y n)->aj .i64 Wi Uq W v2 (cd f x y n)->Calls prog 99 #[mode,v1,v2,.int .i64 (aB f (x-1) (y-1))] W fun e w'=>(∃ v',e=.returned (.tuple #[v',.agg #[(),d8]])/\f9 .i64 3 W.heap.size w' v' (bi mode (dA f x y n) (cd f x y n) (aB f (x-1) (y-1))))/\ae [] W w'):=lh (fun _ _ _ _ _ _ W h1 h2=>by
  rcases hn with rfl | rfl
  ·exact ku h1 h2 D N I F E hm
  ·exact kw h1 h2 D N I F E hm)
 have J:Hid ((dA f x y n).length=n/\(cd f x y n).length=n/\0<n):=lh ⟨D,N,Qa⟩;have Rg:Hid ((w.alloc (sT f a cap)).heap[w.heap.size]?=some (.cells (sT f a cap) 24)):=Sd w _;have QO:=lh Y;clear h Y I F E D N M hx Ry hy RJ hn hm;generalize bi mode (dA f x y n) (cd f x y n) (aB f (x-1) (y-1))=PD at *
 generalize dA f x y n=T at *
 generalize cd f x y n=L at *
 generalize aB f (x-1) (y-1)=cn at *
 go_enter func110,ntmps110;obtain ⟨r0,r1,r2⟩:=ag Rg;go_wp2_with fail;generalize Rs:World.alloc w _=W1 at *
 clear Rs r0 r1 r2;refine HE.mono ?_;rintro e w2 ⟨v1,v2,rfl,V,Z,QN⟩;obtain ⟨g1,c1,rfl,-,-⟩:=V.form (j0 J.out);obtain ⟨g2,c2,rfl,-,-⟩:=Z.form (j0 J.out);have SD:=lh V;have WI:=lh Z;have QT:=lh QN;clear V Z QN;go_wp2_with fail;refine (Yb.out _ _ _ _ _ _ w2 SD.ints WI.ints).mono ?_;rintro e w3 ⟨⟨v3,rfl,QL⟩,QQ⟩;have Ui:=lh (QL.quiet (ae.new w3 (.cells #[(),d8] 39)));have QW:=lh (QT.q (QQ.q (ae.new w3 (.cells #[(),d8] 39))));have O:=lh QT.size;clear QL QQ;go_wp2_with fail;refine QF.out _ _ ⟨⟨_,rfl,?_⟩,QO.q QW.out⟩;exact Ui.lower (Pw QO.size O)
end
theorem fY {p:Prop} (h:p:=by intro wz Rb;(try dsimp only at Rb);obtain ⟨Un,Wx⟩:=Rb;go_simp;try with_reducible rfl):p:=h
section
theorem Ky {p:Prop} (h:p:=by
 exact (HOp.only Hon (fun x hx hh=>by rw [i5] at hx;subst hx;simp only [Value.ownBlock] at hh;injection hh with hh;have:=Hg.out;have:=TF.out;omega)).lower QO.size):p:=h
theorem Kw {p:Prop} (h:p:=by
 clear hK K
 try simp only [Act.put,Pf,Pi,Pj]
 refine Wn Qc ?_ _;go_wp2_with fail;refine TV (v:=.agg #[f.W,f.H,.slice g f.pix.length Sk]) (results_cell_row results42 _ _ (w.heap.size+1+1+1) _ _ _ _ rfl VV underlying24 rfl Qc) rfl (QF.out _ _ ⟨_,rfl,?_,?_⟩)
 ·exact Ky
 ·exact (QO.q HQp).trans Hon (U:=[]) Qb (fun x hx QH=>Qo)):p:=h
theorem zT {lo hi Wi Uq lo3 hi3:Nat} {pv qv lv:Value} {vs:List Value} {w:World} {f prev:ah} {x y mo vx vy:Int} {ms L:List Int} {SL:List (List Int)} {q:Nat} {mo0:Nat} (I:FrOk f) (h:aj .i64 lo hi w pv f.pix) (hp:aj .i64 Wi Uq w qv prev.pix) (hs:ep lo3 hi3 w lv vs L SL) (hm:ms.length=4) (hq:q<=15) (hx:0<=x) (Ry:x+8<=f.W) (hy:0<=y) (RJ:y+8<=f.H) (J:FrOk prev):Calls prog 42 #[.agg #[f.W,f.H,pv],.agg #[prev.W,prev.H,qv],x,y,q,.agg (j1 0 mo ms vx vy lv vs).toArray] w fun e w'=>(∃ v',e=.returned (.agg #[f.W,f.H,v'])/\f9 .i64 3 w.heap.size w' v' (bk f prev x y q ⟨0,mo0,ms,vx,vy,L,SL⟩).pix/\ae [] w w'):=by
 refine aK fun Q QF=>?_
 obtain ⟨a,cap,rfl,-⟩:=h.open;obtain ⟨pa,RK,rfl,-⟩:=hp.open;obtain ⟨m0,m1,m2,m3,rfl⟩:=ix hm;have Vm:=hs.one;obtain ⟨s0,s1,s2,s3,rfl⟩:=ix hs.len;obtain ⟨QI,Tc,TR,Si,WH,TF⟩:=xE w (sT f a cap) (sT prev pa RK) (.cells (j1 0 mo [m0,m1,m2,m3] vx vy lv [s0,s1,s2,s3]).toArray 91) (.cells #[(),(),d8] 24);have Sg:=lh (fun (W:World) (o:ae [] w W)=>iw J (hp.quiet o) x y 0 0 ⟨hx,by have:=I.w1;omega⟩ ⟨hy,by have:=I.h1;omega⟩ Qa Qa);have RP:=aF prev x y 8 0 0;have VA:=cR J.sam x y 8 0 0;have Z:Hid (∀ (W:World),ae [] w W->∀ (lo1:Nat) (v:Value) ,f9 .i64 3 lo1 W v (aq prev x y 8 0 0)->_):=lh (fun W o _ v hb=>tF I (h.quiet o) hb.ints RP VA hx Ry hy RJ);have VM:Hid ((dP f x y 8 (aq prev x y 8 0 0)).pix.length=f.pix.length/\0<f.pix.length):=lh ⟨kK (n:=8) I hx Ry hy RJ RP VA,I.pos.1⟩;have QO:=lh QI;clear QI h hp;simp only [j1,PU,PV,List.cons_append,PL] at Tc TR Si WH TF QO |-
 go_enter func42,ntmps42;go_wp2_with fail;generalize Rs:World.alloc (World.alloc (World.alloc (World.alloc w _) _) _) _=W1 at *
 clear Rs;obtain ⟨r0,r1,r2⟩:=ag Tc;obtain ⟨O,V,Y⟩:=ag TR;have c0:=SF _ _ 0 _ _ _ Si;simp at c0;go_wp2_with fail;refine Tf (S:=(fun w'=>w'.cell? ⟨w.heap.size,0,none⟩=some (.int .i64 f.W)/\w'.cell? ⟨w.heap.size,1,none⟩=some (.int .i64 f.H)/\w'.cell? ⟨w.heap.size,2,none⟩=some (.slice a f.pix.length cap)/\w'.cell? ⟨w.heap.size+1,0,none⟩=some (.int .i64 prev.W)/\w'.cell? ⟨w.heap.size+1,1,none⟩=some (.int .i64 prev.H)/\w'.cell? ⟨w.heap.size+1,2,none⟩=some (.slice pa prev.pix.length RK))) Qc ?_ (fun hHeld=>?_)
 ·exact ⟨r0,r1,r2,O,V,Y⟩
 refine tk 0 20 ?_;refine tk 1 21 ?_;refine tk 2 22 ?_;refine tk 3 23 ?_;refine tk 4 24 ?_;refine tk 5 25 ?_;refine tk 6 26 ?_;refine j6 7 27 fun K hK=>?_
 go_simp;refine (Sg.out _ QO.drew).mono ?_;rintro e w5 ⟨v5,rfl,SI,RF⟩;have D:=(ae.refl [] W1).drew.q RF;obtain ⟨g5,c5,rfl,-,-⟩:=SI.form Qt;rw [aF] at SI |-
 refine ko hK ⟨(D).cell r0 Qb,(D).cell r1 Qb,(D).cell r2 Qb,(D).cell O Qb,(D).cell V Qb,(D).cell Y Qb⟩ fun hHeld=>?_;clear hK K
 refine j6 8 28 fun K hK=>?_
 go_simp;refine (Z.out _ (QO.q D) _ _ SI).mono ?_;rintro e w6 ⟨vp,rfl,N,M⟩;obtain ⟨g,Sk,rfl,ST,Rj⟩:=N.form (j0 VM.out);rw [VM.1] at N |-
 have op:=(D).q M;have F:=op.row WH;obtain ⟨z0,z1,z2⟩:=ag F;have fz0:=Sz _ _ 0 _ _ F;have fz1:=Sz _ _ 1 _ _ F;have fz2:=Sz _ _ 2 _ _ F;obtain ⟨QK,E⟩:=eI (x:=.int .i64 f.W) (y:=.int .i64 f.H) (z:=.slice g f.pix.length Sk) F;have Hg:Hid (W1.heap.size<=g):=Pw (D).size ST;have HOp:=lh (N.lower (D).size);have HQp:=lh op;have VV:=lh QK;have Hon:=lh E;clear N M ST Rj QK F;refine ko hK ⟨(op).cell r0 Qb,(op).cell r1 Qb,(op).cell r2 Qb,(op).cell O Qb,(op).cell V Qb,(op).cell Y Qb⟩ fun hHeld=>?_;clear hK K
 refine j9 9 fun K hK=>?_
 go_simp;refine hK.out _ _ ?_ (fun hHeld=>?_)
 ·exact ⟨E.cell (op.cell r0 Qb) (by simp;try omega),E.cell (op.cell r1 Qb) (by simp;try omega),E.cell (op.cell r2 Qb) (by simp;try omega),E.cell (op.cell O Qb) (by simp;try omega),E.cell (op.cell V Qb) (by simp;try omega),E.cell (op.cell Y Qb) (by simp;try omega)⟩
 exact Kw
theorem zU {lo hi Wi Uq lo3 hi3:Nat} {pv qv lv:Value} {vs:List Value} {w:World} {f prev:ah} {x y mo vx vy:Int} {ms L:List Int} {SL:List (List Int)} {q:Nat} {mo0:Nat} (QM:FrOk f) (h:aj .i64 lo hi w pv f.pix) (hp:aj .i64 Wi Uq w qv prev.pix) (hs:ep lo3 hi3 w lv vs L SL) (hm:ms.length=4) (hq:q<=15) (hx:0<=x) (Ry:x+8<=f.W) (hy:0<=y) (RJ:y+8<=f.H) (hpo:FrOk prev) (hLl:L.length=64) (V:cE L) (hv:-15<=vx/\vx<=15/\-15<=vy/\vy<=15):Calls prog 42 #[.agg #[f.W,f.H,pv],.agg #[prev.W,prev.H,qv],x,y,q,.agg (j1 1 mo ms vx vy lv vs).toArray] w fun e w'=>(∃ v',e=.returned (.agg #[f.W,f.H,v'])/\f9 .i64 3 w.heap.size w' v' (bk f prev x y q ⟨1,mo0,ms,vx,vy,L,SL⟩).pix/\ae [] w w'):=by
 refine aK fun Q QF=>?_
 obtain ⟨a,cap,rfl,-⟩:=h.open;obtain ⟨pa,RK,rfl,-⟩:=hp.open;obtain ⟨m0,m1,m2,m3,rfl⟩:=ix hm;have Vm:=hs.one;obtain ⟨s0,s1,s2,s3,rfl⟩:=ix hs.len;obtain ⟨QI,Tc,TR,Z,WH,TF⟩:=xE w (sT f a cap) (sT prev pa RK) (.cells (j1 1 mo [m0,m1,m2,m3] vx vy lv [s0,s1,s2,s3]).toArray 91) (.cells #[(),(),d8] 24);have Sg:=lh (fun (W:World) (o:ae [] w W)=>iw hpo (hp.quiet o) x y vx vy ⟨hx,by have:=QM.w1;omega⟩ ⟨hy,by have:=QM.h1;omega⟩ ⟨hv.1,hv.2.1⟩ ⟨hv.2.2.1,hv.2.2.2⟩);have hlv:cE L:=V;have I:Hid ((aq prev x y 8 vx vy).length=64/\(ce L q).length=64):=lh ⟨aF _ _ _ _ _ _,by rw [gR,hLl]⟩;have hRa:dg 401080320 (ce L q):=iC (by rw [ei];omega) (jb V hq);have Sp:=lh (fun (W:World) (o:ae [] w W)=>nG (hs.large.quiet o) Qa V q hq);have UK:Hid (∀ (W:World) (b5 b6:Nat) (v5 v6:Value),f9 .i64 3 b5 W v5 (aq prev x y 8 vx vy)->f9 .i64 3 b6 W v6 (ce L q)->_):=lh (fun W b5 b6 v5 v6 h5 h6=>lw h5.ints h6.ints (by rw [I.1,I.2]) (by rw [I.1];omega) (cR hpo.sam _ _ _ _ _) hRa);have RP:(ez (aq prev x y 8 vx vy) (ce L q)).length=64:=by rw [jt (by rw [I.1,I.2]),I.1]
 have VA:ar (ez (aq prev x y 8 vx vy) (ce L q)):=kZ _ _ _;have UW:=lh RP;have HPu:Hid (∀ (W:World),ae [] w W->∀ (lo1:Nat) (v:Value),f9 .i64 3 lo1 W v (ez (aq prev x y 8 vx vy) (ce L q))->_):=lh (fun W o _ v hb=>tF QM (h.quiet o) hb.ints RP VA hx Ry hy RJ);have VM:Hid ((dP f x y 8 (ez (aq prev x y 8 vx vy) (ce L q))).pix.length=f.pix.length/\0<f.pix.length):=lh ⟨kK (n:=8) QM hx Ry hy RJ RP VA,QM.pos.1⟩;obtain ⟨la,Rl,rfl,-⟩:=hs.large.open;rw [hLl] at Sp Tc TR Z WH TF QI |-
 have QO:=lh QI;clear QI h hp;simp only [j1,PU,PV,List.cons_append,PL] at Tc TR Z WH TF QO |-
 go_enter func42,ntmps42;go_wp2_with fail;generalize Rs:World.alloc (World.alloc (World.alloc (World.alloc w _) _) _) _=W1 at *
 clear Rs;obtain ⟨r0,r1,r2⟩:=ag Tc;obtain ⟨p0,p1,p2⟩:=ag TR;have c0:=SF _ _ 0 _ _ _ Z;have M:=SF _ _ 6 _ _ _ Z;have N:=SF _ _ 7 _ _ _ Z;have O:=SF _ _ 8 _ _ _ Z;simp at c0 M N O;go_wp2_with fail;refine Tf (S:=(fun w'=>w'.cell? ⟨w.heap.size,0,none⟩=some (.int .i64 f.W)/\w'.cell? ⟨w.heap.size,1,none⟩=some (.int .i64 f.H)/\w'.cell? ⟨w.heap.size,2,none⟩=some (.slice a f.pix.length cap)/\w'.cell? ⟨w.heap.size+1,0,none⟩=some (.int .i64 prev.W)/\w'.cell? ⟨w.heap.size+1,1,none⟩=some (.int .i64 prev.H)/\w'.cell? ⟨w.heap.size+1,2,none⟩=some (.slice pa prev.pix.length RK)/\w'.cell? ⟨w.heap.size+1+1,6,none⟩=some (.int .i64 vx)/\w'.cell? ⟨w.heap.size+1+1,7,none⟩=some (.int .i64 vy)/\w'.cell? ⟨w.heap.size+1+1,8,none⟩=some (.slice la 64 Rl))) Qc ?_ (fun hHeld=>?_)
 ·exact ⟨r0,r1,r2,p0,p1,p2,M,N,O⟩
 refine tk 0 31 ?_;refine tk 1 32 ?_;refine tk 2 33 ?_;refine tk 3 34 ?_;refine tk 4 35 ?_;refine tk 5 36 ?_;refine tk 6 37 ?_;refine tk 7 38 ?_;refine tk 9 40 ?_;refine tk 10 41 ?_;refine tk 11 42 ?_;refine j6 8 39 fun K hK=>?_
 go_simp;refine (Sg.out _ QO.drew).mono ?_;rintro e w5 ⟨v5,rfl,SI,RF⟩;have E:=(ae.refl [] W1).drew.q RF;obtain ⟨g5,c5v,rfl,-,-⟩:=SI.form (j0 I.1);rw [I.1] at SI |-
 refine ko hK ⟨(E).cell r0 Qb,(E).cell r1 Qb,(E).cell r2 Qb,(E).cell p0 Qb,(E).cell p1 Qb,(E).cell p2 Qb,(E).cell M Qb,(E).cell N Qb,(E).cell O Qb⟩ fun hHeld=>?_;clear hK K
 refine j6 12 43 fun K hK=>?_
 go_simp;refine (Sp.out _ (QO.q E)).mono ?_;rintro e w6 ⟨⟨v6,rfl,Rw⟩,hab,Sl⟩;have J:=E.q Sl;have h56:=SI.quiet Sl;obtain ⟨g6,c6v,rfl,-,-⟩:=Rw.form (j0 I.2);rw [I.2] at Rw |-
 refine ko hK ⟨(J).cell r0 Qb,(J).cell r1 Qb,(J).cell r2 Qb,(J).cell p0 Qb,(J).cell p1 Qb,(J).cell p2 Qb,(J).cell M Qb,(J).cell N Qb,(J).cell O Qb⟩ fun hHeld=>?_;clear hK K
 refine j6 13 44 fun K hK=>?_
 go_simp;refine (UK.out _ _ _ _ _ h56 Rw).mono ?_;rintro e w7 ⟨⟨v7,rfl,Ue⟩,TZ⟩;have D:=J.q TZ;obtain ⟨g7,c7v,rfl,-,-⟩:=Ue.form (j0 UW.out);rw [UW.out] at Ue |-
 refine ko hK ⟨(D).cell r0 Qb,(D).cell r1 Qb,(D).cell r2 Qb,(D).cell p0 Qb,(D).cell p1 Qb,(D).cell p2 Qb,(D).cell M Qb,(D).cell N Qb,(D).cell O Qb⟩ fun hHeld=>?_;clear hK K
 refine j6 14 45 fun K hK=>?_
 go_simp;refine (HPu.out _ (QO.q D) _ _ Ue).mono ?_;rintro e w8 ⟨vp,rfl,Tq,hqp⟩;obtain ⟨g,Sk,rfl,ST,Rj⟩:=Tq.form (j0 VM.out);rw [VM.1] at Tq |-
 have op:=(D).q hqp;have Y:=op.row WH;obtain ⟨z0,z1,z2⟩:=ag Y;have fz0:=Sz _ _ 0 _ _ Y;have fz1:=Sz _ _ 1 _ _ Y;have fz2:=Sz _ _ 2 _ _ Y;obtain ⟨QK,F⟩:=eI (x:=.int .i64 f.W) (y:=.int .i64 f.H) (z:=.slice g f.pix.length Sk) Y;have Hg:Hid (W1.heap.size<=g):=Pw (D).size ST;have HOp:=lh (Tq.lower (D).size);have HQp:=lh op;have VV:=lh QK;have Hon:=lh F;clear Tq hqp ST Rj QK Y;refine ko hK ⟨(op).cell r0 Qb,(op).cell r1 Qb,(op).cell r2 Qb,(op).cell p0 Qb,(op).cell p1 Qb,(op).cell p2 Qb,(op).cell M Qb,(op).cell N Qb,(op).cell O Qb⟩ fun hHeld=>?_;clear hK K
 refine j9 15 fun K hK=>?_
 go_simp;refine hK.out _ _ ?_ (fun hHeld=>?_)
 ·exact ⟨F.cell (op.cell r0 Qb) (by simp;try omega),F.cell (op.cell r1 Qb) (by simp;try omega),F.cell (op.cell r2 Qb) (by simp;try omega),F.cell (op.cell p0 Qb) (by simp;try omega),F.cell (op.cell p1 Qb) (by simp;try omega),F.cell (op.cell p2 Qb) (by simp;try omega),F.cell (op.cell M Qb) (by simp;try omega),F.cell (op.cell N Qb) (by simp;try omega),F.cell (op.cell O Qb) (by simp;try omega)⟩
 exact Kw
theorem zV {lo hi Wi Uq lo3 hi3:Nat} {pv qv lv:Value} {vs:List Value} {w:World} {f prev:ah} {x y mo vx vy:Int} {ms L:List Int} {SL:List (List Int)} {q:Nat} (M:FrOk f) (h:aj .i64 lo hi w pv f.pix) (hp:aj .i64 Wi Uq w qv prev.pix) (hs:ep lo3 hi3 w lv vs L SL) (hm:ms.length=4) (hq:q<=15) (hx:0<=x) (Ry:x+8<=f.W) (hy:0<=y) (RJ:y+8<=f.H) (ZL:mo=((mo.toNat:Nat):Int)) (hm3:mo<=3) (Z:L.length=64) (I:cE L):Calls prog 42 #[.agg #[f.W,f.H,pv],.agg #[prev.W,prev.H,qv],x,y,q,.agg (j1 2 mo ms vx vy lv vs).toArray] w fun e w'=>(∃ v',e=.returned (.agg #[f.W,f.H,v'])/\f9 .i64 3 w.heap.size w' v' (bk f prev x y q ⟨2,mo.toNat,ms,vx,vy,L,SL⟩).pix/\ae [] w w'):=by
 refine aK fun Q QF=>?_
 obtain ⟨a,cap,rfl,-⟩:=h.open;obtain ⟨pa,RK,rfl,-⟩:=hp.open;obtain ⟨m0,m1,m2,m3,rfl⟩:=ix hm;have Vm:=hs.one;obtain ⟨s0,s1,s2,s3,rfl⟩:=ix hs.len;obtain ⟨QI,Tc,TR,Y,WH,TF⟩:=xE w (sT f a cap) (sT prev pa RK) (.cells (j1 2 mo [m0,m1,m2,m3] vx vy lv [s0,s1,s2,s3]).toArray 91) (.cells #[(),(),d8] 24);have HFo:=lh (fun (W:World) (o:ae [] w W)=>oz (n:=8) (mode:=mo) M (h.quiet o) (.inr rfl) ⟨Qa,Qa⟩ hx Ry hy RJ);have Hmo:=lh ZL;clear ZL hm3;have hlv:cE L:=I;have D:Hid ((bi mo (dA f x y 8) (cd f x y 8) (aB f (x-1) (y-1))).length=64/\(ce L q).length=64):=lh ⟨by rw [dl,cV],by rw [gR,Z]⟩;have hRa:dg 401080320 (ce L q):=iC (by rw [ei];omega) (jb I hq);have Sp:=lh (fun (W:World) (o:ae [] w W)=>nG (hs.large.quiet o) Qa I q hq);have UK:Hid (∀ (W:World) (b5 b6:Nat) (v5 v6:Value),f9 .i64 3 b5 W v5 (bi mo (dA f x y 8) (cd f x y 8) (aB f (x-1) (y-1)))->f9 .i64 3 b6 W v6 (ce L q)->_):=lh (fun W b5 b6 v5 v6 h5 h6=>lw h5.ints h6.ints (by rw [D.1,D.2]) (by rw [D.1];omega) (kN (jr M.sam _ _ _) (hZ M.sam _ _ _) (by rw [cV];omega) _ _) hRa);have RP:(ez (bi mo (dA f x y 8) (cd f x y 8) (aB f (x-1) (y-1))) (ce L q)).length=64:=by rw [jt (by rw [D.1,D.2]),D.1]
 have VA:ar (ez (bi mo (dA f x y 8) (cd f x y 8) (aB f (x-1) (y-1))) (ce L q)):=kZ _ _ _;have UW:=lh RP;have HPu:Hid (∀ (W:World),ae [] w W->∀ (lo1:Nat) (v:Value),f9 .i64 3 lo1 W v (ez (bi mo (dA f x y 8) (cd f x y 8) (aB f (x-1) (y-1))) (ce L q))->_):=lh (fun W o _ v hb=>tF M (h.quiet o) hb.ints RP VA hx Ry hy RJ);have VM:Hid ((dP f x y 8 (ez (bi mo (dA f x y 8) (cd f x y 8) (aB f (x-1) (y-1))) (ce L q))).pix.length=f.pix.length/\0<f.pix.length):=lh ⟨kK (n:=8) M hx Ry hy RJ RP VA,M.pos.1⟩;obtain ⟨la,Rl,rfl,-⟩:=hs.large.open;rw [Z] at Sp Tc TR Y WH TF QI |-
 have QO:=lh QI;clear QI h hp;simp only [j1,PU,PV,List.cons_append,PL] at Tc TR Y WH TF QO |-
 go_enter func42,ntmps42;go_wp2_with fail;generalize Rs:World.alloc (World.alloc (World.alloc (World.alloc w _) _) _) _=W1 at *
 clear Rs;obtain ⟨r0,r1,r2⟩:=ag Tc;obtain ⟨p0,p1,p2⟩:=ag TR;have c0:=SF _ _ 0 _ _ _ Y;have c1:=SF _ _ 1 _ _ _ Y;have F:=SF _ _ 8 _ _ _ Y;simp at c0 c1 F;go_wp2_with fail;refine Tf (S:=(fun w'=>w'.cell? ⟨w.heap.size,0,none⟩=some (.int .i64 f.W)/\w'.cell? ⟨w.heap.size,1,none⟩=some (.int .i64 f.H)/\w'.cell? ⟨w.heap.size,2,none⟩=some (.slice a f.pix.length cap)/\w'.cell? ⟨w.heap.size+1+1,1,none⟩=some (.int .i64 mo)/\w'.cell? ⟨w.heap.size+1+1,8,none⟩=some (.slice la 64 Rl))) Qc ?_ (fun hHeld=>?_)
 ·exact ⟨r0,r1,r2,c1,F⟩
 refine tk 0 48 ?_;refine tk 1 49 ?_;refine tk 2 50 ?_;refine tk 3 51 ?_;refine tk 4 52 ?_;refine tk 5 53 ?_;refine tk 6 54 ?_;refine tk 7 55 ?_;refine tk 9 57 ?_;refine tk 10 58 ?_;refine tk 11 59 ?_;refine j6 8 56 fun K hK=>?_
 go_simp;refine (HFo.out _ QO.drew).mono ?_;rintro e w5 ⟨⟨v5,rfl,SI⟩,RF⟩;have J:=(ae.refl [] W1).drew.q RF;obtain ⟨g5,c5v,rfl,-,-⟩:=SI.form (j0 D.1);rw [D.1] at SI |-
 refine ko hK ⟨(J).cell r0 Qb,(J).cell r1 Qb,(J).cell r2 Qb,(J).cell c1 Qb,(J).cell F Qb⟩ fun hHeld=>?_;clear hK K
 refine j6 12 60 fun K hK=>?_
 go_simp;refine (Sp.out _ (QO.q J)).mono ?_;rintro e w6 ⟨⟨v6,rfl,Rw⟩,hab,Sl⟩;have V:=J.q Sl;have h56:=SI.quiet Sl;obtain ⟨g6,c6v,rfl,-,-⟩:=Rw.form (j0 D.2);rw [D.2] at Rw |-
 refine ko hK ⟨(V).cell r0 Qb,(V).cell r1 Qb,(V).cell r2 Qb,(V).cell c1 Qb,(V).cell F Qb⟩ fun hHeld=>?_;clear hK K
 refine j6 13 61 fun K hK=>?_
 go_simp;refine (UK.out _ _ _ _ _ h56 Rw).mono ?_;rintro e w7 ⟨⟨v7,rfl,Ue⟩,TZ⟩;have E:=V.q TZ;obtain ⟨g7,c7v,rfl,-,-⟩:=Ue.form (j0 UW.out);rw [UW.out] at Ue |-
 refine ko hK ⟨(E).cell r0 Qb,(E).cell r1 Qb,(E).cell r2 Qb,(E).cell c1 Qb,(E).cell F Qb⟩ fun hHeld=>?_;clear hK K
 refine j6 14 62 fun K hK=>?_
 go_simp;refine (HPu.out _ (QO.q E) _ _ Ue).mono ?_;rintro e w8 ⟨vp,rfl,Tq,hqp⟩;obtain ⟨g,Sk,rfl,ST,Rj⟩:=Tq.form (j0 VM.out);rw [VM.1] at Tq |-
 have op:=(E).q hqp;have O:=op.row WH;obtain ⟨z0,z1,z2⟩:=ag O;have fz0:=Sz _ _ 0 _ _ O;have fz1:=Sz _ _ 1 _ _ O;have fz2:=Sz _ _ 2 _ _ O;obtain ⟨QK,N⟩:=eI (x:=.int .i64 f.W) (y:=.int .i64 f.H) (z:=.slice g f.pix.length Sk) O;have Hg:Hid (W1.heap.size<=g):=Pw (E).size ST;have HOp:=lh (Tq.lower (E).size);have HQp:=lh op;have VV:=lh QK;have Hon:=lh N;clear Tq hqp ST Rj QK O;refine ko hK ⟨(op).cell r0 Qb,(op).cell r1 Qb,(op).cell r2 Qb,(op).cell c1 Qb,(op).cell F Qb⟩ fun hHeld=>?_;clear hK K
 refine j9 15 fun K hK=>?_
 go_simp;refine ko hK ⟨N.cell (op.cell r0 Qb) (by simp;try omega),N.cell (op.cell r1 Qb) (by simp;try omega),N.cell (op.cell r2 Qb) (by simp;try omega),N.cell (op.cell c1 Qb) (by simp;try omega),N.cell (op.cell F Qb) (by simp;try omega)⟩ fun hHeld=>?_;clear hK K
 refine Wn Qc ?_ _;go_wp2_with fail;refine TV (v:=.agg #[f.W,f.H,.slice g f.pix.length Sk]) (results_cell_row results42 _ _ (w.heap.size+1+1+1) _ _ _ _ rfl VV underlying24 rfl Qc) rfl (QF.out _ _ ⟨_,rfl,?_,?_⟩)
 ·show f9 _ _ _ _ _ (dP f x y 8 (gU (bi ((mo.toNat:Nat):Int) (dA f x y 8) (cd f x y 8) (aB f (x-1) (y-1))) L q)).pix
  rw [<- Hmo.out];exact Ky
 ·exact (QO.q HQp).trans Hon (U:=[]) Qb (fun x hx QH=>Qo)
theorem yY (p r:List Int):ar (ez p r):=by
 intro x hx;unfold ez at hx;obtain ⟨i,hi,rfl⟩:=List.mem_iff_getElem.1 hx;rw [List.getElem_zipWith];exact jE _
theorem zO {lo hi g cap n:Nat} {w:World} {l:List Int} (h:aj .i64 lo hi w (.slice g n cap) l):aj .i64 g (g+1) w (.slice g n cap) l:=by
 obtain ⟨⟨h1,a,c,e,E,F,I⟩,J⟩:=h;refine ⟨⟨h1,a,c,e,E,F,fun M=>?_⟩,J⟩;obtain ⟨b,off,D,x,y,L⟩:=I M;rw [D] at e;injection e with e1 e2 e3
 injection e1 with e1
 injection e1 with e1 e2
 exact ⟨b,off,D,Qa,Qa,L⟩
def A7 (f:ah) (x y:Int) (q:Nat) (s:j4) (j:Nat):ah:=(List.range j).foldl (cA x y q s) f
theorem zH (f:ah) (x y:Int) (q:Nat) (s:j4) (j:Nat):A7 f x y q s (j+1)=cA x y q s (A7 f x y q s j) j:=by
 unfold A7;rw [Zh,A4]
 rfl
theorem CI {f:ah} (h:FrOk f) {x y:Int} {q:Nat} {s:j4} (hx:0<=x) (F:x+8<=f.W) (I:0<=y) (E:y+8<=f.H) (D:∀ i,i<4->(s.small.getD i []).length=16):∀ j,j<=4->FrOk (A7 f x y q s j)/\(A7 f x y q s j).W=f.W/\(A7 f x y q s j).H=f.H
 | 0,_=>⟨h,rfl,rfl⟩
 | j+1,hj=>by
  obtain ⟨a,b,c⟩:=CI h hx F I E D j Qa;rw [zH];refine ⟨(show FrOk (ek _ (x+((j % 2:Nat):Int)*4) (y+((j / 2:Nat):Int)*4) 4 (s.modes.getD j 0) q (s.small.getD j [])) from jl a Qa Qa Qa Qa (D j Qa) Qa _ _),?_,?_⟩
  ·exact b
  ·exact c
theorem Mk {f:ah} (h:FrOk f) {x y:Int} {q:Nat} {s:j4} (hx:0<=x) (E:x+8<=f.W) (J:0<=y) (D:y+8<=f.H) (I:∀ i,i<4->(s.small.getD i []).length=16) {j:Nat} (F:j<=4):(A7 f x y q s j).pix.length=f.pix.length:=by
 obtain ⟨a,b,c⟩:=CI (q:=q) h hx E J D I j F;have h1:=a.len;have L:=h.len;rw [b,c] at h1;omega
theorem zW {lo hi Wi Uq lo3 hi3:Nat} {pv qv lv:Value} {vs:List Value} {w:World} {f prev:ah} {x y mo vx vy:Int} {ms L:List Int} {E:List (List Int)} {q:Nat} {D:Nat} (QM:FrOk f) (h:aj .i64 lo hi w pv f.pix) (hp:aj .i64 Wi Uq w qv prev.pix) (hs:ep lo3 hi3 w lv vs L E) (hm:ms.length=4) (hq:q<=15) (hx:0<=x) (Ry:x+8<=f.W) (hy:0<=y) (RJ:y+8<=f.H) (hhi:hi<=w.heap.size) (Vb:∀ z∈ms,0<=z/\z<=3) (hSl:E.length=4) (hSv:∀ l∈E,l.length=16/\cE l):Calls prog 42 #[.agg #[f.W,f.H,pv],.agg #[prev.W,prev.H,qv],x,y,q,.agg (j1 3 mo ms vx vy lv vs).toArray] w fun e w'=>(∃ v',e=.returned (.agg #[f.W,f.H,v'])/\f9 .i64 3 w.heap.size w' v' (bk f prev x y q ⟨3,D,ms,vx,vy,L,E⟩).pix/\ae [] w w'):=by
 refine aK fun Q QF=>?_
 obtain ⟨a,cap,rfl,-⟩:=h.open;obtain ⟨pa,RK,rfl,-⟩:=hp.open;have Ym:∀ i,i<4->(E.getD i []).length=16/\cE (E.getD i []):=fun i hi4=>hSv _ (by rw [Pd,Pe Qa];exact PG _)
 have RQ:∀ i,i<4->0<=ms.getD i 0/\ms.getD i 0<=3:=fun i hi4=>Vb _ (by rw [Pd,Pe Qa];exact PG _)
 obtain ⟨QI,Tc,_,_,_,-⟩:=xE w (sT f a cap) (sT prev pa RK) (.cells (j1 3 mo ms vx vy lv vs).toArray 91) (.cells #[(),(),d8] 24);have Si:Hid (bI (w.heap.size+1+1) ((((w.alloc (sT f a cap)).alloc (sT prev pa RK)).alloc (.cells (j1 3 mo ms vx vy lv vs).toArray 91)).alloc (.cells #[(),(),d8] 24)) 3 mo ms vx vy lv vs->True):=lh (fun _=>trivial);have Jjp:Hid (((((w.alloc (sT f a cap)).alloc (sT prev pa RK)).alloc (.cells (j1 3 mo ms vx vy lv vs).toArray 91)).alloc (.cells #[(),(),d8] 24)).heap[w.heap.size+1+1]?=some (.cells (j1 3 mo ms vx vy lv vs).toArray 91)):=lh ((ae.new (((w.alloc _).alloc _).alloc _) _).row (ak Qb));have WH:Hid (((((w.alloc (sT f a cap)).alloc (sT prev pa RK)).alloc (.cells (j1 3 mo ms vx vy lv vs).toArray 91)).alloc (.cells #[(),(),d8] 24)).heap[w.heap.size+1+1+1]?=some (.cells #[(),(),d8] 24)):=ak Qb;have TF:Hid (((((w.alloc (sT f a cap)).alloc (sT prev pa RK)).alloc (.cells (j1 3 mo ms vx vy lv vs).toArray 91)).alloc (.cells #[(),(),d8] 24)).heap.size=w.heap.size+1+1+1+1):=lh Qb;have c0:((((w.alloc (sT f a cap)).alloc (sT prev pa RK)).alloc (.cells (j1 3 mo ms vx vy lv vs).toArray 91)).alloc (.cells #[(),(),d8] 24)).cell? ⟨w.heap.size+1+1,0,none⟩=some (.int .i64 3):=by rw [RG Jjp.out];rfl
 have Hc2:Hid (∀ j,j<4->((((w.alloc (sT f a cap)).alloc (sT prev pa RK)).alloc (.cells (j1 3 mo ms vx vy lv vs).toArray 91)).alloc (.cells #[(),(),d8] 24)).cell? ⟨w.heap.size+1+1,2+j,none⟩=some (.int .i64 (ms.getD j 0))):=lh (fun j V=>by rw [RG Jjp.out];exact ij hm V);have Hc9:Hid (∀ j,j<4->((((w.alloc (sT f a cap)).alloc (sT prev pa RK)).alloc (.cells (j1 3 mo ms vx vy lv vs).toArray 91)).alloc (.cells #[(),(),d8] 24)).cell? ⟨w.heap.size+1+1,9+j,none⟩=some (vs.getD j ai)):=lh (fun j V=>by rw [RG Jjp.out];exact dO hm hs.len V);have HI:=lh (h.quiet QI);have HSm:=lh (fun (W:World) (o:ae [] w W) j (V:j<4)=>(hs.small j V).quiet o);have XN:=lh (fun j (V:j<=4)=>CI (q:=q) (s:=⟨3,D,ms,vx,vy,L,E⟩) QM hx Ry hy RJ (fun i hi=>(Ym i hi).1) j V);have TE:=lh (fun j (V:j<=4)=>Mk (q:=q) (s:=⟨3,D,ms,vx,vy,L,E⟩) QM hx Ry hy RJ (fun i hi=>(Ym i hi).1) V);have Hnx:=lh (fun j=>zH f x y q ⟨3,D,ms,vx,vy,L,E⟩ j);have HR:Hid (bk f prev x y q ⟨3,D,ms,vx,vy,L,E⟩=A7 f x y q ⟨3,D,ms,vx,vy,L,E⟩ 4):=lh rfl;have HF0:Hid (A7 f x y q ⟨3,D,ms,vx,vy,L,E⟩ 0=f):=lh rfl;have Hsl:=lh Ym;have Hml:=lh RQ;have Hq:=lh hq;have JdH:=lh QM.pos;have Hhi:=lh hhi;have Hpl:Hid (0<=x/\x+8<=f.W/\0<=y/\y+8<=f.H/\f.W<=32/\f.H<=32):=lh ⟨hx,Ry,hy,RJ,QM.w1,QM.h1⟩;have QO:=lh QI;generalize hsa:(j1 3 mo ms vx vy lv vs).toArray=sa at *
 clear QI h hp hs hm Vb hSl hSv Ym RQ QM hx Ry hy RJ hq hhi Si Jjp hsa;go_enter func42,ntmps42;go_wp2_with fail;generalize Rs:World.alloc (World.alloc (World.alloc (World.alloc w _) _) _) _=W1 at *
 clear Rs;go_wp2_with fail;clear c0;go_loopw [13,14,15] (fun i _ _ wr=>∃ (j:Nat) (va:Option Addr) (vc lo' hi':Nat),j<=4/\i=.int .i64 j/\Hid (wr.heap[w.heap.size]?=some (.cells (sT f va vc) 24))/\Hid (aj .i64 lo' hi' wr (.slice va f.pix.length vc) (A7 f x y q ⟨3,D,ms,vx,vy,L,E⟩ j).pix)/\Hid (hi'<=w.heap.size\/w.heap.size<lo')/\Hid (j=0\/f9 .i64 3 W1.heap.size wr (.slice va f.pix.length vc) (A7 f x y q ⟨3,D,ms,vx,vy,L,E⟩ j).pix)/\Hid (ae [w.heap.size] W1 wr)) (fun i _ _ _=>4-(intOf i).toNat)
 case atStart=>exact ⟨0,_,_,lo,hi,Qa,rfl,Tc,lh (bC HF0 HI),lh (.inl Hhi),lh (.inl rfl),lh (AY)⟩
 case round =>
  obtain ⟨j,va,vc,lo',hi',V,rfl,Sg,HIk,HRg,HOj,QP⟩:=hrel;by_cases QH:j<4
  ·have hji:(j:Int)<4:=Qa
   have hj0:(0:Int)<=(j:Int):=Qa;have hNx:=Hnx.out j;obtain ⟨fok,fw,fh⟩:=XN.out j Qa;have I:=TE.out j Qa;obtain ⟨QJ,Re⟩:=Hsl.out j QH;have hmd:=Hml.out j QH;have VI:=fun (W:World) (o:ae [] wr W)=>HSm.out W ((QO.trans QP (U:=[]) Qb (fun g hg hl=>Qd)).q o) j QH
   have k2:=QP.cell (Hc2.out j QH) (by simp;try omega);have k9:=QP.cell (Hc9.out j QH) (by simp;try omega);have eM:(j:Int).tmod 2=((j % 2:Nat):Int):=by rw [PR hj0];rfl
   have eD:(j:Int).tdiv 2=((j / 2:Nat):Int):=by rw [TY hj0];rfl
   have bM:j % 2<=1:=Qa;have bD:j / 2<=1:=Qa;have Zr:cA x y q ⟨3,D,ms,vx,vy,L,E⟩ (A7 f x y q ⟨3,D,ms,vx,vy,L,E⟩ j) j=ek (A7 f x y q ⟨3,D,ms,vx,vy,L,E⟩ j) (x+((j % 2:Nat):Int)*4) (y+((j / 2:Nat):Int)*4) 4 (ms.getD j 0) q (E.getD j []):=rfl;rw [<- hNx] at Zr;obtain ⟨F,hF⟩:∃ F,F=A7 f x y q ⟨3,D,ms,vx,vy,L,E⟩ j:=⟨_,rfl⟩
   rw [<- hF] at fok fw fh I Zr HIk;clear HOj;obtain ⟨X,hX⟩:∃ X,X=x+((j % 2:Nat):Int)*4:=⟨_,rfl⟩
   obtain ⟨Y,hY⟩:∃ Y,Y=y+((j / 2:Nat):Int)*4:=⟨_,rfl⟩
   rw [<- hX,<- hY] at Zr;have Vd:=Hpl.out;have X0:0<=X/\X+4<=F.W:=by rw [fw];omega
   have Y0:0<=Y/\Y+4<=F.H:=by rw [fh];omega
   generalize ms.getD j 0=m at *
   generalize E.getD j []=l at *
   obtain ⟨sa0,sc0,hsv,-⟩:=(VI wr (AY)).open;rw [QJ] at hsv;rw [hsv] at k9 VI;generalize j % 2=M at *
   generalize j / 2=Dv at *
   have n0:IntKind.i64.wrap (Dv:Int)=(Dv:Int):=Qe;have n1:IntKind.i64.wrap ((M:Int)*4)=(M:Int)*4:=Qe;have n2:IntKind.i64.wrap ((Dv:Int)*4)=(Dv:Int)*4:=Qe;have n3:IntKind.i64.wrap (x+(M:Int)*4)=X:=by rw [<- hX,Pk];omega
   have n4:IntKind.i64.wrap (y+(Dv:Int)*4)=Y:=by rw [<- hY,Pk];omega
   have XA:=Hq.out;rw [<- I] at HIk;have hfk:=HIk.out;have HFo:Hid (∀ (W:World),ae [] wr W->Calls prog 110 #[.agg #[f.W,f.H,.slice va f.pix.length vc],X,Y,.int .i64 4,m] W fun e w'=>(∃ v',e=.returned v'/\f9 .i64 3 W.heap.size w' v' (bi m (dA F X Y 4) (cd F X Y 4) (aB F (X-1) (Y-1))))/\ae [] W w'):=lh (fun W o=>by have:=oz (n:=4) (mode:=m) fok (hfk.quiet o) (.inl rfl) hmd X0.1 X0.2 Y0.1 Y0.2;rw [fw,fh,I] at this;exact this);have J:(bi m (dA F X Y 4) (cd F X Y 4) (aB F (X-1) (Y-1))).length=16:=by rw [dl,cV]
   have hps:ar (bi m (dA F X Y 4) (cd F X Y 4) (aB F (X-1) (Y-1))):=kN (jr fok.sam _ _ _) (hZ fok.sam _ _ _) (by rw [cV];omega) _ _;have Jvv:ek F X Y 4 m q l=dP F X Y 4 (ez (bi m (dA F X Y 4) (cd F X Y 4) (aB F (X-1) (Y-1))) (ce l q)):=rfl;rw [Jvv] at Zr;have hrl:(ce l q).length=16:=by rw [gR,QJ]
   have hra:dg 401080320 (ce l q):=iC (by rw [ei];omega) (jb Re XA);have Sp:=lh (fun (W:World) (o:ae [] wr W)=>nG (VI W o) Qa Re q XA);generalize bi m (dA F X Y 4) (cd F X Y 4) (aB F (X-1) (Y-1))=PD at *
   generalize ce l q=RL at *
   have Vj:Hid (PD.length=16/\RL.length=16):=lh ⟨J,hrl⟩;have UK:=lh (fun (W:World) (b5 b6:Nat) (v5 v6:Value) (h5:f9 .i64 3 b5 W v5 PD) (h6:f9 .i64 3 b6 W v6 RL)=>lw h5.ints h6.ints (by rw [J,hrl]) (by rw [J];omega) hps hra);have RP:(ez PD RL).length=16:=by rw [jt (by rw [J,hrl]),J]
   have VA:ar (ez PD RL):=yY _ _;generalize ez PD RL=CB at *
   have UW:=lh RP;have JuQ:(dP F X Y 4 CB).pix.length=f.pix.length:=by rw [kK (n:=4) fok X0.1 X0.2 Y0.1 Y0.2 RP VA,I]
   have HPu:Hid (∀ (W:World),ae [] wr W->∀ (lo1:Nat) (v:Value),f9 .i64 3 lo1 W v CB->Calls prog 107 #[.agg #[f.W,f.H,.slice va f.pix.length vc],X,Y,.int .i64 4,v] W fun e w'=>∃ v',e=.returned (.agg #[f.W,f.H,v'])/\f9 .i64 3 W.heap.size w' v' (dP F X Y 4 CB).pix/\ae [] W w'):=lh (fun W o _ v hb=>by have:=Ad fok (hfk.quiet o) hb.ints RP VA X0.1 X0.2 Y0.1 Y0.2;rw [fw,fh,I] at this;exact this);have VM:=lh (VL JuQ JdH.1);have HfJ:=lh Zr;have Hr:=Sg;have Tw:=lh k2;have Z:=lh k9;have Hj:=lh QH;obtain ⟨r0,r1,r2⟩:=ag Sg;have c2:=k2;have O:=k9;clear Zr Jvv hX hY Vd X0 Y0 hsv VI hfk RP VA JuQ J hps hrl hra hmd QJ Re fok fw fh I hNx bM bD hF k2 k9 QH XA;go_wp2_with fail;refine Tf (S:=(fun w'=>w'.cell? ⟨w.heap.size+1+1,2+j,none⟩=some (.int .i64 m)/\w'.cell? ⟨w.heap.size+1+1,9+j,none⟩=some (.slice sa0 16 sc0))) Qc ?_ (fun hHeld=>?_)
   ·exact ⟨c2,O⟩
   refine e9 1 78 ⟨rfl,fY⟩ ?_;refine e9 2 79 ⟨rfl,fY⟩ ?_;refine e9 4 81 ⟨rfl,fY⟩ ?_;refine e9 5 82 ⟨rfl,fY⟩ ?_;refine e9 6 83 ⟨rfl,fY⟩ ?_;refine e9 7 84 ⟨rfl,fY⟩ ?_;refine e9 8 85 ⟨rfl,fY⟩ ?_;refine e9 9 86 ⟨rfl,fY⟩ ?_;refine e9 11 88 ⟨rfl,fY⟩ ?_;refine e9 12 89 ⟨rfl,fY⟩ ?_;refine e9 13 90 ⟨rfl,fY⟩ ?_;refine e9 14 91 ⟨rfl,fY⟩ ?_;refine e9 15 92 ⟨rfl,fY⟩ ?_
   iterate 7 (all_goals (first | (refine j8 (rs:=[0,3]) Qg Qb ?_;refine j2 0 77 (fun K hK=>?_) (j2 3 80 (fun K hK=>?_) .nil)) | (refine j8 (rs:=[0,10]) Qg Qb ?_;refine j2 0 77 (fun K hK=>?_) (j2 10 87 (fun K hK=>?_) .nil)) | (refine j8 (rs:=[0,16]) Qg Qb ?_;refine j2 0 77 (fun K hK=>?_) (j2 16 93 (fun K hK=>?_) .nil)) | (refine j8 (rs:=[0,17]) Qg Qb ?_;refine j2 0 77 (fun K hK=>?_) (j2 17 94 (fun K hK=>?_) .nil)) | (refine j8 (rs:=[0]) Qg Qb ?_;refine j2 0 77 (fun K hK=>?_) .nil) | (refine j8 (rs:=[3]) Qg Qb ?_;refine j2 3 80 (fun K hK=>?_) .nil) | (refine j8 (rs:=[10]) Qg Qb ?_;refine j2 10 87 (fun K hK=>?_) .nil) | (refine j8 (rs:=[16]) Qg Qb ?_;refine j2 16 93 (fun K hK=>?_) .nil) | (refine j8 (rs:=[17]) Qg Qb ?_;refine j2 17 94 (fun K hK=>?_) .nil) | (refine j8 (rs:=[18]) Qg Qb ?_;refine j2 18 95 (fun K hK=>?_) .nil) | (refine j8 (rs:=[19]) Qg Qb ?_;refine C9 19 (fun K hK=>?_) .nil));all_goals go_simp;all_goals (first | (go_at_call 110;refine (HFo.out _ ((ae.refl [] wr).drew)).mono ?_;rintro e w5 ⟨⟨v5,rfl,SI⟩,RF⟩;have o5:=(ae.refl [] wr).drew.q RF;obtain ⟨g5,c5v,rfl,-,-⟩:=SI.form (j0 Vj.1);rw [Vj.1] at SI |-;obtain ⟨r0,r1,r2⟩:=ag ((o5).row Hr);have c2:=(o5).cell Tw Qb;have O:=(o5).cell Z Qb;refine hK.out _ _ (⟨c2,O⟩) (fun hHeld=>?_);clear hK K) | (go_at_call 109;refine (Sp.out _ o5).mono ?_;rintro e w6 ⟨⟨v6,rfl,Rw⟩,hab,Sl⟩;have o6:=o5.q Sl;have h56:=SI.quiet Sl;obtain ⟨g6,c6v,rfl,-,-⟩:=Rw.form (j0 Vj.2);rw [Vj.2] at Rw |-;obtain ⟨r0,r1,r2⟩:=ag ((o6).row Hr);have c2:=(o6).cell Tw Qb;have O:=(o6).cell Z Qb;refine hK.out _ _ (⟨c2,O⟩) (fun hHeld=>?_);clear hK K) | (go_at_call 108;refine (UK.out _ _ _ _ _ h56 Rw).mono ?_;rintro e w7 ⟨⟨v7,rfl,Ue⟩,TZ⟩;have o7:=o6.q TZ;obtain ⟨g7,c7v,rfl,-,-⟩:=Ue.form (j0 UW.out);rw [UW.out] at Ue |-;obtain ⟨r0,r1,r2⟩:=ag ((o7).row Hr);have c2:=(o7).cell Tw Qb;have O:=(o7).cell Z Qb;refine hK.out _ _ (⟨c2,O⟩) (fun hHeld=>?_);clear hK K) | (go_at_call 107;refine (HPu.out _ o7 _ _ Ue).mono ?_;rintro e w8 ⟨vp,rfl,Tq,hqp⟩;obtain ⟨g,Sk,rfl,ST,Rj⟩:=Tq.form (j0 VM.out);rw [VM.1] at Tq |-;have op:=o7.q hqp;obtain ⟨r0,r1,r2⟩:=ag ((op).row Hr);have c2:=(op).cell Tw Qb;have O:=(op).cell Z Qb;have N:=op.row Hr;have fz0:=Sz _ _ 0 _ _ N;have fz1:=Sz _ _ 1 _ _ N;have fz2:=Sz _ _ 2 _ _ N;obtain ⟨QK,QV⟩:=eI (x:=.int .i64 f.W) (y:=.int .i64 f.H) (z:=.slice g f.pix.length Sk) N;have hgw:w.heap.size<g:=(C5 QP.size TF.out o7.size);clear hqp ST Rj N;refine hK.out _ _ (⟨c2,O⟩) (fun hHeld=>?_);clear hK K) | (refine hK.out _ _ (⟨c2,O⟩) (fun hHeld=>?_);clear hK K) | (refine hK.out _ _ (⟨c2,O⟩) (fun hHeld=>?_);clear hK K) | (refine hK.out _ _ (⟨QV.cell c2 (by simp;try omega),QV.cell O (by simp;try omega)⟩) (fun hHeld=>?_);clear hK K)))
   all_goals (refine Wn Qc ?_ _)
   all_goals
    go_wp2_with fail;have hno:=Tq.only QV (fun x hx hh=>by rw [i5] at hx;subst hx;simp only [Value.ownBlock] at hh;injection hh with hh;omega);refine ⟨⟨j+1,_,_,g,g+1,by have:=Hj.out;omega,Qh,lh QK,lh ?_,lh (.inr hgw),lh ?_,lh ((QP.trans op (U:=[w.heap.size]) (fun _ h _=>h) Qb).trans QV (U:=[w.heap.size]) (fun _ h _=>h) (fun _ h _=>h))⟩,by simp [intOf];have:=Hj.out;omega⟩
    ·rw [HfJ.out]
     exact zO hno.ints
    ·refine .inr ?_
     rw [HfJ.out];exact hno.lower (Pw QP.size o7.size)
  ·obtain rfl:j=4:=Qa
   have hji:¬ ((4:Nat):Int)<4:=Qa;obtain ⟨r0,r1,r2⟩:=ag Sg;have N:=QP.rowAt WH (by simp;try omega);obtain ⟨z0,z1,z2⟩:=ag N;have fz0:=Sz _ _ 0 _ _ N;have fz1:=Sz _ _ 1 _ _ N;have fz2:=Sz _ _ 2 _ _ N;obtain ⟨QK,QV⟩:=eI (x:=.int .i64 f.W) (y:=.int .i64 f.H) (z:=.slice va f.pix.length vc) N;have VV:=lh QK;have Hon:=lh QV;clear QK QV N QH;go_wp2_with fail;refine TV (v:=.agg #[f.W,f.H,.slice va f.pix.length vc]) (results_cell_row results42 _ _ (w.heap.size+1+1+1) _ _ _ _ rfl VV underlying24 rfl Qc) rfl (QF.out _ _ ⟨_,rfl,?_,?_⟩)
   ·rw [HR.out]
    rcases HOj with h0 | ho
    ·omega
    exact (ho.only Hon (fun x hx hh=>by rw [i5] at hx;subst hx;have:=(ho.at _ hh).1;have:=TF.out;omega)).lower QO.size
   ·exact (QO.trans QP (U:=[]) Qb (fun g hg hl=>Qd)).trans Hon (U:=[]) Qb (fun x hx QH=>Qo)
theorem De {lo hi Wi Uq lo3 hi3:Nat} {pv qv lv:Value} {vs:List Value} {w:World} {f prev:ah} {x y mo:Int} {s:j4} {q:Nat} (J:FrOk f) (h:aj .i64 lo hi w pv f.pix) (Z:hi<=w.heap.size) (O:aj .i64 Wi Uq w qv prev.pix) (I:ep lo3 hi3 w lv vs s.large s.small) (D:s.kind<2->FrOk prev) (E:sw s) (ZL:s.kind=2->mo=s.mode) (F:s.modes.length=4) (V:q<=15) (hx:0<=x) (N:x+8<=f.W) (Y:0<=y) (M:y+8<=f.H) :
  Calls prog 42 #[.agg #[f.W,f.H,pv],.agg #[prev.W,prev.H,qv],x,y,q,.agg (j1 s.kind mo s.modes s.vx s.vy lv vs).toArray] w fun e w'=>(∃ v',e=.returned (.agg #[f.W,f.H,v'])/\f9 .i64 3 w.heap.size w' v' (bk f prev x y q s).pix/\ae [] w w'):=by
 obtain ⟨kind,mode,ms,vx,vy,L,SL⟩:=s;have hk:=E.kind;simp only at I D ZL F hk;rcases (by omega:kind=0\/kind=1\/kind=2\/kind=3) with rfl | rfl | rfl | rfl
 ·exact zT J h O I F V hx N Y M (D Qa)
 ·obtain ⟨a,b⟩:=E.large (.inl rfl)
  exact zU J h O I F V hx N Y M (D Qa) a b (E.vec rfl)
 ·obtain ⟨a,b⟩:=E.large (.inr rfl)
  obtain rfl:=ZL rfl;exact zV J h O I F V hx N Y M rfl (by have:mode<=3:=E.mode rfl;omega) a b
 ·obtain ⟨-,a,b,c⟩:=E.small rfl
  exact zW J h O I F V hx N Y M Z b a c
end
theorem iU {p:Prop} (h:p:=by intro wz Rb;(try dsimp only at Rb);go_simp;try with_reducible rfl):p:=h
section
theorem eE {k mo:Int} {ms:List Int} {vx vy:Int} {lv:Value} {vs:List Value} (D:ms.length=4) (E:vs.length=4):(prog.info? 91).map (·.size)=some (j1 k mo ms vx vy lv vs).toArray.size:=by
 rw [show (j1 k mo ms vx vy lv vs).toArray.size=13 from kS D E];kernel_rfl
theorem Dj {q lo hi Wi Uq:Nat} {pv bv:Value} {f:ah} {b:List Int} {w:World} (QM:FrOk f) (h:aj .i64 lo hi w pv f.pix) (hhi:hi<=w.heap.size) (hb:aj .i64 Wi Uq w bv b) (lb:b.length=64) (sb:ar b) (x y:Int) (hx:0<=x) (Ry:x+8<=f.W) (hy:0<=y) (RJ:y+8<=f.H) (V:q<=15) :
  Calls prog 100 #[bv,.agg #[f.W,f.H,pv],x,y,q] w fun e w'=>(∃ vs,e=.returned (.tuple #[.agg (j1 3 0 (fp f b x y q).1 0 0 ai vs).toArray,.int .i64 (fp f b x y q).2.2])/\(fp f b x y q).1.length=4/\ep w.heap.size w'.heap.size w' ai vs [] (fp f b x y q).2.1/\ae [] w w'):=by
 refine aK fun Q QF=>?_
 have QJ:=QM.len;have hWW:=QM.w0;have hHH:=QM.h0;have Rs:=QM.w1;have hH1:=QM.h1;have HQu:=lh (fun (W:World) (o:ae [] w W)=>xX (hb.quiet o) lb);have HDk:=lh (fun (P:List Int) (hP:FrOk ⟨f.W,f.H,P⟩) (c:List Int) (lc:c.length=16) (sc:ar c) (Y Z:Int) (hx:0<=Y) (Ry:Y+4<=f.W) (hy:0<=Z) (RJ:Z+4<=f.H)=>(⟨iD (n:=4) (q:=q) (.inl rfl) hP.sam lc sc Y Z V,jl hP (n:=4) hx Ry hy RJ (iD (n:=4) (q:=q) (.inl rfl) hP.sam lc sc Y Z V).1 Qa ((aI ⟨f.W,f.H,P⟩ c Y Z 4).1:Int) (q:Int),js _ _ _ _ _,ni hP.sam sc Y Z (n:=4) (.inl rfl) lc⟩:((fV ⟨f.W,f.H,P⟩ c Y Z 4 q).length=16/\cE (fV ⟨f.W,f.H,P⟩ c Y Z 4 q))/\FrOk (ek ⟨f.W,f.H,P⟩ Y Z 4 ((aI ⟨f.W,f.H,P⟩ c Y Z 4).1:Int) (q:Int) (fV ⟨f.W,f.H,P⟩ c Y Z 4 q))/\(aI ⟨f.W,f.H,P⟩ c Y Z 4).1<=3/\0<=(aI ⟨f.W,f.H,P⟩ c Y Z 4).2/\(aI ⟨f.W,f.H,P⟩ c Y Z 4).2<=16320));have HQs:=lh (fun j=>(⟨ii b j,iV sb j⟩:(av b j).length=16/\ar (av b j)));have HE:Hid (fp f b x y q=fB b x y q 4 0 ⟨f.W,f.H,f.pix⟩ [] [] 24):=lh rfl;have XN:=lh QM;have Hq:=lh V;have HP:=lh h;have HHi:=lh hhi;obtain ⟨pa,pc,rfl,-⟩:=h.open;obtain ⟨qa,qc,rfl,-⟩:=hb.open;rw [lb];rw [lb] at HQu;obtain ⟨FE,hFE⟩:=bu (fp f b x y q)
 rw [<- hFE] at HE QF;clear h hb lb sb QM V QJ hFE hhi;have QW:Hid (ae [] w (((w.alloc (sT f pa pc)).alloc (.cells xT 91)).alloc (.cells (j1 3 0 [0,0,0,0] 0 0 ai [ai,ai,ai,ai]).toArray 91))):=lh (((ae.new w _).alloc _).alloc _);have HR0:Hid ((((w.alloc (sT f pa pc)).alloc (.cells xT 91)).alloc (.cells (j1 3 0 [0,0,0,0] 0 0 ai [ai,ai,ai,ai]).toArray 91)).heap[w.heap.size]?=some (.cells (sT f pa pc) 24)):=lh (((ae.new (w.alloc _) _).alloc _).row (Sd w _));have Rg:Hid ((((w.alloc (sT f pa pc)).alloc (.cells xT 91)).alloc (.cells (j1 3 0 [0,0,0,0] 0 0 ai [ai,ai,ai,ai]).toArray 91)).heap[w.heap.size+1]?=some (.cells (j1 0 0 [0,0,0,0] 0 0 ai [ai,ai,ai,ai]).toArray 91)):=lh ((ae.new ((w.alloc _).alloc _) _).row (ak Qb));have SQ:Hid ((((w.alloc (sT f pa pc)).alloc (.cells xT 91)).alloc (.cells (j1 3 0 [0,0,0,0] 0 0 ai [ai,ai,ai,ai]).toArray 91)).heap[w.heap.size+1+1]?=some (.cells (j1 3 0 [0,0,0,0] 0 0 ai [ai,ai,ai,ai]).toArray 91)):=ak Qb;have UO:Hid ((((w.alloc (sT f pa pc)).alloc (.cells xT 91)).alloc (.cells (j1 3 0 [0,0,0,0] 0 0 ai [ai,ai,ai,ai]).toArray 91)).heap.size=w.heap.size+1+1+1):=lh Qb;go_enter func100,ntmps100;go_wp2_with fail;have Zs:(((w.alloc (sT f pa pc)).alloc (.cells xT 91)).alloc (.cells #[.int .i64 3,(),(),(),(),(),(),(),d8,d8,d8,d8,d8] 91))=(((w.alloc (sT f pa pc)).alloc (.cells xT 91)).alloc (.cells (j1 3 0 [0,0,0,0] 0 0 ai [ai,ai,ai,ai]).toArray 91)):=rfl
 rw [Zs];clear Zs;generalize Tb:World.alloc (World.alloc (World.alloc w _) _) _=W3 at *
 clear Tb;obtain ⟨F,hBS⟩:=bu (w.heap.size+1+1)
 rw [<- hBS] at SQ UO |-
 have HBS:=lh hBS;clear hBS;refine (HQu.out W3 QW).mono ?_;rintro e w5 ⟨qs,rfl,hqr,hqf,RF⟩;have Vf:=ae.new w5 (.cells #[(),d8] 39);obtain ⟨GQ,hGQ⟩:=bu (W3.heap.size+1)
 rw [<- hGQ] at hqr hqf |-
 have HGQ:=lh hGQ;have HQA:=lh (Vf.row hqr);have UM:=lh (fun j (hj:j<4)=>((hqf.own j hj).ints.quiet Vf:aj .i64 (GQ+1) w5.heap.size _ (qs.getD j ai) (av b j)));have HQl:=lh hqf.len;have JjK:=lh (RF.q Vf);have UQ:Hid (W3.heap.size<=w5.heap.size):=lh RF.size;clear hqr hqf RF Vf hGQ HQu;go_wp2_with fail;generalize hW6:World.alloc w5 _=W6 at *
 clear hW6;have SJ:=lh (QW.q JjK);have VN:Hid (w.heap.size<F/\w.heap.size+1<F/\F<GQ/\GQ<W6.heap.size):=lh (D9 HBS.out UO.out HGQ.out ((l8.1 HQA).1));go_loopw [16,15,17,18,19,20,21,22,23,24,25,26] (fun i cv _ _ _ _ _ _ _ _ _ _ wr=>∃ (k:Nat) (P ms:List Int) (vs:List Value) (ls:List (List Int)) (c:Int) (fv:Value) (l1 h1:Nat),k<=4/\i=.int .i64 k/\cv=.int .i64 c/\Hid (FrOk ⟨f.W,f.H,P⟩)/\Hid (wr.heap[w.heap.size]?=some (.cells #[f.W,f.H,fv] 24))/\Hid (aj .i64 l1 h1 wr fv P/\(h1<=w.heap.size\/F<l1)/\h1<=wr.heap.size)/\Hid (wr.heap[F]?=some (.cells (j1 3 0 ms 0 0 ai vs).toArray 91))/\Hid (ms.length=4/\vs.length=4/\ls.length=k)/\Hid (∀ j,j<k->aj .i64 (F+1) wr.heap.size wr (vs.getD j ai) (ls.getD j []))/\Hid (fB b x y q (4-k) k ⟨f.W,f.H,P⟩ (ms.take k) ls c=FE)/\Hid (0<=c/\c<=24+70000*k)/\Hid (ae [w.heap.size,F] W6 wr)) (fun i _ _ _ _ _ _ _ _ _ _ _ _=>4-(intOf i).toNat)
 case atStart=>exact ⟨0,f.pix,[0,0,0,0],[ai,ai,ai,ai],[],24,.slice pa f.pix.length pc,lo,hi,Qa,rfl,rfl,XN,lh (JjK.row HR0),lh ⟨HP.quiet SJ,.inl HHi.out,by have:=HHi.out;have:=SJ.size;omega⟩,lh (JjK.row SQ),lh ⟨rfl,rfl,rfl⟩,lh (fun j hj=>absurd hj Qa),lh HE.symm,lh Qa,lh (AY)⟩
 case round =>
  obtain ⟨k,P,ms,vs,ls,c,fv,l1,h1,hk,rfl,rfl,Us,SU,HIk,Xi,J,Jhk,Tk,Hc,QP⟩:=hrel;by_cases QH:k<4
  ·have Rt:(k:Int)<4:=Qa
   have RA:(0:Int)<=(k:Int):=Qa;obtain ⟨fa,fc,rfl,-⟩:=HIk.1.open;obtain ⟨a0,a1,a2⟩:=ag SU;have hqa:=QP.rowAt HQA (by have:=VN.out;simp only [Pg,Ph,l7];omega);have cq:wr.cell? ⟨GQ,k,none⟩=some (qs.getD k ai):=by
    rw [RG hqa,C4,Pd,Pe (j0 HQl.out)];rfl
   have hqi:=(UM.out k QH).only QP (fun g hg=>by have:=VN.out;simp only [Pg,Ph,l7] at hg;omega);have Yl:=HQs.out k;obtain ⟨ca,cc,hcv,-⟩:=hqi.open;rw [Yl.1] at hcv;rw [hcv] at cq hqi;have HQi:=lh hqi;have Hqs:=lh Yl;have HCq:=lh cq;clear hqa hqi Yl hcv;have d1:(k:Int).tmod 2=((k % 2:Nat):Int):=by rw [PR RA];rfl
   have d2:(k:Int).tdiv 2=((k / 2:Nat):Int):=by rw [TY RA];rfl
   have d3:IntKind.i64.wrap (((k % 2:Nat):Int)*4)=((k % 2:Nat):Int)*4:=Qe;have d4:IntKind.i64.wrap ((k / 2:Nat):Int)=((k / 2:Nat):Int):=Qe;have d5:IntKind.i64.wrap (((k / 2:Nat):Int)*4)=((k / 2:Nat):Int)*4:=Qe;obtain ⟨D,hAX⟩:=bu (x+((k % 2:Nat):Int)*4)
   obtain ⟨E,hAY⟩:=bu (y+((k / 2:Nat):Int)*4)
   have bx:0<=D/\D+4<=f.W:=Qa;have bY:0<=E/\E+4<=f.H:=Qa;have d6:IntKind.i64.wrap (x+((k % 2:Nat):Int)*4)=D:=by rw [<- hAX,Pk];omega
   have d7:IntKind.i64.wrap (y+((k / 2:Nat):Int)*4)=E:=by rw [<- hAY,Pk];omega
   have HB:=lh (VL bx bY);have Tm:Hid (fB b x y q (4-k) k ⟨f.W,f.H,P⟩ (ms.take k) ls c=fB b x y q (4-(k+1)) (k+1) (ek ⟨f.W,f.H,P⟩ D E 4 (aI ⟨f.W,f.H,P⟩ (av b k) D E 4).1 q (fV ⟨f.W,f.H,P⟩ (av b k) D E 4 q)) (ms.take k ++ [((aI ⟨f.W,f.H,P⟩ (av b k) D E 4).1:Int)]) (ls ++ [fV ⟨f.W,f.H,P⟩ (av b k) D E 4 q]) (c+4*(aI ⟨f.W,f.H,P⟩ (av b k) D E 4).2)):=lh (by
    obtain ⟨k3,Ub⟩:∃ k3,4-k=k3+1:=⟨3-k,Qa⟩
    rw [Ub,show 4-(k+1)=k3 by omega,hAX,hAY]
    rfl)
   have hdk:=HDk.out P Us (av b k) Hqs.1 Hqs.2 D E bx.1 bx.2 bY.1 bY.2;have Uh:=lh hdk.1;have HFr:=lh hdk.2.1;obtain ⟨hm3,hs0,Ru⟩:=hdk.2.2;have HBs:=lh (VL hs0 Ru);have HEd:=lh (oL (f:=⟨f.W,f.H,P⟩) Us HIk.1 D E 4 (.inl rfl) bx.1 bx.2 bY.1 bY.2);have htl:=cV ⟨f.W,f.H,P⟩ D E 4;have Th:=ju ⟨f.W,f.H,P⟩ D E 4;have Wf:=jr Us.sam D E 4;have TG:=hZ Us.sam D E 4;have Uo:=eZ Us.sam (D-1) (E-1);have HBe:=lh (fun (W:World) (l1 h1 l2 h2 l3 h3:Nat) (v0 v1 v2:Value) (i0:aj .i64 l3 h3 W v0 (av b k)) (i1:aj .i64 l1 h1 W v1 (dA ⟨f.W,f.H,P⟩ D E 4)) (i2:aj .i64 l2 h2 W v2 (cd ⟨f.W,f.H,P⟩ D E 4))=>wd (n:=4) (.inl rfl) i0 i1 i2 Hqs.1 htl Th Hqs.2 Wf TG Uo);rw [show lR (av b k) (dA ⟨f.W,f.H,P⟩ D E 4) (cd ⟨f.W,f.H,P⟩ D E 4) (aB ⟨f.W,f.H,P⟩ (D-1) (E-1))=aI ⟨f.W,f.H,P⟩ (av b k) D E 4 from rfl] at HBe;have Yb:=lh (fun (W:World) (l1 h1 l2 h2:Nat) (v1 v2:Value) (i1:aj .i64 l1 h1 W v1 (dA ⟨f.W,f.H,P⟩ D E 4)) (i2:aj .i64 l2 h2 W v2 (cd ⟨f.W,f.H,P⟩ D E 4))=>ku i1 i2 htl Th Wf TG Uo (mode:=((aI ⟨f.W,f.H,P⟩ (av b k) D E 4).1:Int)) Qa);rw [show bi ((aI ⟨f.W,f.H,P⟩ (av b k) D E 4).1:Int) (dA ⟨f.W,f.H,P⟩ D E 4) (cd ⟨f.W,f.H,P⟩ D E 4) (aB ⟨f.W,f.H,P⟩ (D-1) (E-1))=fO ⟨f.W,f.H,P⟩ D E 4 (aI ⟨f.W,f.H,P⟩ (av b k) D E 4).1 from rfl] at Yb;have hpo:=iR Us.sam D E (n:=4) Qa (aI ⟨f.W,f.H,P⟩ (av b k) D E 4).1;have Zk:=lh (fun (W:World) (l1 h1 l2 h2:Nat) (v0 v1:Value) (i0:aj .i64 l2 h2 W v0 (av b k)) (i1:aj .i64 l1 h1 W v1 (fO ⟨f.W,f.H,P⟩ D E 4 (aI ⟨f.W,f.H,P⟩ (av b k) D E 4).1))=>GA i0 i1 Hqs.1 hpo.1 Hqs.2 hpo.2 q Hq);rw [show bB (av b k) (fO ⟨f.W,f.H,P⟩ D E 4 (aI ⟨f.W,f.H,P⟩ (av b k) D E 4).1) q=fV ⟨f.W,f.H,P⟩ (av b k) D E 4 q from rfl] at Zk;have Jlr:Hid (ek ⟨f.W,f.H,P⟩ D E 4 ((aI ⟨f.W,f.H,P⟩ (av b k) D E 4).1:Int) q (fV ⟨f.W,f.H,P⟩ (av b k) D E 4 q)=dP ⟨f.W,f.H,P⟩ D E 4 (ez (fO ⟨f.W,f.H,P⟩ D E 4 (aI ⟨f.W,f.H,P⟩ (av b k) D E 4).1) (ce (fV ⟨f.W,f.H,P⟩ (av b k) D E 4 q) q))):=lh rfl;have N:=lh hpo;have HTl:=lh (VL htl Th);generalize hbe:aI ⟨f.W,f.H,P⟩ (av b k) D E 4=BE at *
   obtain ⟨bm,bs⟩:=BE;simp only at hm3 hs0 Ru Tm HFr HBe Yb Zk N Jlr HBs;generalize hL:fV ⟨f.W,f.H,P⟩ (av b k) D E 4 q=L at *
   generalize hPP:fO ⟨f.W,f.H,P⟩ D E 4 bm=PP at *
   obtain ⟨TM,Sq⟩:=Hc.out;have e1:IntKind.i64.wrap (4*bs)=4*bs:=Qe;have e2:IntKind.i64.wrap (c+4*bs)=c+4*bs:=Qe;have Juc:(0:Int)<=(bm:Int):=Qa;clear hdk bx bY hAX hAY hbe hL hPP hpo htl Th Wf TG Uo;generalize ((k % 2:Nat):Int)=D1 at *
   generalize ((k / 2:Nat):Int)=D2 at *
   go_wp2_with fail;clear d1 d2 d3 d4 d5 d6 d7 a0 a1 a2;refine HEd.mono ?_;rintro e w7 ⟨v1,v2,rfl,Rc,Sc,TZ⟩;obtain ⟨gt,ct,rfl,-,-⟩:=Rc.form (by rw [HTl.1];omega);obtain ⟨gl,cl,rfl,-,-⟩:=Sc.form (by rw [HTl.2];omega);rw [HTl.1] at Rc |-
   rw [HTl.2] at Sc |-
   have HT7:=lh (VL Rc.ints Sc.ints);have HX7:=lh TZ;have cq7:=TZ.cell cq Qb;clear Rc Sc TZ cq;go_wp2_with fail;clear cq7;refine (HBe.out w7 _ _ _ _ _ _ _ _ _ (HQi.quiet HX7) HT7.1 HT7.2).mono ?_;rintro e w8 ⟨rfl,Vn⟩;have hn9:=ae.new w8 (.cells #[(),d8] 39);have HX9:=lh (HX7.q (Vn.q hn9));have HT9:=lh (VL ((HT7.1.quiet Vn).quiet hn9) ((HT7.2.quiet Vn).quiet hn9));clear Vn hn9;go_wp2_with fail;generalize hW9:World.alloc w8 _=W9 at *
   clear hW9;refine (Yb.out W9 _ _ _ _ _ _ HT9.1 HT9.2).mono ?_;rintro e VQ ⟨⟨vp,rfl,O⟩,UI⟩;obtain ⟨gp,cp,rfl,-,-⟩:=O.form (by rw [N.1];omega);rw [N.1] at O |-
   have Jpk:=ae.new VQ (.cells #[(),d8] 39);have JnP:=lh (HX9.q (UI.q Jpk));have Jfe:=lh (O.ints.quiet Jpk);clear O UI Jpk;have M:=JnP.row Xi;have x1:(VQ.alloc (.cells #[(),d8] 39)).cell? ⟨F,2+k,none⟩=some (.int .i64 (ms.getD k 0)):=by rw [RG M];exact ij J.1 QH
   have y1:=Sz _ F (2+k) _ _ M;have hsA:=WG _ F (2+k) _ _ (.int .i64 (bm:Int)) M;rw [rJ J.1 QH (bm:Int)] at hsA;have hoA:ae [F] (VQ.alloc (.cells #[(),d8] 39)) ((VQ.alloc (.cells #[(),d8] 39)).setCell ⟨F,2+k,none⟩ (.int .i64 (bm:Int))):=(AY).setCell Qb _;have RQ:(ms.set k (bm:Int)).length=4:=by rw [PF];exact J.1
   have JAi:=hoA.cell (JnP.cell HCq Qb) (by rw [i5];have:=VN.out;simp only;omega);have HSA:=lh hsA;have HOA:=lh (JnP.trans hoA (U:=[F]) Qb (fun _ h _=>h));have HPA:=lh (Jfe.only hoA (fun g hg=>by rw [i5] at hg;have h1:=HX9.size;have h2:=QP.size;have h3:=VN.out;omega));have Tv:=lh RQ;clear M hsA hoA RQ;go_wp2_with fail;clear x1 y1 JAi;generalize hWA:World.setCell (World.alloc VQ _) _ _=WA at *
   clear hWA;refine (Zk.out WA _ _ _ _ _ _ (HQi.only HOA (fun g hg=>by rw [i5] at hg;have:=VN.out;omega)) HPA).mono ?_;rintro e Uy ⟨⟨lv,rfl,Xl⟩,Xc⟩;obtain ⟨gL,Jco,rfl,hgL,-⟩:=Xl.form (by rw [Uh.1];omega);rw [Uh.1] at Xl |-
   have M:=Xc.row HSA;have x2:Uy.cell? ⟨F,9+k,none⟩=some (vs.getD k ai):=by rw [RG M];exact dO Tv J.2.1 QH
   have y2:=Sz _ F (9+k) _ _ M;have hsB:=WG _ F (9+k) _ _ (.slice gL 16 Jco) M;rw [qx Tv.out J.2.1 QH] at hsB;have hoB:ae [F] Uy (Uy.setCell ⟨F,9+k,none⟩ (.slice gL 16 Jco)):=(AY).setCell Qb _;have JsC:=lh hsB;have HWs:=lh hoB.size;have Ss:=lh ((HOA.trans Xc (U:=[F]) (fun _ h _=>h) Qb).trans hoB (U:=[F]) (fun _ h _=>h) (fun _ h _=>h));have z4:=QP.size;have z3:=HOA.size;have z2:=VN.out;have JrM:=lh (Xl.ints.only hoB (fun g hg=>Qd));have Vj:Hid (F+1<=WA.heap.size):=lh Qa;have JyG:=lh ((HPA.quiet Xc).only hoB (fun g hg=>by rw [i5] at hg;have h1:=HX9.size;have h2:=QP.size;have h3:=VN.out;omega));have Jdd:=lh (Ss.rowAt SU Qi);clear Xl Xc M hsB hoB hgL z4 z3 z2;go_upto_region 14 with (fail)
   generalize JAF:World.setCell Uy _ _=W12 at *
   clear JAF x2 y2;have JgE:=lh (HIk.1.only Ss (fun g hg=>by rw [i5] at hg;have h1:=HIk.2.1;have h3:=VN.out;omega));have HRl:Hid ((ce L q).length=16):=lh (by rw [gR];exact Uh.1);have Jju:Hid ((ez PP (ce L q)).length=16):=lh (by rw [jt (by rw [N.1,HRl.out])];exact N.1);have Td:=lh (fun (W:World) (o:ae [] W12 W)=>nG (JrM.quiet o) (.inl Uh.1) Uh.2 q Hq);have UK:=lh (fun (W:World) (o:ae [] W12 W) (l h:Nat) (v:Value) (hv:aj .i64 l h W v (ce L q)) (hab:dg 401080320 (ce L q))=>lw (JyG.quiet o) hv (by rw [N.1,HRl.out]) (by rw [N.1];omega) N.2 hab);have HPu:=lh (fun (W:World) (o:ae [] W12 W) (l h:Nat) (v:Value) (hv:aj .i64 l h W v (ez PP (ce L q)))=>Ad (f:=⟨f.W,f.H,P⟩) Us (JgE.quiet o) hv Jju (yY _ _) HB.1.1 HB.1.2 HB.2.1 HB.2.2);rw [Jlr.out] at Tm HFr;have HNq:Hid ((⟨f.W,f.H,(dP ⟨f.W,f.H,P⟩ D E 4 (ez PP (ce L q))).pix⟩:ah)=(dP ⟨f.W,f.H,P⟩ D E 4 (ez PP (ce L q)))):=lh rfl;generalize (dP ⟨f.W,f.H,P⟩ D E 4 (ez PP (ce L q)))=NP at *
   rw [<- HNq.out] at HFr Tm;have HNp:Hid (0<NP.pix.length):=lh (by have h1:=HFr.len;simp only at h1;have h2:8*8<=f.W*f.H:=A3 Qa Qa Qa Qa;omega);have HNe:Hid (¬ F=w.heap.size):=lh (j0 VN.out);have cL:W12.cell? ⟨F,9+k,none⟩=some (.slice gL 16 Jco):=by rw [RG JsC.out];exact (dO Tv (by rw [PF];exact J.2.1) QH).trans (by rw [dM (by rw [J.2.1];exact QH)])
   obtain ⟨a0,a1,a2⟩:=ag Jdd;refine Tf (S:=(fun w'=>w'.cell? ⟨F,9+k,none⟩=some (.slice gL 16 Jco))) Qc ?_ (fun hHeld=>?_)
   ·exact cL
   refine e9 1 94 ⟨rfl,iU⟩ ?_;refine e9 2 95 ⟨rfl,iU⟩ ?_;refine e9 3 96 ⟨rfl,iU⟩ ?_;refine e9 4 97 ⟨rfl,iU⟩ ?_;refine e9 5 98 ⟨rfl,iU⟩ ?_;refine e9 6 99 ⟨rfl,iU⟩ ?_;refine e9 7 100 ⟨rfl,iU⟩ ?_;refine e9 8 101 ⟨rfl,iU⟩ ?_
   iterate 5 (all_goals (first | (refine j8 (rs:=[0,9]) Qg Qb ?_;refine j2 0 93 (fun K hK=>?_) (j2 9 102 (fun K hK=>?_) .nil)) | (refine j8 (rs:=[0,10]) Qg Qb ?_;refine j2 0 93 (fun K hK=>?_) (j2 10 103 (fun K hK=>?_) .nil)) | (refine j8 (rs:=[0]) Qg Qb ?_;refine j2 0 93 (fun K hK=>?_) .nil) | (refine j8 (rs:=[9]) Qg Qb ?_;refine j2 9 102 (fun K hK=>?_) .nil) | (refine j8 (rs:=[10]) Qg Qb ?_;refine j2 10 103 (fun K hK=>?_) .nil) | (refine j8 (rs:=[11]) Qg Qb ?_;refine j2 11 104 (fun K hK=>?_) .nil) | (refine j8 (rs:=[12]) Qg Qb ?_;refine C9 12 (fun K hK=>?_) .nil));all_goals go_simp;all_goals (first | (go_at_call 109;refine (Td.out _ (by first | exact AY | exact (AY).drew)).mono ?_;rintro e v9 ⟨⟨rv,rfl,hor⟩,hab,V⟩;have o9:=lh ((by first | exact V | exact (AY).drew.q V):ae [] W12 v9);obtain ⟨gr,cr,rfl,-,-⟩:=hor.form (eC HRl);have HR9:=lh hor.ints;have HAb:=lh hab;obtain ⟨a0,a1,a2⟩:=ag (o9.row Jdd);clear hor hab V;refine hK.out _ _ (o9.cell cL Qb) (fun hHeld=>?_);clear hK K) | (go_at_call 108;refine (UK.out _ (gf o9) _ _ _ (mj HR9) HAb).mono ?_;rintro e v10 ⟨⟨cv,rfl,hoc⟩,V⟩;have I:=lh (o9.q (by first | exact V | exact (AY).drew.q V):ae [] W12 v10);obtain ⟨gc,cc2,rfl,-,-⟩:=hoc.form (eC Jju);have XY:=lh hoc.ints;obtain ⟨a0',a1',a2'⟩:=ag (I.row Jdd);clear hoc V;refine hK.out _ _ (I.cell cL Qb) (fun hHeld=>?_);clear hK K) | (go_at_call 107;refine (HPu.out _ (gf I) _ _ _ (mj XY)).mono ?_;rintro e v11 ⟨nv,rfl,O,V⟩;have o11:=lh (I.q (by first | exact V | exact (AY).drew.q V):ae [] W12 v11);obtain ⟨gn,cn,rfl,YX,-⟩:=O.form HNp;have Jnk:=lh O;have HGn:=lh (Pw I.size (by first | exact YX | (simpa using YX)):W12.heap.size<=gn);have Uu:=o11.row Jdd;obtain ⟨z0,z1,z2⟩:=ag Uu;have y0:=Sz v11 w.heap.size 0 _ _ Uu;have y1:=Sz v11 w.heap.size 1 _ _ Uu;have y2:=Sz v11 w.heap.size 2 _ _ Uu;obtain ⟨Uf,Jcz⟩:=eI (x:=.int .i64 f.W) (y:=.int .i64 f.H) (z:=.slice gn NP.pix.length cn) Uu;have Jtm:=o11.cell cL Qb;have JAf:=Jcz.cell Jtm (dn i5 HNe);have Zz:=lh Uf;have JgP:=lh Jcz;clear O V Uu Uf Jcz YX;refine hK.out _ _ (Jtm) (fun hHeld=>?_);clear hK K) | (refine hK.out _ _ (by first | exact cL | exact o9.cell cL Qb | exact I.cell cL Qb | exact o9.drew.cell cL Qb | exact I.drew.cell cL Qb) (fun hHeld=>?_);clear hK K) | (refine hK.out _ _ (JAf) (fun hHeld=>?_);clear hK K)))
   all_goals (refine Wn Qc ?_ _)
   all_goals
    go_wp2_with fail;have JdN:ae [w.heap.size,F] wr _:=((Ss.mono (U:=[w.heap.size,F]) (fun g h _=>by rw [i5] at h;subst h;simp)).trans (o11.mono (U:=[w.heap.size,F]) Qb) (U:=[w.heap.size,F]) (fun _ h _=>h) (fun _ h _=>h)).trans JgP (U:=[w.heap.size,F]) (fun _ h _=>h) (fun g h _=>by rw [i5] at h;subst h;simp);have z5:=Ss.size;have z6:=o11.size;have z7:=JgP.size;have z8:=QP.size;have z9:=VN.out;have z10:=I.size;have z11:=Vj.out;have z12:=HWs.out;have hsr:=JgP.rowAt (o11.row JsC) Qi;refine ⟨⟨k+1,NP.pix,ms.set k bm,vs.set k (.slice gL 16 Jco),ls ++ [L],c+4*bs,.slice gn NP.pix.length cn,W12.heap.size,_,Qa,Qh,rfl,HFr,lh Zz.out,lh ⟨(Jnk.ints.only JgP (fun g hg=>Qd)).mono ?_ (Pm _),.inr Qa,Qa⟩,lh hsr,lh ⟨by rw [PF];exact J.1,by rw [PF];exact J.2.1,by rw [Pn,J.2.2];rfl⟩,lh (fun j hj=>?_),lh ?_,lh ?_,lh (QP.trans JdN (fun _ h _=>h) (fun _ h _=>h))⟩,Qf⟩
    ·exact Pw (Pm _) (by first | exact I.size | exact I.drew.size)
    ·by_cases XQ:j=k
     ·subst XQ
      have e2:(ls ++ [L]).getD j []=L:=by
       rw [Pd,Pt (by rw [J.2.2];exact Pm _),J.2.2,Nat.sub_self];rfl
      rw [dM (j0 J.2.1),e2];exact ((JrM.quiet o11).only JgP (fun g hg=>Qd)).mono (j0 Vj.out) Qa
     ·have hjl:j<k:=Qa
      have e2:(ls ++ [L]).getD j []=ls.getD j []:=by
       rw [Pd,Pu (by rw [J.2.2];exact hjl),<- Pd]
      rw [eO XQ,e2];exact ((Jhk.out j hjl).only JdN (fun g hg=>by simp only [Pg,Ph,l7] at hg;omega)).mono (Pm _) JdN.size
    ·rw [xp J.1 QH,<- Tk.out,Tm.out]
    ·have:=Hc.out;have:=HBs.out;omega
  ·obtain rfl:k=4:=Qa
   have Rt:¬ ((4:Nat):Int)<4:=Qa;have HF:Hid (FE=(ms,ls,c)):=lh (by rw [<- Tk.out,YN (j0 J.1)];rfl);have QS:ep (F+1) wr.heap.size wr ai vs [] ls:=⟨aj.nil _ _ _ _,J.2.1,fun i hi=>Jhk.out i hi⟩
   have Tg:=lh QS;have Xo:=lh (eE (k:=3) (mo:=0) (ms:=ms) (vx:=0) (vy:=0) (lv:=ai) (vs:=vs) J.1 J.2.1);have Vq:=lh (eh (k:=3) (mo:=0) (ms:=ms) (vx:=0) (vy:=0) (lv:=ai) (vs:=vs) rfl QS.one.2);have YE:=lh (dD (k:=0) (mo:=0) (ms:=[0,0,0,0]) (vx:=0) (vy:=0) (lv:=ai) (vs:=[ai,ai,ai,ai]) (k':=3) (mo':=0) (ms':=ms) (vx':=0) (vy':=0) (lv':=ai) (vs':=vs) rfl rfl J.1 J.2.1);have RT:=lh underlying91;have HRt:=lh (QP.rowAt (JjK.row Rg) (by have:=VN.out;have:=HBS.out;simp only [Pg,Ph,l7];omega));have Vv:=lh (m7 wr (w.heap.size+1) _ (j1 3 0 ms 0 0 ai vs).toArray _ _ HRt);have VU:=lh (ae.setRow (S:=[w.heap.size+1]) (ae.refl _ wr) (g:=w.heap.size+1) (fun _=>Qb) (j1 3 0 ms 0 0 ai vs).toArray);clear QS
   go_wp2_with (first
    | (refine az rfl (.tmp 12) 91 rfl rfl Xi RT rfl Xo ?_)
    | (refine am rfl (.tmp 10) (.tmp 105) 91 rfl rfl rfl HRt Xo YE Vq ?_)
    | fail)
   rw [HF.out] at QF;have z1:=VU.size;have z2:=QP.size;have z3:=VN.out;have z4:=SJ.size;refine TV (v:=.tuple #[.agg (j1 3 0 ms 0 0 ai vs).toArray,c]) (cw results100 _ _ (w.heap.size+1) _ _ _ _ _ rfl rfl Vv RT rfl Xo) rfl (QF.out _ _ ⟨vs,rfl,J.1,?_,?_⟩)
   ·have ZK:=Tg.only VU (fun g hg=>Qd)
    exact ⟨ZK.large.mono Qa Qa,ZK.len,fun i hi=>(ZK.small i hi).mono Qa Qa⟩
   ·exact ((SJ.trans QP (U:=[]) Qb (fun g hg QH=>by simp only [Pg,Ph,l7] at hg;omega))).trans VU (U:=[]) Qb (fun g hg QH=>Qd)
end
end Go.Proofs.YthcafdfdglfabaaGreatDoor
