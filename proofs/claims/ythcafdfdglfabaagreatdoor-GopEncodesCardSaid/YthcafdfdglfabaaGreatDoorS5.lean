/- Joined texts: DNew, DSep, DEdges, DPred, DOne. Conditions: each part names its own. -/
import Derived.Test.YthcafdfdglfabaaGreatDoorS6
set_option maxRecDepth 100000
set_option maxHeartbeats 16000000
namespace Go.Proofs.YthcafdfdglfabaaGreatDoor
open Tryz
open Go.RowKit
set_option linter.unusedVariables false
set_option linter.unusedSimpArgs false
theorem wO (W H V:Int) (w:World) (Z:jJ W H V=true):Calls prog 29 #[W,H,V] w fun e w'=>∃ g cap,e=.returned (.tuple #[.agg #[W,H,.slice (some ⟨g,0,none⟩) (ed W H V).pix.length cap],.nilIface])/\f9 .i64 3 w.heap.size w' (.slice (some ⟨g,0,none⟩) (ed W H V).pix.length cap) (ed W H V).pix/\ae [] w w':=by
 refine aK fun Q QF=>?_
 unfold jJ at Z;rw [t8,t8] at Z;obtain ⟨⟨hW,hH⟩,hV⟩:=Z;have bW:=A2 hW;have bH:=A2 hH;have bV:=A2 hV;have HW:=lh hW;have HH:=lh hH;have HV:=lh hV;clear hW hH hV;obtain ⟨E,rfl⟩:=A0 (by omega:0<=W);obtain ⟨D,rfl⟩:=A0 (by omega:0<=H);have Z:E*D<=1024:=Pw (A8 (by omega:E<=32) (by omega:D<=32)) Ql;have ZM:(E:Int)*(D:Int)=((E*D:Nat):Int):=by rw [A9]
 have HF:Hid ((ed E D V).pix=List.replicate (E*D) V):=lh (by show List.replicate ((E:Int)*(D:Int)).toNat V=_;rw [ZM];rfl);have Vp:Hid ((ed E D V).pix.length=E*D):=lh (by rw [HF.out,PE]);rw [Vp.out] at QF;rw [HF.out] at QF;generalize hN:E*D=n at *
 clear hN bW bH;have QS:i7 .i64 V:=by simp only [i7];omega
 have YJ:=lh QS;clear QS bV;have Uv:=run_make_row' (P:=prog) 22 3 (.int .i64 0) 8 EI.ut Qc rfl .i64 .i64 n Qa Qa;go_enter func29,ntmps29
 go_wp2_with (first | (go_at_call 63;refine (mW _ _).mono ?_;rintro e w' ⟨rfl,rfl⟩;(first | rw [HW.out] | rw [HH.out])) | (go_at_call 64;refine (ux _ _).mono ?_;rintro e w' ⟨rfl,rfl⟩;rw [HV.out]) | fail)
 clear Uv;have HO:Hid (f9 .i64 3 (w.heap.size+1) (((w.alloc (.cells #[(),(),d8] 24)).alloc (.cells (madeCells #[()] n) 3)).alloc (.cells #[E,D,.slice (some ⟨w.heap.size+1,0,none⟩) n n] 24)) (.slice (some ⟨w.heap.size+1,0,none⟩) n n) (List.replicate n 0)):=lh (by
  have h0:=gB .i64 3 (w.alloc (.cells #[(),(),d8] 24)) n (by simp [maxLen];omega);have hz:(w.alloc (.cells #[(),(),d8] 24)).heap.size=w.heap.size+1:=Qb;rw [hz] at h0;exact h0.quiet (BS))
 have hO:ae [] w (((w.alloc (.cells #[(),(),d8] 24)).alloc (.cells (madeCells #[()] n) 3)).alloc (.cells #[E,D,.slice (some ⟨w.heap.size+1,0,none⟩) n n] 24)):=(((AY).alloc _).alloc _).alloc _;have HA:Hid ((((w.alloc (.cells #[(),(),d8] 24)).alloc (.cells (madeCells #[()] n) 3)).alloc (.cells #[E,D,.slice (some ⟨w.heap.size+1,0,none⟩) n n] 24)).heap[w.heap.size]?=some (.cells #[(),(),d8] 24)):=lh (((ae.new (w.alloc _) _).alloc _).row (Sd w _));have HB:Hid ((((w.alloc (.cells #[(),(),d8] 24)).alloc (.cells (madeCells #[()] n) 3)).alloc (.cells #[E,D,.slice (some ⟨w.heap.size+1,0,none⟩) n n] 24)).heap[w.heap.size+1+1]?=some (.cells #[E,D,.slice (some ⟨w.heap.size+1,0,none⟩) n n] 24)):=ak Qb;have HO0:=lh hO;clear hO;generalize Tb:World.alloc (World.alloc (World.alloc w _) _) _=W3 at *
 clear Tb;obtain ⟨r0,r1,r2⟩:=ag HB;clear ZM;go_wp2_with fail;clear r0 r1 r2;go_loopw [35,9] (fun i _ wr=>∃ (k:Nat) (L:List Int),k<=n/\i=.int .i64 k/\Hid (L.length=n)/\Hid (L.take k=(List.replicate n V).take k)/\Hid (f9 .i64 3 (w.heap.size+1) wr (.slice (some ⟨w.heap.size+1,0,none⟩) n n) L)/\Hid (ae [w.heap.size+1] W3 wr)) (fun i _ _=>n-(intOf i).toNat)
 case atStart=>exact ⟨0,List.replicate n 0,Qa,rfl,lh Qb,lh rfl,HO,lh (AY)⟩
 case round =>
  obtain ⟨k,L,hk,rfl,I,M,Y,O⟩:=hrel;obtain ⟨r0,r1,r2⟩:=ag (O.rowAt HB Qb);by_cases N:k<n
  ·have Rt:(k:Int)<(n:Int):=Qa
   have RA:(0:Int)<=(k:Int):=Qa;have cx:=Y.cellS I.symm (i:=k) (bC I N);have fx:=Y.frzS I.symm k;generalize L.getD k 0=y at *
   obtain ⟨Ru,Rz⟩:=Y.storeS I.symm YJ k;have Su:=lh Ru;have Te:=lh Rz;clear Ru Rz;go_wp2_with fail;refine ⟨⟨k+1,L.set k V,Qa,Qh,lh (dn PF I),lh (fS M (bC I N) (by rw [I.out,PE]) ?_),Su,lh (O.trans Te (fun _ h _=>h) (fun _ h _=>h))⟩,Qf⟩;rw [Pd,List.getElem?_replicate,if_pos N];rfl
  ·obtain rfl:k=n:=Qa
   have hx:¬ (k:Int)<(k:Int):=Qa;have F:=O.rowAt HA Qb;obtain ⟨e0,e1,e2⟩:=ag F;have g0:wr.frozen? ⟨w.heap.size,0,none⟩=false:=Sz _ _ _ _ _ F;have g1:wr.frozen? ⟨w.heap.size,1,none⟩=false:=Sz _ _ _ _ _ F;have g2:wr.frozen? ⟨w.heap.size,2,none⟩=false:=Sz _ _ _ _ _ F;clear F;have RU:=pB (R:=List.replicate k V) (bC I M) (by rw [I.out,PE]);subst RU;go_wp2_with fail;have Uf:ae [w.heap.size] wr (((wr.setCell ⟨w.heap.size,0,none⟩ (.int .i64 E)).setCell ⟨w.heap.size,1,none⟩ (.int .i64 D)).setCell ⟨w.heap.size,2,none⟩ (.slice (some ⟨w.heap.size+1,0,none⟩) k k)):=(((AY).setCell Qb _).setCell Qb _).setCell Qb _;have hA:ae [] w wr:=HO0.trans O Qb (fun g J N=>absurd (i5.1 J) Qa);refine TV (v:=.tuple #[.agg #[E,D,.slice (some ⟨w.heap.size+1,0,none⟩) k k],.nilIface]) (by simp [results,results29,go_sem,e0,e1,e2,r0,r1,r2,World.cell?_setCell_other]) rfl (QF.out _ _ ⟨w.heap.size+1,k,rfl,?_,hA.trans Uf Qb (fun g J N=>absurd (i5.1 J) Qa)⟩);exact (Y.only Uf (fun g J=>by rw [i5] at J;subst J;simp [Value.ownBlock])).lower Qa
def od (a b:Value):Prop:=∀ g,a.ownBlock=some g->b.ownBlock≠some g
theorem od.symm {a b:Value} (h:od a b):od b a:=fun g D e=>h g e D
theorem od.nil (b:Value):od (.slice none 0 0) b:=fun g D=>by simp [Value.ownBlock] at D
theorem p9.sepD {a b c:Value} {w w':World} (h:p9 a w b w') (s:od a c) (E:∀ g,c.ownBlock=some g->g<w.heap.size):od b c:=by
 intro g D e;rcases h.at_ with e' | e'
 ·exact s g (e' ▸ D) e
 ·have:=e' g D;have:=E g e;omega
theorem f9.accD {k:IntKind} {e:TypeId} {base:Nat} {w w':World} {v a b:Value} {l:List Int} (h:f9 k e base w v l) (x:p9 a w b w') (s:od a v):f9 k e base w' v l :=
 h.only x.only (fun g hg=>s g Qn)
set_option linter.unusedVariables false
set_option linter.unusedSimpArgs false
section
theorem ui {p:Prop} (h:p:=by
 go_enter func191,ntmps191;go_wp2_with fail;go_ret;exact ⟨ee HR.symm,rfl⟩):p:=h
theorem Ct {B lo hi:Nat} {w:World} {f:ah} (h:Ns B lo hi w f) (x y:Int) (hx:x<f.W) (hy:y<f.H) :
  Calls prog 191 #[x,y,.pointer B] w fun e w'=>e=.returned (.int .i64 (aB f x y))/\w=w':=by
 obtain ⟨D,a,cap,J,L⟩:=h;obtain ⟨c0,c1,c2⟩:=ag J;by_cases Z:x<0
 ·have HR:Hid (aB f x y=128):=lh (by unfold aB;rw [if_pos (.inl Z)])
  clear J L D;exact ui
 by_cases Y:y<0
 ·have HR:Hid (aB f x y=128):=lh (by unfold aB;rw [if_pos (.inr Y)])
  clear J L D;exact ui
 have HR:Hid (aB f x y=f.pix.getD (y*f.W+x).toNat 0):=lh (by unfold aB;rw [if_neg Qa]);obtain ⟨I,O⟩:=pV (W:=f.W) (H:=f.H) (x:=x) (y:=0) (j:=y) (n:=1) (j0 D.w0) Qa Qa Qa Qa Qa Qa;rw [Int.zero_add] at I O;have h3:f.W*f.H<=32*32:=A3 D.w1 D.h1 (j0 D.h0) Qa;have V:=D.len;obtain ⟨b,off,VW,hv,-,-,hc⟩:=L.at (i:=(y*f.W+x).toNat) Qa;injection hv with e1 e2 e3
 subst e1;subst e3;generalize f.pix.getD (y*f.W+x).toNat 0=v at *
 generalize f.pix.length=N at *
 generalize f.W=W at *
 generalize f.H=H at *
 obtain ⟨M,E⟩:∃ M,M=y*W:=⟨_,rfl⟩
 have F:0<=y*W:=Int.mul_nonneg Qa Qa;have hM:wrap64 (y*W)=M:=by rw [<- E] at I O F |-;unfold wrap64;omega
 rw [<- E] at I O hc F;have t0:0<=M+x:=I;have t1:M+x<(N:Int):=Qa;have hS:wrap64 (M+x)=M+x:=by unfold wrap64;omega
 clear E J L D I O h3 V F;exact ui
def oZ (f:ah) (x y:Int) (k:Nat):List Int:=(List.range k).map fun i:Nat=>aB f (x+(i:Int)) (y-1)
def oH (f:ah) (x y:Int) (k:Nat):List Int:=(List.range k).map fun i:Nat=>aB f (x-1) (y+(i:Int))
theorem wV (f:ah) (x y:Int) (k:Nat):oZ f x y (k+1)=oZ f x y k ++ [aB f (x+(k:Int)) (y-1)]:=by
 unfold oZ;rw [Zh,PN];simp
theorem vN (f:ah) (x y:Int) (k:Nat):oH f x y (k+1)=oH f x y k ++ [aB f (x-1) (y+(k:Int))]:=by
 unfold oH;rw [Zh,PN];simp
theorem qj (f:ah) (x y:Int) (k:Nat):(oZ f x y k).length=k:=by simp [oZ]
theorem pw (f:ah) (x y:Int) (k:Nat):(oH f x y k).length=k:=by simp [oH]
theorem AO {p:Prop} (h:p:=by
 have RA:(0:Int)<=(k:Int):=Qa;have hm1:=wV f x y k;have hm2:=vN f x y k;have Sq:=HB.out wr (QW.q QP) (x+(k:Int)) (y-1) Qa Qa;have SE:=fun wt (o:ae [] w3 wt)=>HB.out wt (QW.q o) (x-1) (y+(k:Int)) Qa Qa
 have hi1:=YJ.out (x+(k:Int)) (y-1);have Uq:=YJ.out (x-1) (y+(k:Int));have HC1:=lh Sq;have Uz:=lh SE;clear Sq SE;generalize aB f (x+(k:Int)) (y-1)=p1 at *
 generalize aB f (x-1) (y+(k:Int))=p2 at *
 have TW:∀ z∈[p1],i7 .i64 z:=by simp only [i5,n7,i7];omega
 have RM:∀ z∈[p2],i7 .i64 z:=by simp only [i5,n7,i7];omega
 have Ru:=lh (fun (W:World)=>aU (k:=.i64) (w:=W) (t:=3) (l:=[p1]) rfl Qj TW 1 rfl rfl);have Rz:=lh (fun (W:World)=>aU (k:=.i64) (w:=W) (t:=3) (l:=[p2]) rfl Qj RM 1 rfl rfl);have JoM:=lh (show ((oZ f x y k).length+[p1].length)*8<=140737488355328 by rw [VE];simp;omega);have JoN:=lh (show ((oH f x y k).length+[p2].length)*8<=140737488355328 by rw [VF];simp;omega);have Hl1:Hid ((oZ f x y k ++ [p1]).length=k+1):=lh (by rw [Pn,VE];rfl);have Hl2:Hid ((oH f x y k ++ [p2]).length=k+1):=lh (by rw [Pn,VF];rfl);have Hm1:=lh hm1;have Hm2:=lh hm2;have JhH:=lh (fun (o:Obj)=>(show w3.heap.size<=(wr.alloc o).heap.size by have:=QP.size;simp;omega));clear hm1 hm2 VE VF hi1 Uq TW RM;go_wp2_with fail;refine HC1.mono ?_;rintro e w' ⟨rfl,rfl⟩
 go_wp2_with (first
   | (at_builtin;refine au rfl (.tmp 39) (.tmp 47) _ rfl EI (HOt.quiet (BS)) rfl (Ru.out _) rfl JoM (JhH.out _) (fun v1 w4 QG Rc=>?_);obtain ⟨x1,SV,RZ,_⟩:=QG.ints.open;subst RZ;rw [Hl1.out] at QG Rc |-;have SD:=lh QG;have Sa:=lh Rc;clear QG Rc)
   | fail)
 have QY:=((QP.out).q (ae.new wr (.cells #[p1] 3))).acc Sa HFt;have Rh:=lh QY;have Jnr:=lh ((WP.quiet (ae.new wr (.cells #[p1] 3))).accD Sa HSp);have Jhc:=lh (Sa.sepD HSp (fun g hg=>((WP.quiet (ae.new wr (.cells #[p1] 3))).at g hg).2));have Jnc:=lh (Sa.from_ HFt (JhH.out _));have JhI:=lh (fun (o:Obj)=>(show w3.heap.size<=(w4.alloc o).heap.size by have:=QY.size;simp;omega));clear QY;go_wp2_with fail;refine (Uz.out _ Rh).mono ?_;rintro e w' ⟨rfl,rfl⟩
 go_wp2_with (first
   | (at_builtin;refine au rfl (.tmp 49) (.tmp 57) _ rfl EI (Jnr.quiet (BS)) rfl (Rz.out _) rfl JoN (JhI.out _) (fun v1 w5 QG Rc=>?_);obtain ⟨x1,SV,RZ,_⟩:=QG.ints.open;subst RZ;rw [Hl2.out] at QG Rc |-;have WI:=lh QG;have HA2:=lh Rc;clear QG Rc)
   | fail)
 refine ⟨⟨k+1,Qa,Qh,lh ?_,Jnc,lh ?_,lh (HA2.from_ Vp (JhI.out _)),lh ?_,lh ((Rh.q (BS)).acc HA2 Vp)⟩,Qf⟩
 ·rw [Hm1.out];exact (SD.quiet (BS)).accD HA2 Jhc.symm
 ·rw [Hm2.out];exact WI
 ·exact (HA2.sepD Jhc.symm (fun g hg=>((SD.quiet (BS)).at g hg).2)).symm):p:=h
theorem vR {lo hi:Nat} {pv:Value} {w:World} {f:ah} (D:FrOk f) (h:aj .i64 lo hi w pv f.pix) (x y:Int) (n:Nat) (hn:n=4\/n=8) (hx:0<=x) (Ry:x+n<=f.W) (O:0<=y) (RJ:y+n<=f.H) :
  Calls prog 136 #[.agg #[f.W,f.H,pv],x,y,n] w fun e w'=>∃ v1 v2,e=.returned (.tuple #[v1,v2,.int .i64 (aB f (x-1) (y-1))])/\f9 .i64 3 w.heap.size w' v1 (dA f x y n)/\f9 .i64 3 w.heap.size w' v2 (cd f x y n)/\ae [] w w':=by
 refine aK fun Q QF=>?_
 obtain ⟨a,cap,rfl,-⟩:=h.open;have HT:Hid (dA f x y n=oZ f x y n):=lh rfl;have HL:Hid (cd f x y n=oH f x y n):=lh rfl;have YJ:=lh (fun hx O=>eZ D.sam hx O);have N:=ae.new w (sT f a cap);have J:Hid ((w.alloc (sT f a cap)).heap[w.heap.size]?=some (.cells (sT f a cap) 24)):=Sd w _;have HI:=lh (h.quiet N);have QO:=lh N;have hM:=jN f.W f.H (h.quiet N);rw [show cT ⟨f.W,f.H,f.pix⟩=true from dp.2 D] at hM;have HM:=lh hM;have Y:=lh (fun (W:World)=>EH f.W f.H x y n (.slice a f.pix.length cap) W ⟨D.w0,D.w1⟩ ⟨D.h0,D.h1⟩ Qa);rw [show io f.W f.H x y n=true from by unfold io;rw [decide_eq_true_iff];omega] at Y;have HB:Hid (∀ wt,ae [] (w.alloc (sT f a cap)) wt->∀ x y,x<f.W->y<f.H->Calls prog 191 #[x,y,.pointer w.heap.size] wt fun e w'=>e=.returned (.int .i64 (aB f x y))/\wt=w') :=
  lh (fun wt o x y hx O=>Ct ⟨D,a,cap,o.row J.out,HI.quiet o⟩ x y hx O)
 have hmf:∀ (fn:Fn) (first cap:Array Value) (W:World),(Instr.makeFunc fn first cap).run prog W=.ok (.func fn first cap) W:=fun _ _ _ _=>rfl
 have hW:=D.w1;have hH:=D.h1;clear h N hM;rcases hn with rfl | rfl
 ·rw [show (((4:Nat)):Int)=4 from rfl] at *
  go_enter func136,ntmps136;obtain ⟨r0,r1,r2⟩:=ag J;go_wp2_with fail;refine HM.mono ?_;rintro e w2 ⟨rfl,E⟩;clear r0 r1 r2;obtain ⟨r0,r1,r2⟩:=ag (E.row J);have I:=lh E;clear E;go_wp2_with fail;refine (Y.out w2).mono ?_;rintro e w3 ⟨rfl,F⟩;have QW:=lh (I.q F);have L:=lh (show w.heap.size+1<=w3.heap.size by have:=(I.q F).size;simp at this;omega);clear F r0 r1 r2 I;go_wp2_with fail;go_loopw [36,12,13,14] (fun i t l _ wr=>∃ (k:Nat),k<=4/\i=.int .i64 k/\Hid (f9 .i64 3 w3.heap.size wr t (oZ f x y k))/\Hid (bj w3.heap.size t)/\Hid (f9 .i64 3 w3.heap.size wr l (oH f x y k))/\Hid (bj w3.heap.size l)/\Hid (od t l)/\Hid (ae [] w3 wr)) (fun i _ _ _ _=>4-(intOf i).toNat)
  case atStart=>exact ⟨0,Qa,rfl,lh (f9.nil _ _ _ _),lh (bj.nil _),lh (f9.nil _ _ _ _),lh (bj.nil _),lh (od.nil _),lh (AY)⟩
  case round =>
   obtain ⟨k,hk,rfl,HOt,HFt,WP,Vp,HSp,QP⟩:=hrel;have VE:=qj f x y k;have VF:=pw f x y k;obtain ⟨ta,XF,rfl,-⟩:=HOt.ints.open;obtain ⟨la,Z,rfl,-⟩:=WP.ints.open;rw [VE] at HOt HFt HSp |-
   rw [VF] at WP Vp HSp |-
   by_cases QH:k<4
   ·have Rt:(k:Int)<4:=Qa
    exact AO
   ·obtain rfl:k=4:=Qa
    have M:=HB.out wr (QW.q QP) (x-1) (y-1) Qa Qa;have V:=lh M;clear M VE VF;generalize aB f (x-1) (y-1)=p0 at *
    go_wp2_with fail;refine V.mono ?_;rintro e w' ⟨rfl,rfl⟩;go_wp2_with fail;refine TV (v:=.tuple #[.slice ta 4 XF,.slice la 4 Z,p0]) (by simp [results,results136,go_sem]) rfl (QF.out _ _ ⟨_,_,rfl,?_,?_,(QO.q QW).q QP.out⟩)
    ·rw [HT.out];exact HOt.lower (j0 L.out)
    ·rw [HL.out];exact WP.lower (j0 L.out)
 ·rw [show (((8:Nat)):Int)=8 from rfl] at *
  go_enter func136,ntmps136;obtain ⟨r0,r1,r2⟩:=ag J;go_wp2_with fail;refine HM.mono ?_;rintro e w2 ⟨rfl,E⟩;clear r0 r1 r2;obtain ⟨r0,r1,r2⟩:=ag (E.row J);have I:=lh E;clear E;go_wp2_with fail;refine (Y.out w2).mono ?_;rintro e w3 ⟨rfl,F⟩;have QW:=lh (I.q F);have L:=lh (show w.heap.size+1<=w3.heap.size by have:=(I.q F).size;simp at this;omega);clear F r0 r1 r2 I;go_wp2_with fail;go_loopw [36,12,13,14] (fun i t l _ wr=>∃ (k:Nat),k<=8/\i=.int .i64 k/\Hid (f9 .i64 3 w3.heap.size wr t (oZ f x y k))/\Hid (bj w3.heap.size t)/\Hid (f9 .i64 3 w3.heap.size wr l (oH f x y k))/\Hid (bj w3.heap.size l)/\Hid (od t l)/\Hid (ae [] w3 wr)) (fun i _ _ _ _=>8-(intOf i).toNat)
  case atStart=>exact ⟨0,Qa,rfl,lh (f9.nil _ _ _ _),lh (bj.nil _),lh (f9.nil _ _ _ _),lh (bj.nil _),lh (od.nil _),lh (AY)⟩
  case round =>
   obtain ⟨k,hk,rfl,HOt,HFt,WP,Vp,HSp,QP⟩:=hrel;have VE:=qj f x y k;have VF:=pw f x y k;obtain ⟨ta,XF,rfl,-⟩:=HOt.ints.open;obtain ⟨la,Z,rfl,-⟩:=WP.ints.open;rw [VE] at HOt HFt HSp |-
   rw [VF] at WP Vp HSp |-
   by_cases QH:k<8
   ·have Rt:(k:Int)<8:=Qa
    exact AO
   ·obtain rfl:k=8:=Qa
    have M:=HB.out wr (QW.q QP) (x-1) (y-1) Qa Qa;have V:=lh M;clear M VE VF;generalize aB f (x-1) (y-1)=p0 at *
    go_wp2_with fail;refine V.mono ?_;rintro e w' ⟨rfl,rfl⟩;go_wp2_with fail;refine TV (v:=.tuple #[.slice ta 8 XF,.slice la 8 Z,p0]) (by simp [results,results136,go_sem]) rfl (QF.out _ _ ⟨_,_,rfl,?_,?_,(QO.q QW).q QP.out⟩)
    ·rw [HT.out];exact HOt.lower (j0 L.out)
    ·rw [HL.out];exact WP.lower (j0 L.out)
end
theorem AH (mode:Int) (top left:List Int) (corner:Int) {k:Nat} (h:k<top.length*top.length):(bi mode top left corner).getD k 0=fN mode top left corner k:=by
 unfold bi;rw [Pd,Pz,List.getElem?_range h]
 rfl
section
theorem tz {lo hi lo' hi':Nat} {Y lv:Value} {top left:List Int} {w:World} (F:aj .i64 lo hi w Y top) (E:aj .i64 lo' hi' w lv left) (hn:top.length=4\/top.length=8) (V:left.length=top.length) (O:ar top) (N:ar left) {corner:Int} (hc:0<=corner/\corner<=255) :
  Calls prog 192 #[Y,lv,corner] w fun e w'=>e=.returned .nilIface/\ae [] w w':=by
 refine aK fun Q QF=>?_
 have h1:=iX F Qa;rw [eJ.2 O] at h1;have D:=fun (W:World) (o:ae [] w W)=>iX (E.quiet o) Qa
 rw [eJ.2 N] at D;have Z:=lh h1;have I:=lh D;obtain ⟨ta,XF,rfl,-⟩:=F.open;obtain ⟨la,Rl,rfl,-⟩:=E.open;clear h1 D F E O N;obtain ⟨TM,Sq⟩:=hc;rw [V] at I |-
 generalize top.length=n at *
 clear V;have hx:(n:Int)=4\/(n:Int)=8:=Qa;clear hn;rcases hx with hx | hx
 all_goals
  go_enter func192,ntmps192;go_wp2_with fail;refine Z.mono ?_;rintro e w1 ⟨rfl,J⟩;have M:=lh J;clear J;go_wp2_with fail;refine (I.out w1 M).mono ?_;rintro e w2 ⟨rfl,L⟩;have QT:=lh L;clear L;go_wp2_with fail;exact QF.out _ _ ⟨rfl,M.q QT.out⟩
theorem EO {p:Prop} (h:p:=by
 have hA:A.getD k 0=fj (y+x-corner):=by rw [HAx.out,hm0];rfl
 have WZ:(mode == 0)=false:=Qk;have XP:(mode == 1)=false:=Qk;have hb2:(mode == 2)=false:=Qk;have Hm0:=lh hm0;clear hm0;have QS:i7 .i64 (fj (y+x-corner)):=by have:=jE (y+x-corner);simp only [i7];omega
 obtain ⟨Ru,Rz⟩:=QX.storeS Sh.symm QS k;have HAy:=lh hA;have Su:=lh Ru;have Te:=lh Rz;clear hA QS Ru Rz;have HC:=lh (fun W:World=>yZ (y+x-corner) W);generalize fj (y+x-corner)=cv at *
 go_wp2_with fail
 go_region
 go_wp2_with fail;refine (HC.out _).mono ?_;rintro e w3 ⟨rfl,rfl⟩;go_wp2_with fail;refine ⟨?_,Qf⟩
 (repeat apply Exists.intro)
 exact ⟨⟨k+1,ys.set k (cv),Qa,Qh,lh (dn PF Sh),lh (fS Htk (bC Sh QH) (Sh.trans UL.symm) HAy.symm),lh (Su.quiet (AY).drew),lh (HQt.trans Te.drew (U:=[]) Qb (fun g hg QH=>Qd))⟩,rfl⟩):p:=h
theorem EP {p:Prop} (h:p:=by
 have hA:A.getD k 0=y:=by rw [HAx.out,hm0];rfl
 have WZ:(mode == 0)=false:=Qk;have XP:(mode == 1)=false:=Qk;have hb2:(mode == 2)=true:=Qu;have Hm0:=lh hm0;clear hm0;have QS:i7 .i64 (y):=by simp only [i7];omega
 obtain ⟨Ru,Rz⟩:=QX.storeS Sh.symm QS k;have HAy:=lh hA;have Su:=lh Ru;have Te:=lh Rz;clear hA QS Ru Rz;go_wp2_with fail
 go_region
 go_wp2_with fail;exact ⟨⟨k+1,ys.set k (y),Qa,Qh,lh (dn PF Sh),lh (fS Htk (bC Sh QH) (Sh.trans UL.symm) HAy.symm),lh (Su.quiet (AY).drew),lh (HQt.trans Te.drew (U:=[]) Qb (fun g hg QH=>Qd))⟩,Qf⟩):p:=h
theorem EQ {p:Prop} (h:p:=by
 have hA:A.getD k 0=x:=by rw [HAx.out,hm0];rfl
 have WZ:(mode == 0)=false:=Qk;have XP:(mode == 1)=true:=Qu;have Hm0:=lh hm0;clear hm0;have QS:i7 .i64 (x):=by simp only [i7];omega
 obtain ⟨Ru,Rz⟩:=QX.storeS Sh.symm QS k;have HAy:=lh hA;have Su:=lh Ru;have Te:=lh Rz;clear hA QS Ru Rz;go_wp2_with fail
 go_region
 go_wp2_with fail;exact ⟨⟨k+1,ys.set k (x),Qa,Qh,lh (dn PF Sh),lh (fS Htk (bC Sh QH) (Sh.trans UL.symm) HAy.symm),lh (Su.quiet (AY).drew),lh (HQt.trans Te.drew (U:=[]) Qb (fun g hg QH=>Qd))⟩,Qf⟩):p:=h
theorem ER {p:Prop} (h:p:=by
 have RA:(0:Int)<=(k:Int):=Qa;have ct:=QP.cell (HTc.out k QH) Qb;have cl:=QP.cell (UW.out k QH) Qb;have bt:=Hts.at k;have bl:=Hls.at k;have bs:=HS.out k;rw [Hn.out] at bs;have Sy:Hid (ja top left (k+1)=ja top left k+(top.getD k 0+left.getD k 0)):=lh rfl;generalize top.getD k 0=x at *
 generalize left.getD k 0=y at *
 generalize ja top left k=s at *
 obtain ⟨bt0,bt1⟩:=bt;obtain ⟨bl0,bl1⟩:=bl;obtain ⟨bs0,bs1⟩:=bs;go_wp2_with fail
 go_region
 go_wp2_with fail;exact ⟨⟨k+1,Qa,Qh,by rw [Sy.out],lh (QP.drew)⟩,Qf⟩):p:=h
theorem ET {p:Prop} (h:p:=by
 go_wp2_with fail;have RU:=pB (R:=A) (bC Sh Htk) (Sh.trans UL.symm);subst RU;exact QF.out _ _ ⟨_,rfl,QX.lower QP.size,QP.q HQt.out⟩):p:=h
theorem ox {lo hi lo' hi':Nat} {tv lv:Value} {top left:List Int} {w:World} (ht:aj .i64 lo hi w tv top) (Z:aj .i64 lo' hi' w lv left) (D:top.length=4) (O:left.length=4) (L:ar top) (J:ar left) {corner:Int} (hc:0<=corner/\corner<=255) {mode:Int} (hm:0<=mode/\mode<=3) :
  Calls prog 193 #[mode,tv,lv,corner] w fun e w'=>∃ v',e=.returned v'/\f9 .i64 3 w.heap.size w' v' (bi mode top left corner)/\ae [] w w':=by
 refine aK fun Q QF=>?_
 obtain ⟨ta,XF,rfl,-,-,E,Y⟩:=ht.open;obtain ⟨la,Rl,rfl,-,-,N,V⟩:=Z.open;obtain ⟨tb,I,rfl,-,-⟩:=E 0 Qa;obtain ⟨lb,Tu,rfl,-,-⟩:=N 0 Qa;have HTc:=lh (fun i (hi:i<4)=>Y tb I rfl i Qa);have UW:=lh (fun i (hi:i<4)=>V lb Tu rfl i Qa);have Hts:=lh L;have Hls:=lh J;have HS:=lh (fun k=>nY L J k);have UL:Hid ((bi mode top left corner).length=16):=lh (by rw [dl,D]);have F:=lh (fun k (M:k<16)=>AH mode top left corner (k:=k) (dn D M));have HA:Hid (∀ k,fN mode top left corner k=if mode=0 then ja top left 4 / 8
  else if mode=1 then top.getD (k % 4) 0
  else if mode=2 then left.getD (k / 4) 0
  else fj (left.getD (k / 4) 0+top.getD (k % 4) 0-corner)):=lh (fun k=>by unfold fN;rw [D];rfl)
 have JzS:=lh (s4 (HTc.out 0 Qa));have JzH:=lh (s4 (UW.out 0 Qa));have Hn:=lh D;rw [D,O];obtain ⟨TM,Sq⟩:=hc;clear ht Z E Y N V L J D O;generalize bi mode top left corner=A at *
 have Uv:∀ W:World,(Instr.makeSlice 22 (.int .i64 16) (.int .i64 16)).run prog W=.ok (.slice (some ⟨W.heap.size,0,none⟩) 16 16) (W.alloc (.cells (madeCells #[()] 16) 3)):=fun W=>run_make_row' (P:=prog) 22 3 (.int .i64 0) 8 EI.ut Qc rfl .i64 .i64 16 Qa Qa W
 go_enter func193,ntmps193;go_wp2_with fail;go_loopw [20,10,11] (fun i s _ wr=>∃ (k:Nat),k<=4/\i=.int .i64 k/\s=.int .i64 (ja top left k)/\Hid (ae [] w wr)) (fun i _ _ _=>4-(intOf i).toNat)
 case atStart=>exact ⟨0,Qa,rfl,by show Value.int .i64 _=Value.int .i64 (top.length:Int);rw [Hn.out];rfl,lh (AY)⟩
 case round =>
  obtain ⟨k,M,rfl,rfl,QP⟩:=hrel;by_cases QH:k<4
  ·have Rt:(k:Int)<4:=Qa
   exact ER
  ·obtain rfl:k=4:=Qa
   have bs:=HS.out 4;rw [Hn.out] at bs;generalize hS:ja top left 4=s at *
   obtain ⟨bs0,bs1⟩:=bs;clear hS;go_wp2_with fail;clear Uv;have HO:=lh (gB .i64 3 wr 16 Qj);go_loopw [41,13,14,15] (fun i _ _ _ wt=>∃ (k:Nat) (ys:List Int),k<=16/\i=.int .i64 k/\Hid (ys.length=16)/\Hid (ys.take k=A.take k)/\Hid (f9 .i64 3 wr.heap.size wt (.slice wr.heap.size 16 16) ys)/\Hid (ae [] wr wt)) (fun i _ _ _ _=>16-(intOf i).toNat)
   case atStart=>exact ⟨0,List.replicate 16 0,Qa,rfl,lh Qb,lh rfl,HO,lh (BS)⟩
   case round =>
    obtain ⟨k,ys,M,rfl,Sh,Htk,QX,HQt⟩:=hrel;by_cases QH:k<16
    ·have Rt:(k:Int)<16:=Qa
     have RA:(0:Int)<=(k:Int):=Qa;have ha:k % 4<4:=Qa;have hb:k / 4<4:=Qa;have ct:=(QP.q HQt).cell (HTc.out (k % 4) ha) Qb;have cl:=(QP.q HQt).cell (UW.out (k / 4) hb) Qb;have cx:=QX.cellS Sh.symm (i:=k) (bC Sh QH);have fx:=QX.frzS Sh.symm k;have bt:=Hts.at (k % 4);have bl:=Hls.at (k / 4);have hA:=(F.out k QH).trans (HA.out k);have em1:(k:Int).tmod 4=((k % 4:Nat):Int):=by rw [PR RA] <;> omega
     have em2:(k:Int).tdiv 4=((k / 4:Nat):Int):=by rw [TY RA] <;> omega
     have em3:(k:Int) % 4=((k % 4:Nat):Int):=Qa;have em4:(k:Int) / 4=((k / 4:Nat):Int):=Qa;generalize top.getD (k % 4) 0=x at *
     generalize left.getD (k / 4) 0=y at *
     generalize ys.getD k 0=z at *
     generalize k % 4=a at *
     generalize k / 4=b at *
     have ha0:(a:Int)<4:=Qa;have WZ:(b:Int)<4:=Qa;obtain ⟨bt0,bt1⟩:=bt;obtain ⟨bl0,bl1⟩:=bl;have HAx:=lh hA;clear hA;rcases (by omega:mode=0\/mode=1\/mode=2\/mode=3) with hm0 | hm0 | hm0 | hm0
     ·have hA:A.getD k 0=s / 8:=by rw [HAx.out,hm0];rfl
      have WZ:(mode == 0)=true:=Qu;have Hm0:=lh hm0;clear hm0;have QS:i7 .i64 (s / 8):=by simp only [i7];omega
      obtain ⟨Ru,Rz⟩:=QX.storeS Sh.symm QS k;have HAy:=lh hA;have Su:=lh Ru;have Te:=lh Rz;clear hA QS Ru Rz;go_wp2_with fail
      go_region
      go_wp2_with fail;exact ⟨⟨k+1,ys.set k (s / 8),Qa,Qh,lh (dn PF Sh),lh (fS Htk (bC Sh QH) (Sh.trans UL.symm) HAy.symm),lh (Su.quiet (AY).drew),lh (HQt.trans Te.drew (U:=[]) Qb (fun g hg QH=>Qd))⟩,Qf⟩
     ·exact EQ
     ·exact EP
     ·exact EO
    ·obtain rfl:k=16:=Qa
     have hx:¬ (16:Int)<16:=Qa;exact ET
theorem oy {lo hi lo' hi':Nat} {tv lv:Value} {top left:List Int} {w:World} (ht:aj .i64 lo hi w tv top) (Z:aj .i64 lo' hi' w lv left) (D:top.length=8) (O:left.length=8) (L:ar top) (J:ar left) {corner:Int} (hc:0<=corner/\corner<=255) {mode:Int} (hm:0<=mode/\mode<=3) :
  Calls prog 193 #[mode,tv,lv,corner] w fun e w'=>∃ v',e=.returned v'/\f9 .i64 3 w.heap.size w' v' (bi mode top left corner)/\ae [] w w':=by
 refine aK fun Q QF=>?_
 obtain ⟨ta,XF,rfl,-,-,E,Y⟩:=ht.open;obtain ⟨la,Rl,rfl,-,-,N,V⟩:=Z.open;obtain ⟨tb,I,rfl,-,-⟩:=E 0 Qa;obtain ⟨lb,Tu,rfl,-,-⟩:=N 0 Qa;have HTc:=lh (fun i (hi:i<8)=>Y tb I rfl i Qa);have UW:=lh (fun i (hi:i<8)=>V lb Tu rfl i Qa);have Hts:=lh L;have Hls:=lh J;have HS:=lh (fun k=>nY L J k);have UL:Hid ((bi mode top left corner).length=64):=lh (by rw [dl,D]);have F:=lh (fun k (M:k<64)=>AH mode top left corner (k:=k) (dn D M));have HA:Hid (∀ k,fN mode top left corner k=if mode=0 then ja top left 8 / 16
  else if mode=1 then top.getD (k % 8) 0
  else if mode=2 then left.getD (k / 8) 0
  else fj (left.getD (k / 8) 0+top.getD (k % 8) 0-corner)):=lh (fun k=>by unfold fN;rw [D];rfl)
 have JzS:=lh (s4 (HTc.out 0 Qa));have JzH:=lh (s4 (UW.out 0 Qa));have Hn:=lh D;rw [D,O];obtain ⟨TM,Sq⟩:=hc;clear ht Z E Y N V L J D O;generalize bi mode top left corner=A at *
 have Uv:∀ W:World,(Instr.makeSlice 22 (.int .i64 64) (.int .i64 64)).run prog W=.ok (.slice (some ⟨W.heap.size,0,none⟩) 64 64) (W.alloc (.cells (madeCells #[()] 64) 3)):=fun W=>run_make_row' (P:=prog) 22 3 (.int .i64 0) 8 EI.ut Qc rfl .i64 .i64 64 Qa Qa W
 go_enter func193,ntmps193;go_wp2_with fail;go_loopw [20,10,11] (fun i s _ wr=>∃ (k:Nat),k<=8/\i=.int .i64 k/\s=.int .i64 (ja top left k)/\Hid (ae [] w wr)) (fun i _ _ _=>8-(intOf i).toNat)
 case atStart=>exact ⟨0,Qa,rfl,by show Value.int .i64 _=Value.int .i64 (top.length:Int);rw [Hn.out];rfl,lh (AY)⟩
 case round =>
  obtain ⟨k,M,rfl,rfl,QP⟩:=hrel;by_cases QH:k<8
  ·have Rt:(k:Int)<8:=Qa
   exact ER
  ·obtain rfl:k=8:=Qa
   have bs:=HS.out 8;rw [Hn.out] at bs;generalize hS:ja top left 8=s at *
   obtain ⟨bs0,bs1⟩:=bs;clear hS;go_wp2_with fail;clear Uv;have HO:=lh (gB .i64 3 wr 64 Qj);go_loopw [41,13,14,15] (fun i _ _ _ wt=>∃ (k:Nat) (ys:List Int),k<=64/\i=.int .i64 k/\Hid (ys.length=64)/\Hid (ys.take k=A.take k)/\Hid (f9 .i64 3 wr.heap.size wt (.slice wr.heap.size 64 64) ys)/\Hid (ae [] wr wt)) (fun i _ _ _ _=>64-(intOf i).toNat)
   case atStart=>exact ⟨0,List.replicate 64 0,Qa,rfl,lh Qb,lh rfl,HO,lh (BS)⟩
   case round =>
    obtain ⟨k,ys,M,rfl,Sh,Htk,QX,HQt⟩:=hrel;by_cases QH:k<64
    ·have Rt:(k:Int)<64:=Qa
     have RA:(0:Int)<=(k:Int):=Qa;have ha:k % 8<8:=Qa;have hb:k / 8<8:=Qa;have ct:=(QP.q HQt).cell (HTc.out (k % 8) ha) Qb;have cl:=(QP.q HQt).cell (UW.out (k / 8) hb) Qb;have cx:=QX.cellS Sh.symm (i:=k) (bC Sh QH);have fx:=QX.frzS Sh.symm k;have bt:=Hts.at (k % 8);have bl:=Hls.at (k / 8);have hA:=(F.out k QH).trans (HA.out k);have em1:(k:Int).tmod 8=((k % 8:Nat):Int):=by rw [PR RA] <;> omega
     have em2:(k:Int).tdiv 8=((k / 8:Nat):Int):=by rw [TY RA] <;> omega
     have em3:(k:Int) % 8=((k % 8:Nat):Int):=Qa;have em4:(k:Int) / 8=((k / 8:Nat):Int):=Qa;generalize top.getD (k % 8) 0=x at *
     generalize left.getD (k / 8) 0=y at *
     generalize ys.getD k 0=z at *
     generalize k % 8=a at *
     generalize k / 8=b at *
     have ha0:(a:Int)<8:=Qa;have WZ:(b:Int)<8:=Qa;obtain ⟨bt0,bt1⟩:=bt;obtain ⟨bl0,bl1⟩:=bl;have HAx:=lh hA;clear hA;rcases (by omega:mode=0\/mode=1\/mode=2\/mode=3) with hm0 | hm0 | hm0 | hm0
     ·have hA:A.getD k 0=s / 16:=by rw [HAx.out,hm0];rfl
      have WZ:(mode == 0)=true:=Qu;have Hm0:=lh hm0;clear hm0;have QS:i7 .i64 (s / 16):=by simp only [i7];omega
      obtain ⟨Ru,Rz⟩:=QX.storeS Sh.symm QS k;have HAy:=lh hA;have Su:=lh Ru;have Te:=lh Rz;clear hA QS Ru Rz;go_wp2_with fail
      go_region
      go_wp2_with fail;exact ⟨⟨k+1,ys.set k (s / 16),Qa,Qh,lh (dn PF Sh),lh (fS Htk (bC Sh QH) (Sh.trans UL.symm) HAy.symm),lh (Su.quiet (AY).drew),lh (HQt.trans Te.drew (U:=[]) Qb (fun g hg QH=>Qd))⟩,Qf⟩
     ·exact EQ
     ·exact EP
     ·exact EO
    ·obtain rfl:k=64:=Qa
     have hx:¬ (64:Int)<64:=Qa;exact ET
theorem rE {lo hi lo' hi':Nat} {O lv:Value} {top left:List Int} {w:World} (F:aj .i64 lo hi w O top) (E:aj .i64 lo' hi' w lv left) (D:top.length=4\/top.length=8) (Ys:left.length=top.length) (J:ar top) (I:ar left) {corner:Int} (L:0<=corner/\corner<=255) {mode:Int} (N:0<=mode/\mode<=3) :
  Calls prog 138 #[mode,O,lv,corner] w fun e w'=>∃ v',e=.returned (.tuple #[v',.nilIface])/\f9 .i64 3 w.heap.size w' v' (bi mode top left corner)/\ae [] w w':=by
 refine aK fun Q QF=>?_
 have HC:=lh (tz F E D Ys J I L);have HF:Hid (∀ W,ae [] w W->Calls prog 193 #[mode,O,lv,corner] W fun e w'=>∃ v',e=.returned v'/\f9 .i64 3 W.heap.size w' v' (bi mode top left corner)/\ae [] W w'):=lh (fun W o=>by
  rcases D with D | D
  ·exact ox (F.quiet o) (E.quiet o) D Qa J I L N
  ·exact oy (F.quiet o) (E.quiet o) D Qa J I L N)
 obtain ⟨ta,XF,rfl,-⟩:=F.open;obtain ⟨la,Rl,rfl,-⟩:=E.open;obtain ⟨hm0,hm1⟩:=N;have hm2:¬ mode<0:=Qa;have hm3:mode<4:=Qa;have hm4:¬ 4<=mode:=Qa;clear F E D J I L;generalize bi mode top left corner=A at *
 generalize left.length=ln at *
 clear Ys;generalize top.length=n at *
 go_enter func138,ntmps138;go_wp2_with fail;refine HC.mono ?_;rintro e w1 ⟨rfl,V⟩;have M:=lh V;clear V;go_wp2_with fail;refine (HF.out w1 M).mono ?_;rintro e w2 ⟨v2,rfl,Y,Z⟩;have HO:=lh Y;have QT:=lh Z;clear Y Z;go_wp2_with fail;exact QF.out _ _ ⟨v2,rfl,HO.lower M.size,M.q QT.out⟩
end
theorem nN {lo hi g cap base:Nat} {lv:Value} {l:List Int} {w:World} {f:ah} {x y:Int} {n q:Nat} {mode:Int} (hf:FrOk f) (hp:f9 .i64 3 base w (.slice g f.pix.length cap) f.pix) (hl:aj .i64 lo hi w lv l) (hg:g<lo\/hi<=g)
  (O:n=4\/n=8) (Z:l.length=n*n) (Re:cE l) (hq:q<=15) (hm:0<=mode/\mode<=3) (hx:0<=x) (Ry:x+n<=f.W) (hy:0<=y) (RJ:y+n<=f.H) :
  Calls prog 83 #[.agg #[f.W,f.H,.slice g f.pix.length cap],x,y,n,mode,q,lv] w fun e w'=>e=.returned (.tuple #[])/\f9 .i64 3 base w' (.slice g f.pix.length cap) (ek f x y n mode q l).pix/\ae [g] w w':=by
 refine aK fun Q QF=>?_
 have XL:=lh ((hp.at g rfl).2);have I:=ae.new w (sT f g cap);have J:Hid ((w.alloc (sT f g cap)).heap[w.heap.size]?=some (.cells (sT f g cap) 24)):=Sd w _;have F:n*n=16\/n*n=64:=by rcases O with rfl | rfl <;> simp
 have HE:=lh (vR hf (hp.ints.quiet I) x y n O hx Ry hy RJ);have Yb:Hid (∀ (lo1 hi1 Wi Uq:Nat) (v1 v2:Value) (W:World),aj .i64 lo1 hi1 W v1 (dA f x y n)->aj .i64 Wi Uq W v2 (cd f x y n)->Calls prog 138 #[mode,v1,v2,.int .i64 (aB f (x-1) (y-1))] W fun e w'=>∃ v',e=.returned (.tuple #[v',.nilIface])/\f9 .i64 3 W.heap.size w' v' (bi mode (dA f x y n) (cd f x y n) (aB f (x-1) (y-1)))/\ae [] W w') :=
  lh (fun _ _ _ _ _ _ W h1 h2=>rE h1 h2 (dn cV O) (by rw [cV,ju]) (jr hf.sam _ _ _) (hZ hf.sam _ _ _) (eZ hf.sam _ _) hm)
 have M:(bi mode (dA f x y n) (cd f x y n) (aB f (x-1) (y-1))).length=n*n:=by rw [dl,cV]
 have V:ar (bi mode (dA f x y n) (cd f x y n) (aB f (x-1) (y-1))):=kN (jr hf.sam _ _ _) (hZ hf.sam _ _ _) (by rw [cV];omega) _ _;have Htl:=lh (cV f x y n);have Hll:=lh (ju f x y n);have HD:Hid ((ek f x y n mode q l).pix=(dP f x y n (gU (bi mode (dA f x y n) (cd f x y n) (aB f (x-1) (y-1))) l q)).pix):=lh rfl;generalize bi mode (dA f x y n) (cd f x y n) (aB f (x-1) (y-1))=P at *
 have D:(gU P l q).length=n*n:=by rw [gV (by rw [M,Z])];exact M
 have Ra:Hid ((gU P l q).length=n*n/\0<n*n):=lh ⟨D,Qa⟩;have UL:=lh (VL M (show 0<n*n by omega));have HAd:Hid (∀ (W:World) {lo1 hi1:Nat} {v:Value},ae [] (w.alloc (sT f g cap)) W->aj .i64 lo1 hi1 W v P->Calls prog 82 #[v,lv,q] W fun e w'=>∃ v',e=.returned v'/\f9 .i64 3 W.heap.size w' v' (gU P l q)/\ae [] W w') :=
  lh (fun W _ _ _ o h=>qZ h (hl.quiet (I.q o)) (dn Z F) (by rw [M,Z]) V Re q hq)
 have HLy:Hid (∀ (W:World) {lo1:Nat} (v:Value),ae [] (w.alloc (sT f g cap)) W->f9 .i64 3 lo1 W v (gU P l q)->g<lo1->Calls prog 81 #[.agg #[f.W,f.H,.slice g f.pix.length cap],x,y,n,v] W fun e w'=>e=.returned (.tuple #[])/\f9 .i64 3 base w' (.slice g f.pix.length cap) (dP f x y n (gU P l q)).pix/\ae [g] W w') :=
  lh (fun W _ v o h QH=>ug hf (hp.quiet (I.q o)) h.ints (.inl QH) O D hx Ry hy RJ)
 have QO:=lh I;obtain ⟨la,Rl,rfl,-⟩:=hl.open;clear hp hl hg Re M V D I hf F O Z;generalize gU P l q=A at *
 generalize dA f x y n=T at *
 generalize cd f x y n=L at *
 generalize aB f (x-1) (y-1)=cn at *
 go_enter func83,ntmps83;obtain ⟨r0,r1,r2⟩:=ag J;go_wp2_with fail;refine HE.mono ?_;rintro e w2 ⟨v1,v2,rfl,Rc,Sc,QN⟩;obtain ⟨a1,c1,rfl,-⟩:=Rc.ints.open;obtain ⟨a2,c2,rfl,-⟩:=Sc.ints.open;have SD:=lh Rc;have WI:=lh Sc;have QT:=lh QN;clear r0 r1 r2;obtain ⟨r0,r1,r2⟩:=ag (QN.row J);clear Rc Sc QN;go_wp2_with fail;refine (Yb.out _ _ _ _ _ _ w2 SD.ints WI.ints).mono ?_;rintro e w3 ⟨v3,rfl,ZP,QQ⟩;obtain ⟨g3,c3,rfl,-,-⟩:=ZP.form (j0 UL.out);have WQ:=lh (ZP.ints.quiet (AY).drew);have Y:=lh (QT.q QQ);clear r0 r1 r2;obtain ⟨r0,r1,r2⟩:=ag ((QT.q QQ).row J);clear ZP QQ;go_wp2_with fail;refine Tf (S:=(fun w'=>w'.cell? ⟨w.heap.size,0,none⟩=some (.int .i64 f.W)/\w'.cell? ⟨w.heap.size,1,none⟩=some (.int .i64 f.H)/\w'.cell? ⟨w.heap.size,2,none⟩=some (.slice g f.pix.length cap))) Qc ?_ (fun hHeld=>?_)
 ·exact ⟨r0,r1,r2⟩
 refine tk 0 36 ?_;refine tk 1 37 ?_;refine tk 2 38 ?_;refine tk 3 39 ?_;refine tk 4 40 ?_;refine tk 5 41 ?_;refine tk 6 42 ?_;refine j6 7 43 fun K hK=>?_
 go_simp;refine (HAd.out w3.drew (Y.drew) WQ).mono ?_;rintro e w4 ⟨v4,rfl,Ud,QY⟩;obtain ⟨g4,Jto,rfl,N,E⟩:=Ud.form (j0 Ra.out);have Rh:=lh ((Y.drew).q QY);have Yo:=lh Ud;have hr4:=(Y.drew.q QY).row J;have Hg4:=lh (VL N E);clear Ud QY N E;refine ko hK (ag hr4) fun hHeld=>?_;clear hK K
 refine j6 8 44 fun K hK=>?_
 go_simp;refine (HLy.out w4 _ Rh Yo (by have:=Hg4.1;have:=Y.size;have:=XL.out;simp at *;omega)).mono ?_;rintro e w5 ⟨rfl,SI,RF⟩;have Rk:=lh RF;have UX:=lh SI;have hr5:=RF.rowAt (Rh.row J) (eW XL);clear SI RF;refine ko hK (ag hr5) fun hHeld=>?_;clear hK K
 refine Wn Qc ?_ _;go_wp2_with fail;refine y4 (y8 results83 _ _ _) rfl (QF.out _ _ ⟨rfl,?_,(QO.q Rh).trans Rk.out Qb (fun g h _=>h)⟩);rw [HD.out];exact UX
end Go.Proofs.YthcafdfdglfabaaGreatDoor
