/- Joined texts: DNew, DSep, DEdges. Conditions: each part names its own. -/
import Derived.Test.YthcafdfdglfabaaGreatDoorK3
import Derived.Test.YthcafdfdglfabaaGreatDoorS6
set_option maxRecDepth 100000
set_option maxHeartbeats 16000000
namespace Go.Proofs.YthcafdfdglfabaaGreatDoor
open Go.RowKit
set_option linter.unusedVariables false
set_option linter.unusedSimpArgs false
theorem uh (W H V:Int) (w:World) (hn:io W H V=true):Calls Tryz.prog 29 #[W,H,V] w fun e w'=>∃ g cap,e=.returned (.tuple #[.agg #[W,H,.slice (some ⟨g,0,none⟩) (ed W H V).pix.length cap],.nilIface])/\Own .i64 3 w.heap.size w' (.slice (some ⟨g,0,none⟩) (ed W H V).pix.length cap) (ed W H V).pix/\ae [] w w':=by
 refine aN fun Q MM=>?_
 unfold io at hn;rw [Bool.and_eq_true,Bool.and_eq_true] at hn;obtain ⟨⟨hW,hH⟩,hV⟩:=hn;have bW:=of_decide_eq_true hW;have bH:=of_decide_eq_true hH;have bV:=of_decide_eq_true hV;have HW:=lh hW;have HH:=lh hH;have HV:=lh hV;clear hW hH hV;obtain ⟨W',rfl⟩:=Int.eq_ofNat_of_zero_le (by omega:0<=W);obtain ⟨H',rfl⟩:=Int.eq_ofNat_of_zero_le (by omega:0<=H);have hn:W'*H'<=1024:=Lz (Nat.mul_le_mul (by omega:W'<=32) (by omega:H'<=32)) Mn;have VZ:(W':Int)*(H':Int)=((W'*H':Nat):Int):=by rw [Int.natCast_mul]
 have HF:Hid ((ed W' H' V).pix=List.replicate (W'*H') V):=lh (by show List.replicate ((W':Int)*(H':Int)).toNat V=_;rw [VZ];rfl);have Qu:Hid ((ed W' H' V).pix.length=W'*H'):=lh (by rw [HF.out,LJ]);rw [Qu.out] at MM;rw [HF.out] at MM;generalize hN:W'*H'=n at *
 clear hN bW bH;have MX:InK .i64 V:=by simp only [InK];omega
 have VI:=lh MX;clear MX bV;have Rc:=run_make_row' (P:=Tryz.prog) 22 3 (.int .i64 0) 8 EI.ut Mh rfl .i64 .i64 n Mf Mf;go_enter Tryz.func29,Tryz.ntmps29
 go_wp2_with (first | (go_at_call 63;refine (lg _ _).mono ?_;rintro e w' ⟨rfl,rfl⟩;(first | rw [HW.out] | rw [HH.out])) | (go_at_call 64;refine (sf _ _).mono ?_;rintro e w' ⟨rfl,rfl⟩;rw [HV.out]) | fail)
 clear Rc;have HO:Hid (Own .i64 3 (w.heap.size+1) (((w.alloc (.cells #[(),(),JEu] 24)).alloc (.cells (madeCells #[()] n) 3)).alloc (.cells #[W',H',.slice (some ⟨w.heap.size+1,0,none⟩) n n] 24)) (.slice (some ⟨w.heap.size+1,0,none⟩) n n) (List.replicate n 0)):=lh (by
  have h0:=fD .i64 3 (w.alloc (.cells #[(),(),JEu] 24)) n (by simp [maxLen];omega);have hz:(w.alloc (.cells #[(),(),JEu] 24)).heap.size=w.heap.size+1:=Mg;rw [hz] at h0;exact h0.quiet (ae.new _ _))
 have hO:ae [] w (((w.alloc (.cells #[(),(),JEu] 24)).alloc (.cells (madeCells #[()] n) 3)).alloc (.cells #[W',H',.slice (some ⟨w.heap.size+1,0,none⟩) n n] 24)):=(((ae.refl _ _).alloc _).alloc _).alloc _;have HA:Hid ((((w.alloc (.cells #[(),(),JEu] 24)).alloc (.cells (madeCells #[()] n) 3)).alloc (.cells #[W',H',.slice (some ⟨w.heap.size+1,0,none⟩) n n] 24)).heap[w.heap.size]?=some (.cells #[(),(),JEu] 24 (0,0))):=lh (((ae.new (w.alloc _) _).alloc _).row (heap_alloc_new w _));have HB:Hid ((((w.alloc (.cells #[(),(),JEu] 24)).alloc (.cells (madeCells #[()] n) 3)).alloc (.cells #[W',H',.slice (some ⟨w.heap.size+1,0,none⟩) n n] 24)).heap[w.heap.size+1+1]?=some (.cells #[W',H',.slice (some ⟨w.heap.size+1,0,none⟩) n n] 24 (0,0))):=lh (ak Mg);have ZI:=lh hO;clear hO;generalize PZ:World.alloc (World.alloc (World.alloc w _) _) _=W3 at *
 clear PZ;obtain ⟨r0,r1,r2⟩:=ag HB;clear VZ;go_wp2_with fail;clear r0 r1 r2;go_loopw [35,9] (fun i _ wr=>∃ (k:Nat) (ys:List Int),k<=n/\i=.int .i64 k/\Hid (ys.length=n)/\Hid (ys.take k=(List.replicate n V).take k)/\Hid (Own .i64 3 (w.heap.size+1) wr (.slice (some ⟨w.heap.size+1,0,none⟩) n n) ys)/\Hid (ae [w.heap.size+1] W3 wr)) (fun i _ _=>n-(intOf i).toNat)
 case atStart=>exact ⟨0,List.replicate n 0,Mf,rfl,lh Mg,lh rfl,HO,lh (ae.refl _ _)⟩
 case round =>
  obtain ⟨k,ys,hk,rfl,Ol,XA,Nc,MW⟩:=hrel;obtain ⟨r0,r1,r2⟩:=ag (MW.rowAt HB Mg);by_cases MO:k<n
  ·have Ny:(k:Int)<(n:Int):=Mf
   have NU:(0:Int)<=(k:Int):=Mf;have cx:=Nc.cellS Ol.symm (i:=k) (by rw [Ol.out];exact MO);have fx:=Nc.frzS Ol.symm k;generalize ys.getD k 0=y at *
   obtain ⟨NC,NE⟩:=Nc.storeS Ol.symm VI k;have NT:=lh NC;have OH:=lh NE;clear NC NE;go_wp2_with fail;refine ⟨⟨k+1,ys.set k V,Mf,Mm,lh (by rw [LK];exact Ol),lh (fj XA (by rw [Ol.out];exact MO) (by rw [Ol.out,LJ]) ?_),NT,lh (MW.trans OH (fun _ h _=>h) (fun _ h _=>h))⟩,Mk⟩;rw [Le,List.getElem?_replicate,if_pos MO];rfl
  ·obtain rfl:k=n:=Mf
   have hx:¬ (k:Int)<(k:Int):=Mf;have hAr:=MW.rowAt HA Mg;obtain ⟨e0,e1,e2⟩:=ag hAr;have g0:wr.frozen? ⟨w.heap.size,0,none⟩=false:=frozen_of_row _ _ _ _ _ hAr;have g1:wr.frozen? ⟨w.heap.size,1,none⟩=false:=frozen_of_row _ _ _ _ _ hAr;have g2:wr.frozen? ⟨w.heap.size,2,none⟩=false:=frozen_of_row _ _ _ _ _ hAr;clear hAr;have Pq:=nM (R:=List.replicate k V) (by rw [Ol.out];exact XA) (by rw [Ol.out,LJ]);subst Pq;go_wp2_with fail;have Qg:ae [w.heap.size] wr (((wr.setCell ⟨w.heap.size,0,none⟩ (.int .i64 W')).setCell ⟨w.heap.size,1,none⟩ (.int .i64 H')).setCell ⟨w.heap.size,2,none⟩ (.slice (some ⟨w.heap.size+1,0,none⟩) k k)):=(((ae.refl _ _).setCell Mg _).setCell Mg _).setCell Mg _;have hA:ae [] w wr:=ZI.trans MW Mg (fun g hg MO=>absurd (mSg.1 hg) Mf);refine bodyPost_ret (v:=.tuple #[.agg #[W',H',.slice (some ⟨w.heap.size+1,0,none⟩) k k],.nilIface]) (by simp [results,Tryz.results29,go_sem,e0,e1,e2,r0,r1,r2,World.cell?_setCell_other]) rfl (MM.out _ _ ⟨w.heap.size+1,k,rfl,?_,hA.trans Qg Mg (fun g hg MO=>absurd (mSg.1 hg) Mf)⟩);exact (Nc.only Qg (fun g hg=>by rw [mSg] at hg;subst hg;simp [Value.ownBlock])).lower Mf
def mA (a b:Value):Prop:=∀ g,a.ownBlock=some g->b.ownBlock≠some g
theorem mA.symm {a b:Value} (h:mA a b):mA b a:=fun g hg e=>h g e hg
theorem mA.nil (b:Value):mA (.slice none 0 0) b:=fun g hg=>by simp [Value.ownBlock] at hg
theorem Acc.sepD {a b c:Value} {w w':World} (h:Acc a w b w') (s:mA a c) (hc:∀ g,c.ownBlock=some g->g<w.heap.size):mA b c:=by
 intro g hg e;rcases h.at_ with e' | e'
 ·exact s g (e' ▸ hg) e
 ·have:=e' g hg;have:=hc g e;omega
theorem Own.accD {k:IntKind} {e:TypeId} {base:Nat} {w w':World} {v a b:Value} {l:List Int} (h:Own k e base w v l) (x:Acc a w b w') (s:mA a v):Own k e base w' v l :=
 h.only x.only (fun g hg=>s g Mt)
set_option linter.unusedVariables false
set_option linter.unusedSimpArgs false
section
theorem rQ {p:Prop} (h:p:=by
 go_enter Tryz.func191,Tryz.ntmps191;go_wp2_with fail;go_ret;exact ⟨dN HR.symm,rfl⟩):p:=h
theorem zv {B lo hi:Nat} {w:World} {f:ai} (h:JO B lo hi w f) (x y:Int) (hx:x<f.W) (hy:y<f.H) :
  Calls Tryz.prog 191 #[x,y,.pointer (some ⟨B,0,none⟩)] w fun e w'=>e=.returned (.int .i64 (aB f x y))/\w=w':=by
 obtain ⟨MU,a,cap,MS,hI⟩:=h;obtain ⟨c0,c1,c2⟩:=ag MS;by_cases Ue:x<0
 ·have HR:Hid (aB f x y=128):=lh (by unfold aB;rw [if_pos (.inl Ue)])
  clear MS hI MU;exact rQ
 by_cases Sr:y<0
 ·have HR:Hid (aB f x y=128):=lh (by unfold aB;rw [if_pos (.inr Sr)])
  clear MS hI MU;exact rQ
 have HR:Hid (aB f x y=f.pix.getD (y*f.W+x).toNat 0):=lh (by unfold aB;rw [if_neg Mf]);obtain ⟨p1,p2⟩:=oh (W:=f.W) (H:=f.H) (x:=x) (y:=0) (j:=y) (n:=1) (by have:=MU.w0;omega) Mf Mf Mf Mf Mf Mf;rw [Int.zero_add] at p1 p2;have h3:f.W*f.H<=32*32:=Int.mul_le_mul MU.w1 MU.h1 (by have:=MU.h0;omega) Mf;have MR:=MU.len;obtain ⟨b,off,Te,hv,-,-,hc⟩:=hI.at (i:=(y*f.W+x).toNat) Mf;injection hv with e1 e2 e3
 subst e1;subst e3;generalize f.pix.getD (y*f.W+x).toNat 0=v at *
 generalize f.pix.length=N at *
 generalize f.W=W at *
 generalize f.H=H at *
 obtain ⟨M,hMe⟩:∃ M,M=y*W:=⟨_,rfl⟩
 have hyW:0<=y*W:=Int.mul_nonneg Mf Mf;have hM:wrap64 (y*W)=M:=by rw [<- hMe] at p1 p2 hyW |-;unfold wrap64;omega
 rw [<- hMe] at p1 p2 hc hyW;have t0:0<=M+x:=p1;have t1:M+x<(N:Int):=Mf;have hS:wrap64 (M+x)=M+x:=by unfold wrap64;omega
 clear hMe MS hI MU p1 p2 h3 MR hyW;exact rQ
def np (f:ai) (x y:Int) (k:Nat):List Int:=(List.range k).map fun i:Nat=>aB f (x+(i:Int)) (y-1)
def mV (f:ai) (x y:Int) (k:Nat):List Int:=(List.range k).map fun i:Nat=>aB f (x-1) (y+(i:Int))
theorem uo (f:ai) (x y:Int) (k:Nat):np f x y (k+1)=np f x y k ++ [aB f (x+(k:Int)) (y-1)]:=by
 unfold np;rw [List.range_succ,LS];simp
theorem tr (f:ai) (x y:Int) (k:Nat):mV f x y (k+1)=mV f x y k ++ [aB f (x-1) (y+(k:Int))]:=by
 unfold mV;rw [List.range_succ,LS];simp
theorem oC (f:ai) (x y:Int) (k:Nat):(np f x y k).length=k:=by simp [np]
theorem nG (f:ai) (x y:Int) (k:Nat):(mV f x y k).length=k:=by simp [mV]
theorem xV {p:Prop} (h:p:=by
 have NU:(0:Int)<=(k:Int):=Mf;have YL:=uo f x y k;have hm2:=tr f x y k;have Sj:=HB.out wr (Nf.q MW) (x+(k:Int)) (y-1) Mf Mf;have QZ:=fun wt (o:ae [] w3 wt)=>HB.out wt (Nf.q o) (x-1) (y+(k:Int)) Mf Mf
 have hi1:=VI.out (x+(k:Int)) (y-1);have RK:=VI.out (x-1) (y+(k:Int));have PV:=lh Sj;have Og:=lh QZ;clear Sj QZ;generalize aB f (x+(k:Int)) (y-1)=p1 at *
 generalize aB f (x-1) (y+(k:Int))=p2 at *
 have Pr:∀ z∈[p1],InK .i64 z:=by simp only [mSg,forall_eq,InK];omega
 have NK:∀ z∈[p2],InK .i64 z:=by simp only [mSg,forall_eq,InK];omega
 have NC:=lh (fun (W:World)=>bg (k:=.i64) (w:=W) (t:=3) (l:=[p1]) rfl Mo Pr 1 rfl rfl);have NE:=lh (fun (W:World)=>bg (k:=.i64) (w:=W) (t:=3) (l:=[p2]) rfl Mo NK 1 rfl rfl);have JjV:=lh (show ((np f x y k).length+[p1].length)*8<=140737488355328 by rw [RN];simp;omega);have JjW:=lh (show ((mV f x y k).length+[p2].length)*8<=140737488355328 by rw [RO];simp;omega);have Hl1:Hid ((np f x y k ++ [p1]).length=k+1):=lh (by rw [Ln,RN];rfl);have Hl2:Hid ((mV f x y k ++ [p2]).length=k+1):=lh (by rw [Ln,RO];rfl);have Hm1:=lh YL;have Hm2:=lh hm2;have JdD:=lh (fun (o:Obj)=>(show w3.heap.size<=(wr.alloc o).heap.size by have:=MW.size;simp;omega));clear YL hm2 RN RO hi1 RK Pr NK;go_wp2_with fail;go_at_call 191;refine PV.mono ?_;rintro e w' ⟨rfl,rfl⟩
 go_wp2_with (first
   | (at_builtin;refine aw rfl (.tmp 39) (.tmp 47) _ rfl EI (Yc.quiet (ae.new _ _)) rfl (NC.out _) rfl JjV (JdD.out _) (fun v1 w4 MN Nu=>?_);obtain ⟨x1,OW,OB,_⟩:=MN.ints.open;subst OB;rw [Hl1.out] at MN Nu |-;have Oy:=lh MN;have Od:=lh Nu;clear MN Nu)
   | fail)
 have Ng:=((MW.out).q (ae.new wr (.cells #[p1] 3))).acc Od Ze;have NI:=lh Ng;have JiI:=lh ((ST.quiet (ae.new wr (.cells #[p1] 3))).accD Od ZO);have Jda:=lh (Od.sepD ZO (fun g hg=>((ST.quiet (ae.new wr (.cells #[p1] 3))).at g hg).2));have Jiu:=lh (Od.from_ Ze (JdD.out _));have JdE:=lh (fun (o:Obj)=>(show w3.heap.size<=(w4.alloc o).heap.size by have:=Ng.size;simp;omega));clear Ng;go_wp2_with fail;go_at_call 191;refine (Og.out _ NI).mono ?_;rintro e w' ⟨rfl,rfl⟩
 go_wp2_with (first
   | (at_builtin;refine aw rfl (.tmp 49) (.tmp 57) _ rfl EI (JiI.quiet (ae.new _ _)) rfl (NE.out _) rfl JjW (JdE.out _) (fun v1 w5 MN Nu=>?_);obtain ⟨x1,OW,OB,_⟩:=MN.ints.open;subst OB;rw [Hl2.out] at MN Nu |-;have Sb:=lh MN;have HA2:=lh Nu;clear MN Nu)
   | fail)
 refine ⟨⟨k+1,Mf,Mm,lh ?_,Jiu,lh ?_,lh (HA2.from_ Qu (JdE.out _)),lh ?_,lh ((NI.q (ae.new _ _)).acc HA2 Qu)⟩,Mk⟩
 ·rw [Hm1.out];exact (Oy.quiet (ae.new _ _)).accD HA2 Jda.symm
 ·rw [Hm2.out];exact Sb
 ·exact (HA2.sepD Jda.symm (fun g hg=>((Oy.quiet (ae.new _ _)).at g hg).2)).symm):p:=h
theorem tA {lo hi:Nat} {pv:Value} {w:World} {f:ai} (MU:FrOk f) (h:ah .i64 lo hi w pv f.pix) (x y:Int) (n:Nat) (hn:n=4\/n=8) (hx:0<=x) (NA:x+n<=f.W) (hy:0<=y) (NM:y+n<=f.H) :
  Calls Tryz.prog 136 #[.agg #[f.W,f.H,pv],x,y,n] w fun e w'=>∃ v1 v2,e=.returned (.tuple #[v1,v2,.int .i64 (aB f (x-1) (y-1))])/\Own .i64 3 w.heap.size w' v1 (cZ f x y n)/\Own .i64 3 w.heap.size w' v2 (bU f x y n)/\ae [] w w':=by
 refine aN fun Q MM=>?_
 obtain ⟨a,cap,rfl,-⟩:=h.open;have HT:Hid (cZ f x y n=np f x y n):=lh rfl;have HL:Hid (bU f x y n=mV f x y n):=lh rfl;have VI:=lh (fun hx hy=>eo MU.sam hx hy);have MP:=ae.new w (.cells #[f.W,f.H,.slice a f.pix.length cap] 24);have Nq:Hid ((w.alloc (.cells #[f.W,f.H,.slice a f.pix.length cap] 24)).heap[w.heap.size]?=some (.cells #[f.W,f.H,.slice a f.pix.length cap] 24 (0,0))):=lh (heap_alloc_new w _);have HI:=lh (h.quiet MP);have MT:=lh MP;have hM:=jG f.W f.H (h.quiet MP);rw [show dV ⟨f.W,f.H,f.pix⟩=true from dL.2 MU] at hM;have HM:=lh hM;have HP:=lh (fun (W:World)=>Bt f.W f.H x y n (.slice a f.pix.length cap) W ⟨MU.w0,MU.w1⟩ ⟨MU.h0,MU.h1⟩ Mf);rw [show gA f.W f.H x y n=true from by unfold gA;rw [decide_eq_true_iff];omega] at HP;have HB:Hid (∀ wt,ae [] (w.alloc (.cells #[f.W,f.H,.slice a f.pix.length cap] 24)) wt->∀ x y,x<f.W->y<f.H->Calls Tryz.prog 191 #[x,y,.pointer (some ⟨w.heap.size,0,none⟩)] wt fun e w'=>e=.returned (.int .i64 (aB f x y))/\wt=w') :=
  lh (fun wt o x y hx hy=>zv ⟨MU,a,cap,o.row Nq.out,HI.quiet o⟩ x y hx hy)
 have hmf:∀ (fn:Fn) (first cap:Array Value) (W:World),(Instr.makeFunc fn first cap).run Tryz.prog W=.ok (.func fn first cap) W:=fun _ _ _ _=>rfl
 have hW:=MU.w1;have hH:=MU.h1;clear h MP hM;rcases hn with rfl | rfl
 ·rw [show (((4:Nat)):Int)=4 from rfl] at *
  go_enter Tryz.func136,Tryz.ntmps136;obtain ⟨r0,r1,r2⟩:=ag Nq;go_wp2_with fail;go_at_call 62;refine HM.mono ?_;rintro e w2 ⟨rfl,MV⟩;clear r0 r1 r2;obtain ⟨r0,r1,r2⟩:=ag (MV.row Nq);have Na:=lh MV;clear MV;go_wp2_with fail;go_at_call 132;refine (HP.out w2).mono ?_;rintro e w3 ⟨rfl,Nb⟩;have Nf:=lh (Na.q Nb);have QM:=lh (show w.heap.size+1<=w3.heap.size by have:=(Na.q Nb).size;simp at this;omega);clear Nb r0 r1 r2 Na;go_wp2_with fail;go_loopw [36,12,13,14] (fun i t l _ wr=>∃ (k:Nat),k<=4/\i=.int .i64 k/\Hid (Own .i64 3 w3.heap.size wr t (np f x y k))/\Hid (bB w3.heap.size t)/\Hid (Own .i64 3 w3.heap.size wr l (mV f x y k))/\Hid (bB w3.heap.size l)/\Hid (mA t l)/\Hid (ae [] w3 wr)) (fun i _ _ _ _=>4-(intOf i).toNat)
  case atStart=>exact ⟨0,Mf,rfl,lh (Own.nil _ _ _ _),lh (bB.nil _),lh (Own.nil _ _ _ _),lh (bB.nil _),lh (mA.nil _),lh (ae.refl _ _)⟩
  case round =>
   obtain ⟨k,hk,rfl,Yc,Ze,ST,Qu,ZO,MW⟩:=hrel;have RN:=oC f x y k;have RO:=nG f x y k;obtain ⟨ta,TT,rfl,-⟩:=Yc.ints.open;obtain ⟨la,Nn,rfl,-⟩:=ST.ints.open;rw [RN] at Yc Ze ZO |-
   rw [RO] at ST Qu ZO |-
   by_cases MO:k<4
   ·have Ny:(k:Int)<4:=Mf
    exact xV
   ·obtain rfl:k=4:=Mf
    have hc:=HB.out wr (Nf.q MW) (x-1) (y-1) Mf Mf;have HC:=lh hc;clear hc RN RO;generalize aB f (x-1) (y-1)=p0 at *
    go_wp2_with fail;go_at_call 191;refine HC.mono ?_;rintro e w' ⟨rfl,rfl⟩;go_wp2_with fail;refine bodyPost_ret (v:=.tuple #[.slice ta 4 TT,.slice la 4 Nn,p0]) (by simp [results,Tryz.results136,go_sem]) rfl (MM.out _ _ ⟨_,_,rfl,?_,?_,(MT.q Nf).q MW.out⟩)
    ·rw [HT.out];exact Yc.lower (by have:=QM.out;omega)
    ·rw [HL.out];exact ST.lower (by have:=QM.out;omega)
 ·rw [show (((8:Nat)):Int)=8 from rfl] at *
  go_enter Tryz.func136,Tryz.ntmps136;obtain ⟨r0,r1,r2⟩:=ag Nq;go_wp2_with fail;go_at_call 62;refine HM.mono ?_;rintro e w2 ⟨rfl,MV⟩;clear r0 r1 r2;obtain ⟨r0,r1,r2⟩:=ag (MV.row Nq);have Na:=lh MV;clear MV;go_wp2_with fail;go_at_call 132;refine (HP.out w2).mono ?_;rintro e w3 ⟨rfl,Nb⟩;have Nf:=lh (Na.q Nb);have QM:=lh (show w.heap.size+1<=w3.heap.size by have:=(Na.q Nb).size;simp at this;omega);clear Nb r0 r1 r2 Na;go_wp2_with fail;go_loopw [36,12,13,14] (fun i t l _ wr=>∃ (k:Nat),k<=8/\i=.int .i64 k/\Hid (Own .i64 3 w3.heap.size wr t (np f x y k))/\Hid (bB w3.heap.size t)/\Hid (Own .i64 3 w3.heap.size wr l (mV f x y k))/\Hid (bB w3.heap.size l)/\Hid (mA t l)/\Hid (ae [] w3 wr)) (fun i _ _ _ _=>8-(intOf i).toNat)
  case atStart=>exact ⟨0,Mf,rfl,lh (Own.nil _ _ _ _),lh (bB.nil _),lh (Own.nil _ _ _ _),lh (bB.nil _),lh (mA.nil _),lh (ae.refl _ _)⟩
  case round =>
   obtain ⟨k,hk,rfl,Yc,Ze,ST,Qu,ZO,MW⟩:=hrel;have RN:=oC f x y k;have RO:=nG f x y k;obtain ⟨ta,TT,rfl,-⟩:=Yc.ints.open;obtain ⟨la,Nn,rfl,-⟩:=ST.ints.open;rw [RN] at Yc Ze ZO |-
   rw [RO] at ST Qu ZO |-
   by_cases MO:k<8
   ·have Ny:(k:Int)<8:=Mf
    exact xV
   ·obtain rfl:k=8:=Mf
    have hc:=HB.out wr (Nf.q MW) (x-1) (y-1) Mf Mf;have HC:=lh hc;clear hc RN RO;generalize aB f (x-1) (y-1)=p0 at *
    go_wp2_with fail;go_at_call 191;refine HC.mono ?_;rintro e w' ⟨rfl,rfl⟩;go_wp2_with fail;refine bodyPost_ret (v:=.tuple #[.slice ta 8 TT,.slice la 8 Nn,p0]) (by simp [results,Tryz.results136,go_sem]) rfl (MM.out _ _ ⟨_,_,rfl,?_,?_,(MT.q Nf).q MW.out⟩)
    ·rw [HT.out];exact Yc.lower (by have:=QM.out;omega)
    ·rw [HL.out];exact ST.lower (by have:=QM.out;omega)
end
end Go.Proofs.YthcafdfdglfabaaGreatDoor
