/- Joined texts: EPart, EChk, ECodW. Conditions: each part names its own. -/
import Derived.Test.YthcafdfdglfabaaGreatDoorW4
import Derived.Test.YthcafdfdglfabaaGreatDoorS3
import Derived.Test.YthcafdfdglfabaaGreatDoorW5
import Derived.Deep.CutBlock
namespace Go.Proofs.YthcafdfdglfabaaGreatDoor
open Go.RowKit
set_option linter.unusedVariables false
set_option linter.unusedSimpArgs false
set_option maxRecDepth 100000
set_option maxHeartbeats 16000000
abbrev wv (R:Nat):Value:=.iface 69 (.pointer (some ⟨R,0,none⟩))
def qb (O:Nat) (w:World):Prop:=∃ C:Array Value,w.heap[O]?=some (.cells C 76 (0,0))/\C.size=13/\∀ (i:Nat) (h:i<C.size),C[i].oneCell'=true
theorem qb.quiet {O:Nat} {w w':World} (h:qb O w) (o:ae [] w w'):qb O w':=by
 obtain ⟨C,h1,h2⟩:=h;exact ⟨C,o.row h1,h2⟩
theorem qb.went {O:Nat} {F F':List Nat} {w w':World} (h:qb O w) (o:bw F w F' w') (hO:O∉F):qb O w':=by
 obtain ⟨C,h1,h2⟩:=h;exact ⟨C,o.1.rowAt h1 hO,h2⟩
theorem qb.set {O:Nat} {w:World} (h:qb O w) {i:Nat} (hi:i<13) {v:Value} (hv:v.oneCell'=true):qb O (w.setCell ⟨O,i,none⟩ v)/\ae [O] w (w.setCell ⟨O,i,none⟩ v)/\(∃ u,w.cell? ⟨O,i,none⟩=some u)/\w.frozen? ⟨O,i,none⟩=false:=by
 obtain ⟨C,h1,h2,h3⟩:=h;refine ⟨⟨_,heap_setCell_same w O i _ _ v h1,by simpa using h2,fun j hj=>?_⟩,(ae.refl _ _).setCell Mg _,⟨C[i]'Mf,by rw [cell_of_row _ _ _ _ _ _ h1,Array.getElem?_eq_getElem Mf]⟩,frozen_of_row _ _ _ _ _ h1⟩;rw [Array.getElem_setIfInBounds]
 split
 ·exact hv
 ·exact h3 j (by simpa using hj)
theorem bI.q {O:Nat} {w:World} {k mo:Int} {ms:List Int} {vx vy:Int} {lv:Value} {vs:List Value} (h:bI O w k mo ms vx vy lv vs) (hm:ms.length=4) (hv:vs.length=4) (hl:lv.oneCell'=true) (hs:∀ v∈vs,v.oneCell'=true):qb O w:=by
 have h1:=dO (k:=k) (mo:=mo) (ms:=ms) (vx:=vx) (vy:=vy) hl hs;rw [Array.all_eq_true] at h1;exact ⟨_,h,by rw [List.size_toArray,jM hm hv],h1⟩
section
variable {base R E:Nat} {F:List Nat} {w:World} {m:Wrt} {n:Nat}
theorem pq {side lo' hi':Nat} (hs:side=4\/side=8) {lv:Value} {l:List Int} (h:(pcWrite base R E).At F w m) (hl:ah .i64 lo' hi' w lv l) (MR:l.length=side*side) (Nj:cu l) (hF:∀ x∈F,x<lo'\/hi'<=x) (hw:hi'<=w.heap.size) (ok:WOk n m) (hn:n<=600000000) :
  Calls Tryz.prog 144 #[wv R,lv] w fun e w'=>∃ g cap F',e=.returned (.tuple #[.slice (some ⟨g,0,none⟩) (side*side) cap,.nilIface])/\(pcWrite base R E).At F' w' (aT wrC side l m).2/\bw F w F' w':=by
 have hv:=iK hs MR Nj m;have go:∀ e w',kt (pcWrite base R E) F w (aT wrC side l m) e w'->∃ g cap F',e=.returned (.tuple #[.slice (some ⟨g,0,none⟩) (side*side) cap,.nilIface])/\(pcWrite base R E).At F' w' (aT wrC side l m).2/\bw F w F' w':=by
  intro e w' h;unfold kt at h;rw [hv] at h;obtain ⟨F',h1,h2,v',rfl,h3,-⟩:=h;obtain ⟨g,cap,rfl,-,-⟩:=h3.form (by rw [MR];rcases hs with rfl | rfl <;> omega);rw [MR];exact ⟨g,cap,F',rfl,h1,h2⟩
 rcases hs with rfl | rfl
 ·exact (Ae (pcWrite base R E) h hl MR Nj hF hw (fun a ha c m e=>by have e2:decide (l.getD a 0≠0)=false:=e;simpa using e2) ok hn).mono go
 ·exact (Af (pcWrite base R E) h hl MR Nj hF hw (fun a ha c m e=>by have e2:decide (l.getD a 0≠0)=false:=e;simpa using e2) ok hn).mono go
structure PSt (base R E O:Nat) (F:List Nat) (w0 w:World) (F':List Nat) (m:Wrt):Prop where
 at_:(pcWrite base R E).At F' w m
 row:qb O w
 out:O∉F'
 went:bw (O :: F) w0 (O :: F') w
 lt:O<w0.heap.size/\base<=O
theorem bw.cons {O:Nat} {F F':List Nat} {w w':World} (h:bw F w F' w'):bw (O :: F) w (O :: F') w' :=
 ⟨h.1.mono (fun g hg _=>Lx _ hg),fun g hg=>by
  rcases List.mem_cons.1 hg with rfl | hg
  ·exact .inl (List.mem_cons_self ..)
  ·exact (h.2 g hg).imp_left (Lx _)⟩
section
variable {O:Nat} {w0 w':World} {F1 F2:List Nat} {m':Wrt}
theorem PSt.size (h:PSt base R E O F w0 w F1 m):w0.heap.size<=w.heap.size:=h.went.1.size
theorem PSt.call (h:PSt base R E O F w0 w F1 m) (a:(pcWrite base R E).At F2 w' m') (g:bw F1 w F2 w'):PSt base R E O F w0 w' F2 m' :=
 ⟨a,h.row.went g h.out,fun hm=>by
  rcases g.2 O hm with h1 | h1
  ·exact h.out h1
  ·have:=h.size;have:=h.lt.1;omega,h.went.trans g.cons,h.lt⟩
theorem PSt.store (h:PSt base R E O F w0 w F1 m) {i:Nat} (hi:i<13) {v:Value} (hv:v.oneCell'=true):PSt base R E O F w0 (w.setCell ⟨O,i,none⟩ v) F1 m/\(∃ u,w.cell? ⟨O,i,none⟩=some u)/\w.frozen? ⟨O,i,none⟩=false/\ae [O] w (w.setCell ⟨O,i,none⟩ v):=by
 obtain ⟨a,b,c,d⟩:=h.row.set hi hv;refine ⟨⟨(pcWrite base R E).only h.at_ b (fun g hg=>by rw [mSg] at hg;subst hg;exact ⟨h.lt.2,h.out⟩),a,h.out,h.went.trans ⟨b.mono (fun g hg _=>by rw [mSg] at hg;subst hg;exact List.mem_cons_self ..),fun g hg=>.inl hg⟩,h.lt⟩,c,d,b⟩
theorem PSt.quiet (h:PSt base R E O F w0 w F1 m) (o:ae [] w w'):PSt base R E O F w0 w' F1 m :=
 ⟨(pcWrite base R E).only h.at_ o Mg,h.row.quiet o,h.out,h.went.q o,h.lt⟩
theorem PSt.keep (h:PSt base R E O F w0 w F1 m) {g:Nat} {o:Obj} (hg:w0.heap[g]?=some o) (hn:g∉O :: F):w.heap[g]?=some o:=h.went.1.rowAt hg hn
end
theorem ua (q:pZ) (m:Wrt):(cf wrC q 2 m).2=(aT wrC 8 q.large (bN wrC q.mode m).2).2:=by
 unfold cf;rw [if_neg Mn,if_neg Mn,if_neg Mn]
 split <;> rfl
theorem tZ (q:pZ) (m:Wrt):(cf wrC q 1 m).2=(aT wrC 8 q.large (bR wrC q.vy (bR wrC q.vx m).2).2).2:=by
 unfold cf;rw [if_neg Mn,if_neg Mn,if_pos rfl]
 split <;> rfl
theorem ub (q:pZ) (m:Wrt):(cf wrC q 3 m).2=(bn wrC q.modes q.small 4 [] [] m).2:=by
 unfold cf;rw [if_pos rfl]
 split <;> rfl
theorem Bb {O lo hi:Nat} {key:Bool} {s:SqD} {lv:Value} {vs:List Value} (hA:(pcWrite base R E).At F w m) (hs:gC key s) (MX:dU lo hi w lv vs s.large s.small) (NV:s.modes.length=4) (hF:∀ x∈F,x<lo\/hi<=x) (hw:hi<=w.heap.size) (ho:bI O w s.kind 0 [0,0,0,0] 0 0 aj [aj,aj,aj,aj]) (hOb:base<=O) (hOF:O∉F) (hOl:O<lo\/hi<=O) (ok:WOk n m) (hn:n<=100000000) :
  Calls Tryz.prog 79 #[wv R,.agg (sqL s.kind s.mode s.modes s.vx s.vy lv vs).toArray,.pointer (some ⟨O,0,none⟩)] w fun e w'=>(e=.returned .nilIface/\∃ F',(pcWrite base R E).At F' w' (cf wrC (df s) s.kind m).2/\qb O w'/\O∉F'/\bw (O :: F) w (O :: F') w'):=by
 refine aN fun Q MM=>?_
 have Xt:=lh (show ∀ x∈F,x<w.heap.size from fun x hx=>(pcWrite base R E).lt hA x hx);have MO:=(Array.getElem?_eq_some_iff.1 ho).1;have MT:=lh (ae.new w (.cells (sqL s.kind s.mode s.modes s.vx s.vy lv vs).toArray 76));have HBx:Hid ((w.alloc (.cells (sqL s.kind s.mode s.modes s.vx s.vy lv vs).toArray 76)).heap[w.heap.size]?=some (.cells (sqL s.kind s.mode s.modes s.vx s.vy lv vs).toArray 76 (0,0))):=lh (heap_alloc_new w _);have Oy:=lh (MT.out.row ho);have Od:=lh ((pcWrite base R E).only hA MT.out Mg);have Jmw:=lh (MX.only MT.out Mg);have HN:=lh (And.intro hw (And.intro hOb (And.intro hOF (And.intro hOl MO))));have HF:=lh hF;have HS:=lh hs;have PA:=lh NV;have Nc:=lh ok;have Sh:Hid ((w.alloc (.cells (sqL s.kind s.mode s.modes s.vx s.vy lv vs).toArray 76)).heap.size=w.heap.size+1):=lh Mg;have hrq:=bI.q Oy.out rfl rfl rfl iP;have Wo:Hid (PSt base R E O F (w.alloc (.cells (sqL s.kind s.mode s.modes s.vx s.vy lv vs).toArray 76)) (w.alloc (.cells (sqL s.kind s.mode s.modes s.vx s.vy lv vs).toArray 76)) F m):=lh ⟨Od.out,hrq,hOF,bw.refl _ _,Mq,hOb⟩;have k0:=bI.cell Oy.out (i:=0) (x:=.int .i64 s.kind) ib;have XG:s.kind=0\/s.kind=1\/s.kind=2\/s.kind=3:=by have:=hs.kind;omega
 have RA:Hid (∀ wx F' m',PSt base R E O F (w.alloc (.cells (sqL s.kind s.mode s.modes s.vx s.vy lv vs).toArray 76)) wx F' m'->(cf wrC (df s) s.kind m).2=m'->Q (.returned .nilIface) wx):=lh (fun wx F' m' h e=>MM.out _ _ ⟨rfl,F',by rw [e];exact h.at_,h.row,h.out,bw.ahead MT.out h.went⟩);have HNb:Hid (w.heap.size∉O :: F):=lh (fun hm=>by
  rcases List.mem_cons.1 hm with h | h
  ·omega
  ·have:=Xt.out _ h;omega)
 have ZG:Hid (∀ wx F' m',PSt base R E O F (w.alloc (.cells (sqL s.kind s.mode s.modes s.vx s.vy lv vs).toArray 76)) wx F' m'->dU lo hi wx lv vs s.large s.small/\(∀ x∈F',x<lo\/hi<=x)/\hi<=wx.heap.size):=lh (fun wx F' m' h=>⟨Jmw.out.only h.went.1 (fun g hg=>by
  rcases List.mem_cons.1 hg with rfl | hg
  ·exact hOl
  ·exact hF g hg),fun x hx=>by
   rcases h.went.2 x (Lx _ hx) with h1 | h1
   ·rcases List.mem_cons.1 h1 with rfl | h1
    ·exact hOl
    ·exact hF x h1
   ·exact .inr (by rw [Sh.out] at h1;omega),by have:=h.size;rw [Sh.out] at this;omega⟩)
 clear hA hs MX NV hF hw ho hOb hOF hOl ok MO hrq Oy Od Jmw HN HF Xt MM MT;obtain ⟨kd,mo,ms,vx,vy,LL,SS⟩:=s;simp only at HBx HS PA k0 XG RA ZG Wo Sh;obtain ⟨CA,Rx⟩:∃ z,z=(sqL (kd:Int) (mo:Int) ms vx vy lv vs).toArray:=⟨_,rfl⟩
 rw [<- Rx] at HBx k0 RA ZG Wo Sh;have Oi:Hid (∀ wx:World,wx.heap[w.heap.size]?=some (.cells CA 76 (0,0))->bI w.heap.size wx kd mo ms vx vy lv vs):=lh (fun wx h=>by rw [Rx] at h;exact h);show Calls Tryz.prog 79 #[wv R,.agg (sqL (kd:Int) (mo:Int) ms vx vy lv vs).toArray,.pointer (some ⟨O,0,none⟩)] w Q;rw [<- Rx];clear Rx;rcases XG with rfl | rfl | rfl | rfl
 ·go_enter Tryz.func79,Tryz.ntmps79
  go_wp2_with fail;exact RA.out _ F m Wo.out rfl
 ·have Vm:=lh (HS.out.large (.inl rfl))
  obtain ⟨vx0,vx1,vy0,vy1⟩:=HS.out.vec rfl;simp only at vx0 vx1 vy0 vy1;have HM:=lh (fun w F (h:(pcWrite base R E).At F w m)=>uj (pcWrite base R E) h (v:=vx) Mf Nc.out Mf);have PR:=lh (jQ vx Nc.out);have Rq:=lh (tZ (df ⟨1,mo,ms,vx,vy,LL,SS⟩) m);have b6:=bI.cell (Oi.out _ HBx.out) (i:=6) (x:=.int .i64 vx) (by obtain ⟨a,b,c,d,rfl⟩:=gH PA.out;rfl);go_enter Tryz.func79,Tryz.ntmps79;go_wp2_with fail;generalize NB:World.alloc w _=W1 at *
  clear NB k0 b6;go_at_call 145;refine (HM.out W1 F Wo.out.at_).mono ?_;rintro e w2 ⟨rfl,F2,UR,Nl⟩;have Xh:=Wo.out.call UR Nl;obtain ⟨XI,⟨u3,x3⟩,y3,-⟩:=Xh.store (i:=6) Mf (v:=.int .i64 (bR wrC vx m).1) rfl;have Us:=lh XI;have b7:=bI.cell (Oi.out _ (Us.out.keep HBx.out HNb.out)) (i:=7) (x:=.int .i64 vy) (by obtain ⟨a,b,c,d,rfl⟩:=gH PA.out;rfl);clear Xh XI UR Nl;obtain ⟨gm,mm,hgm⟩:∃ a b,bR wrC vx m=(a,b):=⟨_,_,rfl⟩
  rw [hgm] at Us PR b7 |-
  simp only at Us PR b7 |-
  have Hgm:=lh hgm;clear hgm;go_wp2_with fail;clear x3 y3 b7;generalize PZ:World.setCell w2 _ _=W3 at *
  clear PZ;have HM4:=lh (uj (pcWrite base R E) Us.out.at_ (v:=vy) Mf PR.out Mf);have WO:=lh (jQ vy PR.out);go_at_call 145;refine HM4.out.mono ?_;rintro e w4 ⟨rfl,F4,ha4,hg4⟩;have hp4:=Us.out.call ha4 hg4;obtain ⟨XJ,⟨u5,x5⟩,y5,-⟩:=hp4.store (i:=7) Mf (v:=.int .i64 (bR wrC vy mm).1) rfl;have Xw:=lh XJ;have b8:=bI.cell (Oi.out _ (Xw.out.keep HBx.out HNb.out)) (jL PA.out);clear hp4 XJ ha4 hg4;obtain ⟨gn,mn,UY⟩:∃ a b,bR wrC vy mm=(a,b):=⟨_,_,rfl⟩
  rw [UY] at Xw WO b8 |-
  simp only at Xw WO b8 |-
  have Hgn:=lh UY;clear UY;go_wp2_with fail;clear x5 y5 b8;generalize hW5:World.setCell w4 _ _=W5 at *
  clear hW5;obtain ⟨hi8,hf8,hw8⟩:=ZG.out _ _ _ Xw.out;go_at_call 144;refine (pq (side:=8) (.inr rfl) Xw.out.at_ hi8.large Vm.out.1 Vm.out.2 hf8 hw8 WO.out Mf).mono ?_;rintro e w8 ⟨g8,c8,F8,rfl,ha8,QE⟩;have hp8:=Xw.out.call ha8 QE;obtain ⟨hp9,⟨u9,x9⟩,y9,-⟩:=hp8.store (i:=8) Mf (v:=.slice (some ⟨g8,0,none⟩) (8*8) c8) rfl;rw [show (8*8:Nat)=64 from rfl] at hp9 |-
  have HP9:=lh hp9;clear hp8 hp9 ha8 QE hi8 hf8 hw8;go_wp2_with fail;refine RA.out _ _ _ HP9.out ?_;rw [Rq.out];show (aT wrC 8 LL (bR wrC vy (bR wrC vx m).2).2).2=_;rw [Hgm.out];simp only;rw [Hgn.out]
 ·have Vm:=lh (HS.out.large (.inr rfl))
  have VY:=HS.out.mode rfl;simp only at VY;have HM:=lh (fun w F (h:(pcWrite base R E).At F w m)=>ug (pcWrite base R E) h (v:=(mo:Int)) Mf Nc.out Mf);have PR:=lh (jP (mo:Int) Nc.out);have Tm:=ua (df ⟨2,mo,ms,vx,vy,LL,SS⟩) m;have Rq:=lh Tm;clear Tm;have b1:=bI.cell (Oi.out _ HBx.out) (i:=1) (x:=.int .i64 mo) rfl;go_enter Tryz.func79,Tryz.ntmps79;go_wp2_with fail;generalize NB:World.alloc w _=W1 at *
  clear NB k0 b1;go_at_call 143;refine (HM.out W1 F Wo.out.at_).mono ?_;rintro e w2 ⟨rfl,F2,UR,Nl⟩;have Xh:=Wo.out.call UR Nl;obtain ⟨XI,⟨u3,x3⟩,y3,-⟩:=Xh.store (i:=1) Mf (v:=.int .i64 ((bN wrC (mo:Int) m).1:Int)) rfl;have Us:=lh XI;have b8:=bI.cell (Oi.out _ (Us.out.keep HBx.out HNb.out)) (jL PA.out);clear Xh XI UR Nl;obtain ⟨gm,mm,hgm⟩:∃ a b,bN wrC (mo:Int) m=(a,b):=⟨_,_,rfl⟩
  rw [hgm] at Us PR b8 |-
  simp only at Us PR b8 |-
  have Hgm:=lh hgm;clear hgm;go_wp2_with fail;clear x3 y3 b8;generalize PZ:World.setCell w2 _ _=W3 at *
  clear PZ;obtain ⟨hi8,hf8,hw8⟩:=ZG.out _ _ _ Us.out;go_at_call 144;refine (pq (side:=8) (.inr rfl) Us.out.at_ hi8.large Vm.out.1 Vm.out.2 hf8 hw8 PR.out Mf).mono ?_;rintro e w8 ⟨g8,c8,F8,rfl,ha8,QE⟩;have hp8:=Us.out.call ha8 QE;obtain ⟨hp9,⟨u9,x9⟩,y9,-⟩:=hp8.store (i:=8) Mf (v:=.slice (some ⟨g8,0,none⟩) (8*8) c8) rfl;rw [show (8*8:Nat)=64 from rfl] at hp9 |-
  have HP9:=lh hp9;clear hp8 hp9 ha8 QE hi8 hf8 hw8;go_wp2_with fail;refine RA.out _ _ _ HP9.out ?_;rw [Rq.out];show (aT wrC 8 LL (bN wrC (mo:Int) m).2).2=_;rw [Hgm.out]
 ·obtain ⟨-,Uo,QU,PQ⟩:=HS.out.small rfl
  simp only at Uo QU PQ;have HMs:=lh QU;have JrY:=lh PQ;have WT:=lh Uo;have Rq:=lh (ub (df ⟨3,mo,ms,vx,vy,LL,SS⟩) m);have HVl:Hid (vs.length=4):=lh (ZG.out _ _ _ Wo.out).1.len;clear Uo QU PQ;go_enter Tryz.func79,Tryz.ntmps79;go_wp2_with fail;generalize NB:World.alloc w _=W1 at *
  clear NB k0;go_loopw [22] (fun i wr=>∃ (k nk:Nat) (Fk:List Nat) (mk:Wrt),k<=4/\i=.int .i64 k/\nk=n+691*k/\Hid (PSt base R E O F W1 wr Fk mk)/\Hid (WOk nk mk)/\Hid (bn wrC ms SS (4-k) (ms.take k) (SS.take k) mk=bn wrC ms SS 4 [] [] m)) (fun i _=>4-(intOf i).toNat)
  case atStart=>exact ⟨0,n,F,m,Mf,rfl,Mf,Wo,Nc,lh rfl⟩
  case round =>
   obtain ⟨k,nk,Fk,mk,hk,rfl,hnk,Sc,WP,Pn⟩:=hrel;by_cases MO:k<4
   ·have Ny:(k:Int)<4:=Mf
    have NU:(0:Int)<=(k:Int):=Mf;have Rc:=HMs.out (ms.getD k 0) (by have:=PA.out;rw [Le,Lf Mf];exact LM _);have HLk:=lh (JrY.out (SS.getD k []) (by have:=WT.out;rw [Le,Lf Mf];exact LM _));have HMk:=lh (fun w F (h:(pcWrite base R E).At F w mk)=>ug (pcWrite base R E) h (v:=ms.getD k 0) Rc WP.out Mf);have PR:=lh (jP (ms.getD k 0) WP.out);have hmv:=nZ Rc.1 Rc.2 mk;obtain ⟨vk,hvk⟩:∃ z,vs.getD k aj=z:=⟨_,rfl⟩
    have b2:=bI.cell (Oi.out _ (Sc.out.keep HBx.out HNb.out)) (gw PA.out MO);have Wt:Hid (bn wrC ms SS (4-k) (ms.take k) (SS.take k) mk=bn wrC ms SS (4-(k+1)) (ms.take (k+1)) (SS.take (k+1)) (aT wrC 4 (SS.getD k []) (bN wrC (ms.getD k 0) mk).2).2):=lh (by
     obtain ⟨k3,Qd⟩:∃ k3,4-k=k3+1:=⟨3-k,Mf⟩
     have l1:(ms.take k).length=k:=by have:=PA.out;rw [Lp];omega
     have l2:(SS.take k).length=k:=by have:=WT.out;rw [Lp];omega
     have t1:ms.take (k+1)=ms.take k ++ [((bN wrC (ms.getD k 0) mk).1:Int)]:=by have:=PA.out;rw [List.take_succ_eq_append_getElem Mf,hmv,Le,Lf Mf];rfl
     have t2:SS.take (k+1)=SS.take k ++ [SS.getD k []]:=by have:=WT.out;rw [List.take_succ_eq_append_getElem Mf,Le,Lf Mf];rfl
     rw [Qd,show 4-(k+1)=k3 by omega,t1,t2];have hcv:=iK (side:=4) (.inl rfl) HLk.out.1 HLk.out.2 (bN wrC (ms.getD k 0) mk).2;exact mP (C:=wrC) (m:=mk) (mo:=(bN wrC (ms.getD k 0) mk).1) (m1:=(bN wrC (ms.getD k 0) mk).2) (m2:=(aT wrC 4 (SS.getD k []) (bN wrC (ms.getD k 0) mk).2).2) (by rw [l1]) (by rw [l2];exact Prod.ext hcv rfl))
    obtain ⟨mg,hmg⟩:∃ z,ms.getD k 0=z:=⟨_,rfl⟩
    rw [hmg] at Rc HMk PR b2 Wt;have Hmg:=lh hmg;clear hmv hmg;go_wp2_with fail;refine wp_region_held_drew (S:=(fun w'=>w'.cell? ⟨w.heap.size,2+k,none⟩=some (.int .i64 mg))) Mh ?_ (fun hHeld=>?_)
    ·exact b2
    refine tk 0 25 ?_;refine tk 1 26 ?_;refine tk 2 27 ?_;refine tk 3 28 ?_;refine tk 4 29 ?_;refine tk 5 30 ?_;refine tk 6 31 ?_;refine tk 8 33 ?_;refine tk 9 34 ?_;refine rdy (rdc 7 32 (fun K hK=>?_) .nil);go_simp;go_at_call 143;refine (HMk.out _ _ (Sc.out.quiet (ae.refl _ _).drew).at_).mono ?_;rintro e w2 ⟨rfl,F2,UR,Nl⟩;have Xh:=(Sc.out.quiet (ae.refl [] wr).drew).call UR Nl;obtain ⟨XI,⟨u3,x3⟩,y3,ho3⟩:=Xh.store (i:=2+k) Mf (v:=.int .i64 ((bN wrC mg mk).1:Int)) rfl;have Us:=lh XI;have bs2:=bI.cell (Oi.out _ (Xh.keep HBx.out HNb.out)) (gw PA.out MO);have bs3:=bI.cell (Oi.out _ (XI.keep HBx.out HNb.out)) (gw PA.out MO);rw [Hmg.out] at bs2 bs3;clear Xh XI UR Nl;refine hK.out _ _ ?_ (fun hHeld=>?_)
    ·exact bs2
    clear hK K
    try simp only [Act.put,Lg,Lj,Lk]
    refine tk 10 35 ?_;refine rdy (rdn 11 (fun K hK=>?_) .nil);go_simp;refine hK.out _ _ ?_ (fun hHeld=>?_)
    ·exact bs3
    clear hK K
    try simp only [Act.put,Lg,Lj,Lk]
    refine wpAnyH_done Mh ?_ _;go_wp2_with fail;clear x3 y3 b2 bs2 bs3;generalize PZ:World.setCell w2 _ _=W3 at *
    clear PZ ho3;obtain ⟨gm,mm,hgm⟩:∃ a b,bN wrC mg mk=(a,b):=⟨_,_,rfl⟩
    rw [hgm] at Us PR Wt;simp only at Us PR Wt;have Jfv:=lh (jN (side:=4) (.inl rfl) (SS.getD k []) PR.out);have b9:=bI.cell (Oi.out _ (Us.out.keep HBx.out HNb.out)) (dy PA.out HVl.out MO);rw [hvk] at b9;clear hgm;refine wp_region_held_drew (S:=(fun w'=>w'.cell? ⟨w.heap.size,9+k,none⟩=some vk)) Mh ?_ (fun hHeld=>?_)
    ·exact b9
    refine tk 0 37 ?_;refine tk 1 38 ?_;refine tk 2 39 ?_;refine tk 3 40 ?_;refine tk 4 41 ?_;refine tk 5 42 ?_;refine tk 6 43 ?_;refine tk 11 47 ?_;refine tk 12 48 ?_;refine rdy (rdc 7 44 (fun K hK=>?_) .nil);go_simp;obtain ⟨hi4,hf4,hw4⟩:=ZG.out _ _ _ (Us.out.quiet (ae.refl [] W3).drew);have RS:=hi4.small k MO;rw [hvk] at RS;go_at_call 144;refine (pq (side:=4) (.inl rfl) (Us.out.quiet (ae.refl [] W3).drew).at_ RS HLk.out.1 HLk.out.2 hf4 hw4 PR.out Mf).mono ?_;rintro e w4 ⟨g4,c4,F4,rfl,ha4,hg4⟩;have hp4:=(Us.out.quiet (ae.refl [] W3).drew).call ha4 hg4;rw [show (4*4:Nat)=16 from rfl];obtain ⟨XJ,⟨u5,x5⟩,y5,ho5⟩:=hp4.store (i:=9+k) Mf (v:=.slice (some ⟨g4,0,none⟩) 16 c4) rfl;have Xw:=lh XJ;have bs4:=bI.cell (Oi.out _ (hp4.keep HBx.out HNb.out)) (dy PA.out HVl.out MO);have bs5:=bI.cell (Oi.out _ (XJ.keep HBx.out HNb.out)) (dy PA.out HVl.out MO);rw [hvk] at bs4 bs5;clear hp4 XJ ha4 hg4 RS hi4 hf4 hw4;refine hK.out _ _ ?_ (fun hHeld=>?_)
    ·exact bs4
    clear hK K
    try simp only [Act.put,Lg,Lj,Lk]
    refine tk 8 36 ?_;refine tk 9 45 ?_;refine tk 10 46 ?_;refine tk 13 49 ?_;refine rdy (rdn 14 (fun K hK=>?_) .nil);go_simp;refine hK.out _ _ ?_ (fun hHeld=>?_)
    ·exact bs5
    clear hK K
    try simp only [Act.put,Lg,Lj,Lk]
    refine tk 15 7 ?_;refine wpAnyH_done Mh ?_ _;go_wp2_with fail;clear x5 y5 b9 bs4 bs5;refine ⟨⟨k+1,n+691*(k+1),F4,_,Mf,Mm,rfl,Xw,lh (Jfv.out.le Mf),lh ?_⟩,Mk⟩;rw [<- Wt.out];exact Pn.out
   ·obtain rfl:k=4:=Mf
    have Ny:¬ ((4:Nat):Int)<4:=Mf;go_wp2_with fail;refine RA.out _ _ _ Sc.out ?_;rw [Rq.out];show (bn wrC ms SS 4 [] [] m).2=_;rw [<- Pn.out]
    rfl
end
section
theorem uz (v:Int) (h:-15<=v/\v<=15) (w:World):Calls Tryz.prog 194 #[v] w fun e w'=>e=.returned (.bool true)/\w=w':=by
 obtain ⟨h0,h1⟩:=h;go_enter Tryz.func194,Tryz.ntmps194;go_wp2;go_ret;exact ⟨rfl,rfl⟩
def lj (v:Int):Bool:=decide (0<=v) && decide (v<=3)
theorem uy (v:Int) (w:World):Calls Tryz.prog 195 #[v] w fun e w'=>e=.returned (.bool (lj v))/\w=w':=by
 go_enter Tryz.func195,Tryz.ntmps195;go_wp2
 all_goals
  go_ret;exact ⟨aK (by unfold lj;simp;try omega),rfl⟩
theorem wk (x:Int) (w:World):Calls Tryz.prog 196 #[x] w fun e w'=>e=.returned (.bool (!lj x))/\w=w':=by
 have H:=lh (uy x);generalize lj x=B at *
 go_enter Tryz.func196,Tryz.ntmps196
 go_wp2_with (first | (go_at_call 195;refine (H.out _).mono ?_;rintro e w1 ⟨rfl,rfl⟩) | fail)
 go_ret;exact ⟨rfl,rfl⟩
theorem pT {lo hi:Nat} {v:Value} {l:List Int} {w:World} (h:ah .i64 lo hi w v l) (N:Nat) (hN:N=16\/N=64) (hl:l.length=N) (Nj:cu l) :
  Calls Tryz.prog 141 #[v,N] w fun e w'=>e=.returned .nilIface/\ae [] w w':=by
 have HC:=lh (jm h Mf);have hcn:jU l=none:=by unfold jU;rw [if_neg (by rw [hl];omega),rD Nj];rfl
 rw [hcn] at HC;obtain ⟨a,c,rfl,-⟩:=h.open;rw [hl] at HC |-
 clear h hl Nj hcn;go_enter Tryz.func141,Tryz.ntmps141;go_wp2_with fail;go_at_call 197;refine HC.out.mono ?_;rintro e w1 ⟨⟨u,rfl,hu⟩,MP⟩;have hu':u=.nilIface:=hu;subst hu';have MT:=lh MP;clear MP hu;go_wp2_with fail;go_ret;exact ⟨rfl,MT.out⟩
theorem zZ {B:Nat} {w:World} {k mo:Int} {ms:List Int} {vx vy:Int} {lv:Value} {vs:List Value} (h:bI B w k mo ms vx vy lv vs) (hm:ms.length=4) (hr:∀ x∈ms,0<=x/\x<=3):ah .i64 B (B+1) w (.slice (some ⟨B,2,none⟩) 4 4) ms:=by
 refine ⟨⟨by rw [Lt,hm],some ⟨B,2,none⟩,4,by rw [hm],by rw [hm];exact Lm _,Mo,fun _=>⟨B,2,rfl,Lm _,Nat.lt_succ_self _,fun j u hu=>?_⟩⟩,fun x hx=>by have:=hr x hx;simp only [InK];omega⟩;have hj:j<4:=by
  rcases Nat.lt_or_ge j 4 with h | h
  ·exact h
  ·rw [List.getElem?_eq_none (by simp [hm];exact h)] at hu;cases hu
 rw [h.cell (gw hm hj),<- hu,LG,Lf Mf,Le,Lf Mf]
 rfl
theorem yy {key:Bool} {s:SqD} {lv:Value} {vs:List Value} {w:World} (hs:gC key s) (NV:s.modes.length=4) (hvl:vs.length=4) :
  Calls Tryz.prog 140 #[.agg (sqL s.kind s.mode s.modes s.vx s.vy lv vs).toArray] w fun e w'=>e=.returned (.bool true)/\ae [] w w':=by
 refine aN fun Q MM=>?_
 obtain ⟨kd,mo,ms,vx,vy,LL,SS⟩:=s;simp only at NV |-
 have XG:kd=0\/kd=1\/kd=2\/kd=3:=by have:=hs.kind;simp only at this;omega
 obtain ⟨CA,Rx⟩:∃ z,z=(sqL (kd:Int) (mo:Int) ms vx vy lv vs).toArray:=⟨_,rfl⟩
 have Oi:Hid (∀ wx:World,wx.heap[w.heap.size]?=some (.cells CA 76 (0,0))->bI w.heap.size wx kd mo ms vx vy lv vs):=lh (fun wx h=>by rw [Rx] at h;exact h);rw [<- Rx];clear Rx;have HB:=lh (heap_alloc_new w (.cells CA 76));have HQ:=lh (ae.new w (.cells CA 76));have HS:=lh hs;have PA:=lh NV;have b0:=bI.cell (Oi.out _ HB.out) ib;have b1:=bI.cell (Oi.out _ HB.out) (i:=1) (x:=.int .i64 mo) rfl;have b6:=bI.cell (Oi.out _ HB.out) (i:=6) (x:=.int .i64 vx) (by obtain ⟨a,b,c,d,rfl⟩:=gH NV;rfl);have b7:=bI.cell (Oi.out _ HB.out) (i:=7) (x:=.int .i64 vy) (by obtain ⟨a,b,c,d,rfl⟩:=gH NV;rfl);clear hs NV hvl;rcases XG with rfl | rfl | rfl | rfl
 ·clear b1 b6 b7
  go_enter Tryz.func140,Tryz.ntmps140;go_wp2_with fail;exact MM.out _ _ ⟨rfl,HQ.out⟩
 ·obtain ⟨vx0,vx1,vy0,vy1⟩:=HS.out.vec rfl
  simp only at vx0 vx1 vy0 vy1;have HX:=lh (uz vx Mf);have HY:=lh (uz vy Mf);clear b1;go_enter Tryz.func140,Tryz.ntmps140;go_wp2_with fail;go_at_call 194;refine (HX.out _).mono ?_;rintro e w1 ⟨rfl,rfl⟩;go_wp2_with fail;go_at_call 194;refine (HY.out _).mono ?_;rintro e w2 ⟨rfl,rfl⟩;go_wp2_with fail;exact MM.out _ _ ⟨rfl,HQ.out⟩
 ·have hm:=HS.out.mode rfl
  simp only at hm;have HM:=lh (uy (mo:Int));rw [show lj (mo:Int)=true by unfold lj;simp;omega] at HM;clear b6 b7;go_enter Tryz.func140,Tryz.ntmps140;go_wp2_with fail;go_at_call 195;refine (HM.out _).mono ?_;rintro e w1 ⟨rfl,rfl⟩;go_wp2_with fail;exact MM.out _ _ ⟨rfl,HQ.out⟩
 ·obtain ⟨-,-,QU,-⟩:=HS.out.small rfl
  simp only at QU;have ef:=fun args w=>MuLone.run_callFunc_enter Tryz.func196 Mh rfl args w
  have HC:=lh (jn ef wk (zZ (Oi.out _ HB.out) PA.out QU) (by rw [PA.out];omega));rw [show (ms.any fun x=>!lj x)=false by rw [List.any_eq_false];intro x hx;have:=QU x hx;unfold lj;simp;omega] at HC;clear b1 b6 b7 ef QU;go_enter Tryz.func140,Tryz.ntmps140;go_wp2_with fail;go_at_call 122;refine HC.out.mono ?_;rintro e w1 ⟨rfl,MP⟩;have MT:=lh MP;clear MP;go_wp2_with fail;exact MM.out _ _ ⟨rfl,HQ.out.q MT.out⟩
theorem Hu {p:Prop} (h:p:=by
 go_enter Tryz.func77,Tryz.ntmps77
 go_wp2_with (first | (refine az rfl (.tmp 3) 76 rfl rfl HB.out NY.out rfl HI.out ?_) | fail)
 go_at_call 140;refine (Vj.out _).mono ?_;rintro e w2 ⟨rfl,MV⟩;have Na:=lh (HQ.out.q MV);have Oj:=lh (MV.row HB.out);clear MV b0 Vj;have b0:=bI.cell (Oi.out _ Oj.out) ib;obtain ⟨-,Uo,-,PQ⟩:=HS.out.small rfl;simp only at Uo PQ;have HL:=lh (fun (i:Nat) (hi:i<4) (W:World) (o:ae [] w2 W)=>pT ((PX.out.small i hi).quiet (Na.out.q o)) 16 (.inl rfl) (PQ (SS.getD i []) (by rw [Le,Lf Mf];exact LM _)).1 (PQ (SS.getD i []) (by rw [Le,Lf Mf];exact LM _)).2);have Xg:=fun (i:Nat) (hi:i<4)=>(PX.out.small i hi).open
 have h16:=fun (i:Nat) (hi:i<4)=>(PQ (SS.getD i []) (by rw [Le,Lf Mf];exact LM _)).1
 have b9:=bI.cell (Oi.out _ Oj.out) (dy PA.out PX.out.len (i:=0) Mf);have b10:=bI.cell (Oi.out _ Oj.out) (dy PA.out PX.out.len (i:=1) Mf);have b11:=bI.cell (Oi.out _ Oj.out) (dy PA.out PX.out.len (i:=2) Mf);have b12:=bI.cell (Oi.out _ Oj.out) (dy PA.out PX.out.len (i:=3) Mf);obtain ⟨s0,t0,e0,-⟩:=Xg 0 Mf;obtain ⟨s1,t1,e1,-⟩:=Xg 1 Mf;obtain ⟨s2,t2,e2,-⟩:=Xg 2 Mf;obtain ⟨s3,t3,e3,-⟩:=Xg 3 Mf;rw [h16 0 Mf] at e0;rw [h16 1 Mf] at e1;rw [h16 2 Mf] at e2;rw [h16 3 Mf] at e3;have L0:=lh (HL.out 0 Mf);have L1:=lh (HL.out 1 Mf);have L2:=lh (HL.out 2 Mf);have L3:=lh (HL.out 3 Mf);rw [e0] at b9 L0;rw [e1] at b10 L1;rw [e2] at b11 L2;rw [e3] at b12 L3;clear Xg h16 Uo PQ e0 e1 e2 e3 HL;have Ue:∀ W:World,(Instr.index 74 (.agg #[.slice s0 16 t0,.slice s1 16 t1,.slice s2 16 t2,.slice s3 16 t3]) (.int .i64 0)).run Tryz.prog W=.ok (.slice s0 16 t0) W:=fun W=>by kernel_rfl
 have OB:∀ W:World,(Instr.index 74 (.agg #[.slice s0 16 t0,.slice s1 16 t1,.slice s2 16 t2,.slice s3 16 t3]) (.int .i64 1)).run Tryz.prog W=.ok (.slice s1 16 t1) W:=fun W=>by kernel_rfl
 have hx2:∀ W:World,(Instr.index 74 (.agg #[.slice s0 16 t0,.slice s1 16 t1,.slice s2 16 t2,.slice s3 16 t3]) (.int .i64 2)).run Tryz.prog W=.ok (.slice s2 16 t2) W:=fun W=>by kernel_rfl
 have hx3:∀ W:World,(Instr.index 74 (.agg #[.slice s0 16 t0,.slice s1 16 t1,.slice s2 16 t2,.slice s3 16 t3]) (.int .i64 3)).run Tryz.prog W=.ok (.slice s3 16 t3) W:=fun W=>by kernel_rfl
 go_wp2_with fail;go_loopw [43] (fun i wr=>∃ k:Nat,k<=4/\i=.int .i64 k/\Hid (ae [] w2 wr)) (fun i _=>4-(intOf i).toNat)
 case atStart=>exact ⟨0,Mf,rfl,lh (ae.refl _ _)⟩
 case round =>
  obtain ⟨k,hk,rfl,MW⟩:=hrel;rcases (by omega:k=0\/k=1\/k=2\/k=3\/k=4) with rfl | rfl | rfl | rfl | rfl
  ·go_wp2_with fail
   go_at_call 141;refine (L0.out _ MW.out).mono ?_;rintro e w3 ⟨rfl,Nb⟩;have Nf:=lh (MW.out.q Nb);clear Nb;go_wp2_with fail;exact ⟨⟨1,Mf,Mm,Nf⟩,by simp [intOf]⟩
  ·go_wp2_with fail
   go_at_call 141;refine (L1.out _ MW.out).mono ?_;rintro e w3 ⟨rfl,Nb⟩;have Nf:=lh (MW.out.q Nb);clear Nb;go_wp2_with fail;exact ⟨⟨2,Mf,Mm,Nf⟩,by simp [intOf]⟩
  ·go_wp2_with fail
   go_at_call 141;refine (L2.out _ MW.out).mono ?_;rintro e w3 ⟨rfl,Nb⟩;have Nf:=lh (MW.out.q Nb);clear Nb;go_wp2_with fail;exact ⟨⟨3,Mf,Mm,Nf⟩,by simp [intOf]⟩
  ·go_wp2_with fail
   go_at_call 141;refine (L3.out _ MW.out).mono ?_;rintro e w3 ⟨rfl,Nb⟩;have Nf:=lh (MW.out.q Nb);clear Nb;go_wp2_with fail;exact ⟨⟨4,Mf,Mm,Nf⟩,by simp [intOf]⟩
  ·go_wp2_with fail
   exact MM.out _ _ ⟨rfl,Na.out.q MW.out⟩):p:=h
theorem Ia {p:Prop} (h:p:=by
 simp only at hlg;have HL:=lh (pT (PX.out.large.quiet Na.out) 64 (.inr rfl) hlg.1 hlg.2);have b8:=bI.cell (Oi.out _ Oj.out) (jL PA.out);clear hlg;go_wp2_with fail;go_at_call 141;refine HL.out.mono ?_;rintro e w3 ⟨rfl,Nb⟩;have Nf:=lh (Na.out.q Nb);clear Nb;go_wp2_with fail;exact MM.out _ _ ⟨rfl,Nf.out⟩):p:=h
theorem Hy {p:Prop} (h:p:=by
 go_enter Tryz.func77,Tryz.ntmps77
 go_wp2_with (first | (refine az rfl (.tmp 3) 76 rfl rfl HB.out NY.out rfl HI.out ?_) | fail)
 go_at_call 140;refine (Vj.out _).mono ?_;rintro e w2 ⟨rfl,MV⟩;have Na:=lh (HQ.out.q MV);have Oj:=lh (MV.row HB.out);clear MV b0 Vj;have b0:=bI.cell (Oi.out _ Oj.out) ib;have hlg:=HS.out.large (.inr rfl);exact Ia):p:=h
theorem AE {key:Bool} {lo hi:Nat} {s:SqD} {lv:Value} {vs:List Value} {w:World} (hs:gC key s) (MX:dU lo hi w lv vs s.large s.small) (NV:s.modes.length=4) :
  Calls Tryz.prog 77 #[.bool key,.agg (sqL s.kind s.mode s.modes s.vx s.vy lv vs).toArray] w fun e w'=>e=.returned .nilIface/\ae [] w w':=by
 refine aN fun Q MM=>?_
 have Vj:=lh (fun (W:World)=>yy (w:=W) (lv:=lv) hs NV MX.len);obtain ⟨kd,mo,ms,vx,vy,LL,SS⟩:=s;simp only at NV Vj MX |-
 have XG:kd=0\/kd=1\/kd=2\/kd=3:=by have:=hs.kind;simp only at this;omega
 have Un:=hs.key_;simp only at Un;obtain ⟨CA,Rx⟩:∃ z,z=(sqL (kd:Int) (mo:Int) ms vx vy lv vs).toArray:=⟨_,rfl⟩
 have Oi:Hid (∀ wx:World,wx.heap[w.heap.size]?=some (.cells CA 76 (0,0))->bI w.heap.size wx kd mo ms vx vy lv vs):=lh (fun wx h=>by rw [Rx] at h;exact h);have HI:=lh (ia (k:=(kd:Int)) (mo:=(mo:Int)) (vx:=vx) (vy:=vy) (lv:=lv) NV MX.len);rw [<- Rx] at Vj HI |-
 clear Rx;have NY:=lh Tryz.underlying76;have HB:=lh (heap_alloc_new w (.cells CA 76));have HQ:=lh (ae.new w (.cells CA 76));have HS:=lh hs;have PA:=lh NV;have PX:=lh MX;have b0:=bI.cell (Oi.out _ HB.out) ib;clear hs MX NV;have QS:key=true->kd=2\/kd=3:=fun h=>by have:=Un h;omega
 clear Un;rcases XG with rfl | rfl | rfl | rfl
 ·cases key with
  | true=>exact absurd (QS rfl) Mn
  | false =>
   clear QS;go_enter Tryz.func77,Tryz.ntmps77
   go_wp2_with (first | (refine az rfl (.tmp 3) 76 rfl rfl HB.out NY.out rfl HI.out ?_) | fail)
   go_at_call 140;refine (Vj.out _).mono ?_;rintro e w2 ⟨rfl,MV⟩;have Na:=lh (HQ.out.q MV);have Oj:=lh (MV.row HB.out);clear MV b0 Vj;have b0:=bI.cell (Oi.out _ Oj.out) ib;go_wp2_with fail;exact MM.out _ _ ⟨rfl,Na.out⟩
 ·cases key with
  | true=>exact absurd (QS rfl) Mn
  | false =>
   clear QS;go_enter Tryz.func77,Tryz.ntmps77
   go_wp2_with (first | (refine az rfl (.tmp 3) 76 rfl rfl HB.out NY.out rfl HI.out ?_) | fail)
   go_at_call 140;refine (Vj.out _).mono ?_;rintro e w2 ⟨rfl,MV⟩;have Na:=lh (HQ.out.q MV);have Oj:=lh (MV.row HB.out);clear MV b0 Vj;have b0:=bI.cell (Oi.out _ Oj.out) ib;have hlg:=HS.out.large (.inl rfl);exact Ia
 ·clear QS
  cases key with
  | true =>
   exact Hy
  | false =>
   exact Hy
 ·clear QS
  cases key with
  | true =>
   exact Hu
  | false =>
   exact Hu
end
theorem sV (R:Nat) (w:World):(Instr.typeAssert (wv R) 150 224 true).run Tryz.prog w=.ok (.tuple #[.pointer none,.bool false]) w:=Mh
section
theorem Bc (R:Nat) (w:World):Calls Tryz.prog 76 #[wv R] w fun e w'=>e=.returned (.bool false)/\w=w':=by
 have ha:=sV R w;go_enter Tryz.func76,Tryz.ntmps76;go_wp2;go_ret;exact ⟨rfl,rfl⟩
theorem uA {key:Bool} {s:SqD} (h:gC key s) (m:Wrt):(di wrC key (df s) m).2=(cf wrC (df s) s.kind (bK wrC key s.kind m).2).2:=by
 have hk:=lG (key:=key) (k:=(s.kind:Int)) Mf (by have:=h.kind;omega) (fun e=>by have:=h.key_ e;omega) m;unfold di;show (match (cf wrC (df s) (bK wrC key (s.kind:Int) m).1 (bK wrC key (s.kind:Int) m).2).1 with
  | .error e=>(Except.error (inD lW (bK wrC key (s.kind:Int) m).1 e),(cf wrC (df s) (bK wrC key (s.kind:Int) m).1 (bK wrC key (s.kind:Int) m).2).2)
  | .ok s'=>(Except.ok s',(cf wrC (df s) (bK wrC key (s.kind:Int) m).1 (bK wrC key (s.kind:Int) m).2).2)).2=_
 have e:(bK wrC key (s.kind:Int) m).1=s.kind:=Mf;rw [e]
 split <;> rfl
theorem yQ (key:Bool) (k:Int) {n:Nat} {m:Wrt} (h:WOk n m):WOk (n+3) (bK wrC key k m).2:=by
 unfold bK;cases key with
 | true=>exact (jO _ h).le Mf
 | false=>exact (lu (f:=fun n=>min n 63) (fun i=>Mf) _ 3 0 h).1
theorem Ca {p:Prop} (h:p:=by
 have HP7:=lh hp7;have HR7:=lh Xj.1;clear hp6 hp7 ha6 Xb hr6 Xj Zs;go_wp2_with fail;go_meet;exact ⟨F6,_,HP7,HR7,lh rfl⟩):p:=h
theorem yT {base R E lo hi n:Nat} {F:List Nat} {w:World} {m:Wrt} {key:Bool} {s:SqD} {lv:Value} {vs:List Value} (hA:(pcWrite base R E).At F w m) (hs:gC key s) (MX:dU lo hi w lv vs s.large s.small) (NV:s.modes.length=4) (hF:∀ x∈F,x<lo\/hi<=x) (hw:hi<=w.heap.size) (ok:WOk n m) (hn:n<=90000000) :
  Calls Tryz.prog 32 #[wv R,.bool key,.agg (sqL s.kind s.mode s.modes s.vx s.vy lv vs).toArray] w fun e w'=>((∃ v,e=.returned v)/\∃ F',(pcWrite base R E).At F' w' (di wrC key (df s) m).2/\bw F w F' w'):=by
 refine aN fun Q MM=>?_
 have hF0:∀ x∈F,x<w.heap.size:=fun x hx=>(pcWrite base R E).lt hA x hx
 have Pe:base<=w.heap.size:=(pcWrite base R E).base_le hA;have Tm:=uA hs m;rw [Tm] at MM;have hkv:=lG (key:=key) (k:=(s.kind:Int)) Mf (by have:=hs.kind;omega) (fun e=>by have:=hs.key_ e;omega) m;have Qd:=hs.kind;have NK:=hs.key_;have HI:=lh (ia (k:=(s.kind:Int)) (mo:=(s.mode:Int)) (vx:=s.vx) (vy:=s.vy) (lv:=lv) NV MX.len);have HCk:=lh (fun (W:World) (o:ae [] w W)=>AE hs (MX.only o Mg) NV);have HWp:=lh (fun (W:World) (F:List Nat) (m:Wrt) (O n:Nat) (hA:(pcWrite base R E).At F W m) (MX:dU lo hi W lv vs s.large s.small) (hF:∀ x∈F,x<lo\/hi<=x) (hw:hi<=W.heap.size) (ho:bI O W s.kind 0 [0,0,0,0] 0 0 aj [aj,aj,aj,aj]) (hOb:base<=O) (hOF:O∉F) (hOl:O<lo\/hi<=O) (ok:WOk n m) (hn:n<=100000000)=>Bb hA hs MX NV hF hw ho hOb hOF hOl ok hn);have Nc:=lh ok;have PR:=lh (yQ key (s.kind:Int) ok);have PX:=lh MX;have HF:=lh hF;have HA:=lh hA;have HNm:=lh (And.intro hw (And.intro hF0 Pe));obtain ⟨kd,hkd⟩:∃ z,z=s.kind:=⟨_,rfl⟩
 rw [<- hkd] at MM hkv Qd NK PR;obtain ⟨CA,Rx⟩:∃ z,z=(sqL (s.kind:Int) (s.mode:Int) s.modes s.vx s.vy lv vs).toArray:=⟨_,rfl⟩
 have OY:Hid (∀ wx:World,wx.heap[w.heap.size]?=some (.cells CA 76 (0,0))->wx.cell? ⟨w.heap.size,0,none⟩=some (.int .i64 kd)):=lh (fun wx h=>by rw [Rx] at h;rw [hkd];exact bI.cell h ib);rw [<- Rx] at HI HCk HWp |-
 rw [<- hkd] at HWp;have NY:=lh Tryz.underlying76;have Na:Hid (ae [] w ((w.alloc (.cells CA 76)).alloc (.cells #[(),(),(),(),(),(),(),(),JEu,JEu,JEu,JEu,JEu] 76))):=lh ((ae.new w _).alloc _);have Oj:Hid (((w.alloc (.cells CA 76)).alloc (.cells #[(),(),(),(),(),(),(),(),JEu,JEu,JEu,JEu,JEu] 76)).heap[w.heap.size]?=some (.cells CA 76 (0,0))):=lh ((ae.new (w.alloc _) _).row (heap_alloc_new w _));have HT2:Hid (bI (w.heap.size+1) ((w.alloc (.cells CA 76)).alloc (.cells #[(),(),(),(),(),(),(),(),JEu,JEu,JEu,JEu,JEu] 76)) 0 0 [0,0,0,0] 0 0 aj [aj,aj,aj,aj]):=lh (ak Mg);have Vo:Hid (((w.alloc (.cells CA 76)).alloc (.cells #[(),(),(),(),(),(),(),(),JEu,JEu,JEu,JEu,JEu] 76)).heap.size=w.heap.size+1+1):=lh Mg;clear hA hs MX NV hF hw ok hF0 Pe Tm Rx hkd;go_enter Tryz.func32,Tryz.ntmps32;go_wp2_with fail;generalize Tg:World.alloc (World.alloc w _) _=W2 at *
 clear Tg;go_at_call 76;refine (Bc R W2).mono ?_;rintro e w3 ⟨rfl,hw3⟩;subst hw3
 go_wp2_with (first | (refine az rfl (.tmp 5) 76 rfl rfl Oj.out NY.out rfl HI.out ?_) | fail)
 go_at_call 77;refine (HCk.out W2 Na.out).mono ?_;rintro e w4 ⟨rfl,Ng⟩;have NI:=lh (Na.out.q Ng);have Zc:=lh (Ng.row Oj.out);have HT4:=lh (Ng.row HT2.out);have Xz:Hid (w.heap.size+1+1<=w4.heap.size):=lh (by have:=Ng.size;have:=Vo.out;omega);clear Ng Oj HT2 Vo Na HCk
 go_upto_block 2 with (fail)
 have Sx:=lh (heap_alloc_new w4 (.cells (sqL 0 0 [0,0,0,0] 0 0 aj [aj,aj,aj,aj]).toArray 76));have Nz:=lh (ae.new w4 (.cells (sqL 0 0 [0,0,0,0] 0 0 aj [aj,aj,aj,aj]).toArray 76));have hw5:w4.alloc (.cells #[(),(),(),(),(),(),(),(),JEu,JEu,JEu,JEu,JEu] 76)=w4.alloc (.cells (sqL 0 0 [0,0,0,0] 0 0 aj [aj,aj,aj,aj]).toArray 76):=rfl;rw [hw5];clear hw5;have SK:Hid (w4.heap.size<(w4.alloc (.cells (sqL 0 0 [0,0,0,0] 0 0 aj [aj,aj,aj,aj]).toArray 76)).heap.size):=lh Mg;generalize World.alloc w4 _=W5 at *
 have RU:Hid (ae [] w W5):=lh (NI.out.q Nz.out);have Xs:=lh (Nz.out.row Zc.out);have HT5:=lh (Nz.out.row HT4.out);clear NI Nz Zc HT4;obtain ⟨O,hO⟩:∃ z,z=w4.heap.size:=⟨_,rfl⟩
 rw [<- hO] at Sx Xz SK |-
 clear hO;have HOF:Hid (O∉F):=lh (fun h=>by have:=HNm.out.2.1 O h;have:=Xz.out;omega);have Xw:Hid (PSt base R E O F W5 W5 F m):=lh ⟨(pcWrite base R E).only HA.out RU.out Mg,bI.q Sx.out rfl rfl rfl iP,HOF.out,bw.refl _ _,SK.out,by have:=HNm.out.2.2;have:=Xz.out;omega⟩;have HN5:Hid (w.heap.size∉O :: F/\w.heap.size+1∉O :: F):=lh (by
  have h1:=Xz.out
  constructor <;> (intro h;rcases List.mem_cons.1 h with h | h;omega;have:=HNm.out.2.1 _ h;omega))
 have b0:=OY.out _ Xs.out;go_cut [] (fun wx=>∃ (F6:List Nat) (m6:Wrt),Hid (PSt base R E O F W5 wx F6 m6)/\Hid (bI O wx kd 0 [0,0,0,0] 0 0 aj [aj,aj,aj,aj])/\Hid ((bK wrC key (kd:Int) m).2=m6))
 case first =>
  cases key with
  | false =>
   have HM:=lh (DX (pcWrite base R E) Xw.out.at_ (v:=(kd:Int)) Mf Nc.out Mf);go_wp2_with fail;go_at_call 78;refine HM.out.mono ?_;rintro e w6 ⟨rfl,F6,ha6,Xb⟩;have hp6:=Xw.out.call ha6 Xb;have Jpo:((kx wrC (kd:Int) m).1:Int)=(kd:Int):=hkv;simp only;rw [Jpo];obtain ⟨hp7,⟨u7,x7⟩,y7,Zs⟩:=hp6.store (i:=0) Mf (v:=.int .i64 (kd:Int)) rfl;have hr6:bI O w6 0 0 [0,0,0,0] 0 0 aj [aj,aj,aj,aj]:=Xb.1.rowAt Sx.out HOF.out;have Xj:=hr6.set (i:=0) (sg (kd:Int));have HP7:=lh hp7;have HR7:=lh Xj.1;clear hp6 hp7 ha6 Xb Jpo hr6 Xj Zs;go_wp2_with fail;go_meet;exact ⟨F6,_,HP7,HR7,lh rfl⟩
  | true =>
   have Un:kd=2\/kd=3:=by have:=NK rfl;omega
   have mf:=FV R;have nf:=Gc R;have Qu:=lh (fun (b:Bool)=>(pcWrite base R E).flat b Xw.out.at_ Nc.out Mf);rcases Un with rfl | rfl
   ·go_wp2_with fail
    go_at_call 255;refine (Qu.out false).mono ?_;rintro e w6 ⟨rfl,F6,ha6,Xb⟩;have hp6:=Xw.out.call ha6 Xb;obtain ⟨hp7,⟨u7,x7⟩,y7,Zs⟩:=hp6.store (i:=0) Mf (v:=.int .i64 2) rfl;have hr6:bI O w6 0 0 [0,0,0,0] 0 0 aj [aj,aj,aj,aj]:=Xb.1.rowAt Sx.out HOF.out;have Xj:=hr6.set (i:=0) (sg 2);exact Ca
   ·go_wp2_with fail
    go_at_call 255;refine (Qu.out true).mono ?_;rintro e w6 ⟨rfl,F6,ha6,Xb⟩;have hp6:=Xw.out.call ha6 Xb;obtain ⟨hp7,⟨u7,x7⟩,y7,Zs⟩:=hp6.store (i:=0) Mf (v:=.int .i64 3) rfl;have hr6:bI O w6 0 0 [0,0,0,0] 0 0 aj [aj,aj,aj,aj]:=Xb.1.rowAt Sx.out HOF.out;have Xj:=hr6.set (i:=0) (sg 3);exact Ca
 case rest =>
  obtain ⟨F6,m6,HP6,HR6,Hm6⟩:=hcut;obtain ⟨W6,hW6⟩:∃ z,z=wc:=⟨_,rfl⟩
  subst hW6;rw [Hm6.out] at MM PR;clear Xw Sx b0 hkv NK;have HB6:=lh (HP6.out.keep Xs.out HN5.out.1);have HT6:=lh (HP6.out.keep HT5.out HN5.out.2);have ST:Hid (O<lo\/hi<=O):=lh (.inr (by have:=HNm.out.1;have:=Xz.out;omega));have JrR:Hid (dU lo hi W6 lv vs s.large s.small):=lh ((PX.out.only RU.out Mg).only HP6.out.went.1 (fun g hg=>by
   rcases List.mem_cons.1 hg with rfl | hg
   ·exact ST.out
   ·exact HF.out g hg))
  have HF6:Hid (∀ x∈F6,x<lo\/hi<=x):=lh (fun x hx=>by
   rcases HP6.out.went.2 x (Lx _ hx) with h1 | h1
   ·rcases List.mem_cons.1 h1 with rfl | h1
    ·exact ST.out
    ·exact HF.out x h1
   ·exact .inr (by have:=HNm.out.1;have:=RU.out.size;omega))
  have HPt:=lh (HWp.out W6 F6 m6 O (n+3) HP6.out.at_ JrR.out HF6.out (by have:=HNm.out.1;have:=RU.out.size;have:=HP6.out.size;omega) HR6.out HP6.out.lt.2 HP6.out.out ST.out PR.out Mf)
  go_wp2_with (first | (refine az rfl (.tmp 5) 76 rfl rfl HB6.out NY.out rfl HI.out ?_) | fail)
  go_at_call 79;refine HPt.out.mono ?_;rintro e w7 ⟨rfl,F7,ha7,JuC,hO7,Qm⟩;obtain ⟨C,hC,hCs,hC1⟩:=JuC;have Jof:C.all (·.oneCell')=true:=by rw [Array.all_eq_true];exact hC1
  have HCr:=lh hC;have HIc:Hid ((Tryz.prog.info? 76).map (·.size)=some C.size):=lh (by rw [hCs];kernel_rfl);have PV:=lh Jof;have HT7:=lh (Qm.1.rowAt HT6.out (fun h=>by
   rcases List.mem_cons.1 h with h | h
   ·exact HN5.out.2 (by rw [h];exact List.mem_cons_self ..)
   ·rcases HP6.out.went.2 _ (Lx _ h) with h1 | h1
    ·exact HN5.out.2 h1
    ·have:=Xz.out;have:=SK.out;omega))
  have HCz:Hid ((sqL 0 0 [0,0,0,0] 0 0 aj [aj,aj,aj,aj]).toArray.size=C.size):=lh (by rw [hCs];rfl);have hT:w.heap.size+1∉F7:=fun h=>by
   rcases Qm.2 _ (Lx _ h) with h1 | h1
   ·rcases List.mem_cons.1 h1 with h1 | h1
    ·exact HN5.out.2 (by rw [h1];exact List.mem_cons_self ..)
    ·rcases HP6.out.went.2 _ (Lx _ h1) with h2 | h2
     ·exact HN5.out.2 h2
     ·have:=Xz.out;have:=SK.out;omega
   ·have:=HP6.out.size;have:=Xz.out;have:=SK.out;omega
  have Sg:=lh (ae.setRow (S:=[w.heap.size+1]) (ae.refl _ w7) (g:=w.heap.size+1) (fun _=>Mg) C);have RB:=lh (show (w7.setRow (w.heap.size+1) C).heap[w.heap.size+1]?=some (.cells C 76 (0,0)) from setRow_heap w7 (w.heap.size+1) _ _ _ _ HT7.out);have Rh:Hid (∃ F',(pcWrite base R E).At F' (w7.setRow (w.heap.size+1) C) (cf wrC (df s) kd m6).2/\bw F w F' (w7.setRow (w.heap.size+1) C)):=lh ⟨F7,(pcWrite base R E).only ha7 Sg.out (fun g hg=>by rw [mSg] at hg;subst hg;exact ⟨by have:=HNm.out.2.2;show base<=_;omega,hT⟩),by
   have NQ:=(HP6.out.went.trans Qm)
   refine ⟨(RU.out.trans NQ.1 (U:=F) Mg (fun g hg MO=>?_)).trans Sg.out (U:=F) (fun _ h _=>h) (fun g hg MO=>Mj),fun g hg=>?_⟩
   ·rcases List.mem_cons.1 hg with h | h
    ·have:=Xz.out;omega
    ·exact h
   ·rcases NQ.2 g (Lx _ hg) with h | h
    ·rcases List.mem_cons.1 h with h | h
     ·exact absurd hg (by rw [h];exact hO7)
     ·exact .inl h
    ·exact .inr (by have:=RU.out.size;omega)⟩
  clear hC hCs hC1 Jof ha7 hO7 Qm hT
  go_wp2_with (first
   | (refine az rfl (.tmp 10) 76 rfl rfl HCr.out NY.out rfl HIc.out ?_)
   | (refine aq rfl (.tmp 6) (.tmp 57) 76 rfl rfl rfl HT7.out HIc.out HCz.out PV.out ?_)
   | fail)
  exact bodyPost_ret (v:=.tuple #[.agg C,.nilIface]) (dM Tryz.results32 _ _ (w.heap.size+1) _ _ _ _ _ rfl rfl RB.out NY.out rfl HIc.out) rfl (MM.out _ _ ⟨⟨_,rfl⟩,Rh.out⟩)
end
end Go.Proofs.YthcafdfdglfabaaGreatDoor
