/- Joined texts: EPart, EChk, ECodW. Conditions: each part names its own. -/
import Derived.Test.YthcafdfdglfabaaGreatDoorW5
import Derived.Deep.CutBlock
namespace Go.Proofs.YthcafdfdglfabaaGreatDoor
open Tryz
open Go.RowKit
set_option linter.unusedVariables false
set_option linter.unusedSimpArgs false
set_option maxRecDepth 100000
set_option maxHeartbeats 16000000
abbrev wv (R:Nat):Value:=.iface 69 (.pointer R)
def rO (O:Nat) (w:World):Prop:=∃ C:Array Value,w.heap[O]?=some (.cells C 76)/\C.size=13/\∀ (i:Nat) (h:i<C.size),C[i].oneCell'=true
theorem rO.quiet {O:Nat} {w w':World} (h:rO O w) (o:ae [] w w'):rO O w':=by
 obtain ⟨C,h1,D⟩:=h;exact ⟨C,o.row h1,D⟩
theorem rO.went {O:Nat} {F F':List Nat} {w w':World} (h:rO O w) (o:bA F w F' w') (E:O∉F):rO O w':=by
 obtain ⟨C,h1,D⟩:=h;exact ⟨C,o.1.rowAt h1 E,D⟩
theorem rO.set {O:Nat} {w:World} (h:rO O w) {i:Nat} (hi:i<13) {v:Value} (I:v.oneCell'=true):rO O (w.setCell ⟨O,i,none⟩ v)/\ae [O] w (w.setCell ⟨O,i,none⟩ v)/\(∃ u,w.cell? ⟨O,i,none⟩=some u)/\w.frozen? ⟨O,i,none⟩=false:=by
 obtain ⟨C,h1,D,E⟩:=h;refine ⟨⟨_,WG w O i _ _ v h1,by simpa using D,fun j F=>?_⟩,(AY).setCell Qb _,⟨C[i]'Qa,by rw [RG h1,Array.getElem?_eq_getElem Qa]⟩,Sz _ _ _ _ _ h1⟩;rw [Array.getElem_setIfInBounds]
 split
 ·exact I
 ·exact E j (by simpa using F)
theorem bI.q {O:Nat} {w:World} {k mo:Int} {ms:List Int} {vx vy:Int} {lv:Value} {vs:List Value} (h:bI O w k mo ms vx vy lv vs) (E:ms.length=4) (I:vs.length=4) (D:lv.oneCell'=true) (F:∀ v∈vs,v.oneCell'=true):rO O w:=by
 have h1:=eh (k:=k) (mo:=mo) (ms:=ms) (vx:=vx) (vy:=vy) D F;rw [Array.all_eq_true] at h1;exact ⟨_,h,by rw [List.size_toArray,kS E I],h1⟩
section
variable {base R E:Nat} {F:List Nat} {w:World} {m:i9} {n:Nat}
theorem qW {side lo' hi':Nat} (J:side=4\/side=8) {lv:Value} {l:List Int} (h:(pcWrite base R E).At F w m) (N:aj .i64 lo' hi' w lv l) (D:l.length=side*side) (I:cE l) (M:∀ x∈F,x<lo'\/hi'<=x) (V:hi'<=w.heap.size) (ok:l5 n m) (O:n<=600000000) :
  Calls prog 144 #[wv R,lv] w fun e w'=>∃ g cap F',e=.returned (.tuple #[.slice (some ⟨g,0,none⟩) (side*side) cap,.nilIface])/\(pcWrite base R E).At F' w' (aR i6 side l m).2/\bA F w F' w':=by
 have hv:=jF J D I m;have L:∀ e w',lO (pcWrite base R E) F w (aR i6 side l m) e w'->∃ g cap F',e=.returned (.tuple #[.slice (some ⟨g,0,none⟩) (side*side) cap,.nilIface])/\(pcWrite base R E).At F' w' (aR i6 side l m).2/\bA F w F' w':=by
  intro e w' h;unfold lO at h;rw [hv] at h;obtain ⟨F',h1,Y,v',rfl,Z,-⟩:=h;obtain ⟨g,cap,rfl,-,-⟩:=Z.form (by rw [D];rcases J with rfl | rfl <;> omega);rw [D];exact ⟨g,cap,F',rfl,h1,Y⟩
 rcases J with rfl | rfl
 ·exact (Dx (pcWrite base R E) h N D I M V (fun a ha c m e=>by have e2:decide (l.getD a 0≠0)=false:=e;simpa using e2) ok O).mono L
 ·exact (Dy (pcWrite base R E) h N D I M V (fun a ha c m e=>by have e2:decide (l.getD a 0≠0)=false:=e;simpa using e2) ok O).mono L
structure A1 (base R E O:Nat) (F:List Nat) (w0 w:World) (F':List Nat) (m:i9):Prop where
 at_:(pcWrite base R E).At F' w m
 row:rO O w
 out:O∉F'
 went:bA (O :: F) w0 (O :: F') w
 lt:O<w0.heap.size/\base<=O
theorem bA.cons {O:Nat} {F F':List Nat} {w w':World} (h:bA F w F' w'):bA (O :: F) w (O :: F') w' :=
 ⟨h.1.mono (fun g D _=>Pv _ D),fun g D=>by
  rcases Zb.1 D with rfl | D
  ·exact .inl (VY ..)
  ·exact (h.2 g D).imp_left (Pv _)⟩
section
variable {O:Nat} {w0 w':World} {F1 F2:List Nat} {m':i9}
theorem A1.size (h:A1 base R E O F w0 w F1 m):w0.heap.size<=w.heap.size:=h.went.1.size
theorem A1.call (h:A1 base R E O F w0 w F1 m) (a:(pcWrite base R E).At F2 w' m') (g:bA F1 w F2 w'):A1 base R E O F w0 w' F2 m' :=
 ⟨a,h.row.went g h.out,fun D=>by
  rcases g.2 O D with h1 | h1
  ·exact h.out h1
  ·have:=h.size;have:=h.lt.1;omega,h.went.trans g.cons,h.lt⟩
theorem A1.store (h:A1 base R E O F w0 w F1 m) {i:Nat} (hi:i<13) {v:Value} (I:v.oneCell'=true):A1 base R E O F w0 (w.setCell ⟨O,i,none⟩ v) F1 m/\(∃ u,w.cell? ⟨O,i,none⟩=some u)/\w.frozen? ⟨O,i,none⟩=false/\ae [O] w (w.setCell ⟨O,i,none⟩ v):=by
 obtain ⟨a,b,c,d⟩:=h.row.set hi I;refine ⟨⟨(pcWrite base R E).only h.at_ b (fun g D=>by rw [i5] at D;subst D;exact ⟨h.lt.2,h.out⟩),a,h.out,h.went.trans ⟨b.mono (fun g D _=>by rw [i5] at D;subst D;exact VY ..),fun g D=>.inl D⟩,h.lt⟩,c,d,b⟩
theorem A1.quiet (h:A1 base R E O F w0 w F1 m) (o:ae [] w w'):A1 base R E O F w0 w' F1 m :=
 ⟨(pcWrite base R E).only h.at_ o Qb,h.row.quiet o,h.out,h.went.q o,h.lt⟩
theorem A1.keep (h:A1 base R E O F w0 w F1 m) {g:Nat} {o:Obj} (D:w0.heap[g]?=some o) (I:g∉O :: F):w.heap[g]?=some o:=h.went.1.rowAt D I
end
theorem wI (q:rN) (m:i9):(cz i6 q 2 m).2=(aR i6 8 q.large (bO i6 q.mode m).2).2:=by
 unfold cz;rw [if_neg Ql,if_neg Ql,if_neg Ql]
 split <;> rfl
theorem wH (q:rN) (m:i9):(cz i6 q 1 m).2=(aR i6 8 q.large (bT i6 q.vy (bT i6 q.vx m).2).2).2:=by
 unfold cz;rw [if_neg Ql,if_neg Ql,if_pos rfl]
 split <;> rfl
theorem wJ (q:rN) (m:i9):(cz i6 q 3 m).2=(bq i6 q.modes q.small 4 [] [] m).2:=by
 unfold cz;rw [if_pos rfl]
 split <;> rfl
theorem Eh {O lo hi:Nat} {key:Bool} {s:j4} {lv:Value} {vs:List Value} (hA:(pcWrite base R E).At F w m) (hs:iH key s) (QS:ep lo hi w lv vs s.large s.small) (RQ:s.modes.length=4) (hF:∀ x∈F,x<lo\/hi<=x) (hw:hi<=w.heap.size) (ho:bI O w s.kind 0 [0,0,0,0] 0 0 ai [ai,ai,ai,ai]) (hOb:base<=O) (hOF:O∉F) (hOl:O<lo\/hi<=O) (ok:l5 n m) (hn:n<=100000000) :
  Calls prog 79 #[wv R,.agg (j1 s.kind s.mode s.modes s.vx s.vy lv vs).toArray,.pointer O] w fun e w'=>(e=.returned .nilIface/\∃ F',(pcWrite base R E).At F' w' (cz i6 (dB s) s.kind m).2/\rO O w'/\O∉F'/\bA (O :: F) w (O :: F') w'):=by
 refine aK fun Q QF=>?_
 have HF0:=lh (show ∀ x∈F,x<w.heap.size from fun x hx=>(pcWrite base R E).lt hA x hx);have QH:=(l8.1 ho).1;have QO:=lh (ae.new w (.cells (j1 s.kind s.mode s.modes s.vx s.vy lv vs).toArray 76));have D:Hid ((w.alloc (.cells (j1 s.kind s.mode s.modes s.vx s.vy lv vs).toArray 76)).heap[w.heap.size]?=some (.cells (j1 s.kind s.mode s.modes s.vx s.vy lv vs).toArray 76)):=Sd w _;have SD:=lh (QO.out.row ho);have Sa:=lh ((pcWrite base R E).only hA QO.out Qb);have JrB:=lh (QS.only QO.out Qb);have HN:=lh (VL hw (VL hOb (VL hOF (VL hOl QH))));have HF:=lh hF;have HS:=lh hs;have Tv:=lh RQ;have QX:=lh ok;have UN:Hid ((w.alloc (.cells (j1 s.kind s.mode s.modes s.vx s.vy lv vs).toArray 76)).heap.size=w.heap.size+1):=lh Qb;have hrq:=bI.q SD.out rfl rfl rfl jK;have L:Hid (A1 base R E O F (w.alloc (.cells (j1 s.kind s.mode s.modes s.vx s.vy lv vs).toArray 76)) (w.alloc (.cells (j1 s.kind s.mode s.modes s.vx s.vy lv vs).toArray 76)) F m):=lh ⟨Sa.out,hrq,hOF,bA.refl _ _,Qm,hOb⟩;have k0:=bI.cell SD.out (i:=0) (x:=.int .i64 s.kind) iZ;have hk4:s.kind=0\/s.kind=1\/s.kind=2\/s.kind=3:=by have:=hs.kind;omega
 have Vu:Hid (∀ wx F' m',A1 base R E O F (w.alloc (.cells (j1 s.kind s.mode s.modes s.vx s.vy lv vs).toArray 76)) wx F' m'->(cz i6 (dB s) s.kind m).2=m'->Q (.returned .nilIface) wx):=lh (fun wx F' m' h e=>QF.out _ _ ⟨rfl,F',by rw [e];exact h.at_,h.row,h.out,bA.ahead QO.out h.went⟩);have J:Hid (w.heap.size∉O :: F):=lh (fun hm=>by
  rcases Zb.1 hm with h | h
  ·omega
  ·have:=HF0.out _ h;omega)
 have HLs:Hid (∀ wx F' m',A1 base R E O F (w.alloc (.cells (j1 s.kind s.mode s.modes s.vx s.vy lv vs).toArray 76)) wx F' m'->ep lo hi wx lv vs s.large s.small/\(∀ x∈F',x<lo\/hi<=x)/\hi<=wx.heap.size):=lh (fun wx F' m' h=>⟨JrB.out.only h.went.1 (fun g hg=>by
  rcases Zb.1 hg with rfl | hg
  ·exact hOl
  ·exact hF g hg),fun x hx=>by
   rcases h.went.2 x (Pv _ hx) with h1 | h1
   ·rcases Zb.1 h1 with rfl | h1
    ·exact hOl
    ·exact hF x h1
   ·exact .inr (by rw [UN.out] at h1;omega),by have:=h.size;rw [UN.out] at this;omega⟩)
 clear hA hs QS RQ hF hw ho hOb hOF hOl ok QH hrq SD Sa JrB HN HF HF0 QF QO;obtain ⟨kd,mo,ms,vx,vy,LL,M⟩:=s;simp only at D HS Tv k0 hk4 Vu HLs L UN;obtain ⟨CA,Vt⟩:=bu ((j1 (kd:Int) (mo:Int) ms vx vy lv vs).toArray)
 rw [<- Vt] at D k0 Vu HLs L UN;have Sg:Hid (∀ wx:World,wx.heap[w.heap.size]?=some (.cells CA 76)->bI w.heap.size wx kd mo ms vx vy lv vs):=lh (fun wx h=>by rw [Vt] at h;exact h);show Calls prog 79 #[wv R,.agg (j1 (kd:Int) (mo:Int) ms vx vy lv vs).toArray,.pointer O] w Q;rw [<- Vt];clear Vt;rcases hk4 with rfl | rfl | rfl | rfl
 ·go_enter func79,ntmps79
  go_wp2_with fail;exact Vu.out _ F m L.out rfl
 ·have Zk:=lh (HS.out.large (.inl rfl))
  obtain ⟨vx0,vx1,vy0,vy1⟩:=HS.out.vec rfl;simp only at vx0 vx1 vy0 vy1;have HM:=lh (fun w F (h:(pcWrite base R E).At F w m)=>wQ (pcWrite base R E) h (v:=vx) Qa QX.out Qa);have TH:=lh (kW vx QX.out);have Vr:=lh (wH (dB ⟨1,mo,ms,vx,vy,LL,M⟩) m);have b6:=bI.cell (Sg.out _ D.out) (i:=6) (x:=.int .i64 vx) (by obtain ⟨a,b,c,d,rfl⟩:=ix Tv.out;rfl);go_enter func79,ntmps79;go_wp2_with fail;generalize Rs:World.alloc w _=W1 at *
  clear Rs k0 b6;refine (HM.out W1 F L.out.at_).mono ?_;rintro e w2 ⟨rfl,F2,YR,Rj⟩;have V:=L.out.call YR Rj;obtain ⟨Y,⟨u3,x3⟩,y3,-⟩:=V.store (i:=6) Qa (v:=.int .i64 (bT i6 vx m).1) rfl;have N:=lh Y;have b7:=bI.cell (Sg.out _ (N.out.keep D.out J.out)) (i:=7) (x:=.int .i64 vy) (by obtain ⟨a,b,c,d,rfl⟩:=ix Tv.out;rfl);clear V Y YR Rj;obtain ⟨gm,mm,I⟩:∃ a b,bT i6 vx m=(a,b):=⟨_,_,rfl⟩
  rw [I] at N TH b7 |-
  simp only at N TH b7 |-
  have Hgm:=lh I;clear I;go_wp2_with fail;clear x3 y3 b7;generalize Tb:World.setCell w2 _ _=W3 at *
  clear Tb;have HM4:=lh (wQ (pcWrite base R E) N.out.at_ (v:=vy) Qa TH.out Qa);have JaD:=lh (kW vy TH.out);refine HM4.out.mono ?_;rintro e w4 ⟨rfl,F4,ha4,hg4⟩;have hp4:=N.out.call ha4 hg4;obtain ⟨hp5,⟨u5,x5⟩,y5,-⟩:=hp4.store (i:=7) Qa (v:=.int .i64 (bT i6 vy mm).1) rfl;have Z:=lh hp5;have b8:=bI.cell (Sg.out _ (Z.out.keep D.out J.out)) (kR Tv.out);clear hp4 hp5 ha4 hg4;obtain ⟨gn,mn,YX⟩:∃ a b,bT i6 vy mm=(a,b):=⟨_,_,rfl⟩
  rw [YX] at Z JaD b8 |-
  simp only at Z JaD b8 |-
  have Hgn:=lh YX;clear YX;go_wp2_with fail;clear x5 y5 b8;generalize ZI:World.setCell w4 _ _=W5 at *
  clear ZI;obtain ⟨hi8,hf8,hw8⟩:=HLs.out _ _ _ Z.out;refine (qW (side:=8) (.inr rfl) Z.out.at_ hi8.large Zk.out.1 Zk.out.2 hf8 hw8 JaD.out Qa).mono ?_;rintro e w8 ⟨g8,c8,F8,rfl,ha8,UE⟩;have hp8:=Z.out.call ha8 UE;obtain ⟨hp9,⟨u9,x9⟩,y9,-⟩:=hp8.store (i:=8) Qa (v:=.slice g8 (8*8) c8) rfl;rw [show (8*8:Nat)=64 from rfl] at hp9 |-
  have HP9:=lh hp9;clear hp8 hp9 ha8 UE hi8 hf8 hw8;go_wp2_with fail;refine Vu.out _ _ _ HP9.out ?_;rw [Vr.out];show (aR i6 8 LL (bT i6 vy (bT i6 vx m).2).2).2=_;rw [Hgm.out];simp only;rw [Hgn.out]
 ·have Zk:=lh (HS.out.large (.inr rfl))
  have ZL:=HS.out.mode rfl;simp only at ZL;have HM:=lh (fun w F (h:(pcWrite base R E).At F w m)=>wN (pcWrite base R E) h (v:=(mo:Int)) Qa QX.out Qa);have TH:=lh (kV (mo:Int) QX.out);have Xd:=wI (dB ⟨2,mo,ms,vx,vy,LL,M⟩) m;have Vr:=lh Xd;clear Xd;have b1:=bI.cell (Sg.out _ D.out) (i:=1) (x:=.int .i64 mo) rfl;go_enter func79,ntmps79;go_wp2_with fail;generalize Rs:World.alloc w _=W1 at *
  clear Rs k0 b1;refine (HM.out W1 F L.out.at_).mono ?_;rintro e w2 ⟨rfl,F2,YR,Rj⟩;have V:=L.out.call YR Rj;obtain ⟨Y,⟨u3,x3⟩,y3,-⟩:=V.store (i:=1) Qa (v:=.int .i64 ((bO i6 (mo:Int) m).1:Int)) rfl;have N:=lh Y;have b8:=bI.cell (Sg.out _ (N.out.keep D.out J.out)) (kR Tv.out);clear V Y YR Rj;obtain ⟨gm,mm,I⟩:∃ a b,bO i6 (mo:Int) m=(a,b):=⟨_,_,rfl⟩
  rw [I] at N TH b8 |-
  simp only at N TH b8 |-
  have Hgm:=lh I;clear I;go_wp2_with fail;clear x3 y3 b8;generalize Tb:World.setCell w2 _ _=W3 at *
  clear Tb;obtain ⟨hi8,hf8,hw8⟩:=HLs.out _ _ _ N.out;refine (qW (side:=8) (.inr rfl) N.out.at_ hi8.large Zk.out.1 Zk.out.2 hf8 hw8 TH.out Qa).mono ?_;rintro e w8 ⟨g8,c8,F8,rfl,ha8,UE⟩;have hp8:=N.out.call ha8 UE;obtain ⟨hp9,⟨u9,x9⟩,y9,-⟩:=hp8.store (i:=8) Qa (v:=.slice g8 (8*8) c8) rfl;rw [show (8*8:Nat)=64 from rfl] at hp9 |-
  have HP9:=lh hp9;clear hp8 hp9 ha8 UE hi8 hf8 hw8;go_wp2_with fail;refine Vu.out _ _ _ HP9.out ?_;rw [Vr.out];show (aR i6 8 LL (bO i6 (mo:Int) m).2).2=_;rw [Hgm.out]
 ·obtain ⟨-,Ym,Vb,TG⟩:=HS.out.small rfl
  simp only at Ym Vb TG;have HMs:=lh Vb;have Jyn:=lh TG;have HSl:=lh Ym;have Vr:=lh (wJ (dB ⟨3,mo,ms,vx,vy,LL,M⟩) m);have HVl:Hid (vs.length=4):=lh (HLs.out _ _ _ L.out).1.len;clear Ym Vb TG;go_enter func79,ntmps79;go_wp2_with fail;generalize Rs:World.alloc w _=W1 at *
  clear Rs k0;go_loopw [22] (fun i wr=>∃ (k nk:Nat) (Fk:List Nat) (mk:i9),k<=4/\i=.int .i64 k/\nk=n+691*k/\Hid (A1 base R E O F W1 wr Fk mk)/\Hid (l5 nk mk)/\Hid (bq i6 ms M (4-k) (ms.take k) (M.take k) mk=bq i6 ms M 4 [] [] m)) (fun i _=>4-(intOf i).toNat)
  case atStart=>exact ⟨0,n,F,m,Qa,rfl,Qa,L,QX,lh rfl⟩
  case round =>
   obtain ⟨k,nk,Fk,mk,hk,rfl,hnk,Us,JaE,Tk⟩:=hrel;by_cases QH:k<4
   ·have Rt:(k:Int)<4:=Qa
    have RA:(0:Int)<=(k:Int):=Qa;have Uv:=HMs.out (ms.getD k 0) (by have:=Tv.out;rw [Pd,Pe Qa];exact PG _);have HLk:=lh (Jyn.out (M.getD k []) (by have:=HSl.out;rw [Pd,Pe Qa];exact PG _));have HMk:=lh (fun w F (h:(pcWrite base R E).At F w mk)=>wN (pcWrite base R E) h (v:=ms.getD k 0) Uv JaE.out Qa);have TH:=lh (kV (ms.getD k 0) JaE.out);have hmv:=pN Uv.1 Uv.2 mk;obtain ⟨vk,hvk⟩:∃ z,vs.getD k ai=z:=⟨_,rfl⟩
    have b2:=bI.cell (Sg.out _ (Us.out.keep D.out J.out)) (ij Tv.out QH);have Jaj:Hid (bq i6 ms M (4-k) (ms.take k) (M.take k) mk=bq i6 ms M (4-(k+1)) (ms.take (k+1)) (M.take (k+1)) (aR i6 4 (M.getD k []) (bO i6 (ms.getD k 0) mk).2).2):=lh (by
     obtain ⟨k3,Ub⟩:∃ k3,4-k=k3+1:=⟨3-k,Qa⟩
     have l1:(ms.take k).length=k:=by have:=Tv.out;rw [Po];omega
     have l2:(M.take k).length=k:=by have:=HSl.out;rw [Po];omega
     have t1:ms.take (k+1)=ms.take k ++ [((bO i6 (ms.getD k 0) mk).1:Int)]:=by have:=Tv.out;rw [UJ Qa,hmv,Pd,Pe Qa];rfl
     have t2:M.take (k+1)=M.take k ++ [M.getD k []]:=by have:=HSl.out;rw [UJ Qa,Pd,Pe Qa];rfl
     rw [Ub,show 4-(k+1)=k3 by omega,t1,t2];have hcv:=jF (side:=4) (.inl rfl) HLk.out.1 HLk.out.2 (bO i6 (ms.getD k 0) mk).2;exact oB (C:=i6) (m:=mk) (mo:=(bO i6 (ms.getD k 0) mk).1) (m1:=(bO i6 (ms.getD k 0) mk).2) (m2:=(aR i6 4 (M.getD k []) (bO i6 (ms.getD k 0) mk).2).2) (by rw [l1]) (by rw [l2];exact Prod.ext hcv rfl))
    obtain ⟨mg,hmg⟩:∃ z,ms.getD k 0=z:=⟨_,rfl⟩
    rw [hmg] at Uv HMk TH b2 Jaj;have Hmg:=lh hmg;clear hmv hmg;go_wp2_with fail;refine Tf (S:=(fun w'=>w'.cell? ⟨w.heap.size,2+k,none⟩=some (.int .i64 mg))) Qc ?_ (fun hHeld=>?_)
    ·exact b2
    refine tk 0 25 ?_;refine tk 1 26 ?_;refine tk 2 27 ?_;refine tk 3 28 ?_;refine tk 4 29 ?_;refine tk 5 30 ?_;refine tk 6 31 ?_;refine tk 8 33 ?_;refine tk 9 34 ?_;refine j6 7 32 fun K hK=>?_
    go_simp;refine (HMk.out _ _ (Us.out.quiet (AY).drew).at_).mono ?_;rintro e w2 ⟨rfl,F2,YR,Rj⟩;have V:=(Us.out.quiet (ae.refl [] wr).drew).call YR Rj;obtain ⟨Y,⟨u3,x3⟩,y3,ZP⟩:=V.store (i:=2+k) Qa (v:=.int .i64 ((bO i6 mg mk).1:Int)) rfl;have N:=lh Y;have bs2:=bI.cell (Sg.out _ (V.keep D.out J.out)) (ij Tv.out QH);have bs3:=bI.cell (Sg.out _ (Y.keep D.out J.out)) (ij Tv.out QH);rw [Hmg.out] at bs2 bs3;clear V Y YR Rj;refine ko hK bs2 fun hHeld=>?_;clear hK K
    refine tk 10 35 ?_;refine j9 11 fun K hK=>?_
    go_simp;refine ko hK bs3 fun hHeld=>?_;clear hK K
    refine Wn Qc ?_ _;go_wp2_with fail;clear x3 y3 b2 bs2 bs3;generalize Tb:World.setCell w2 _ _=W3 at *
    clear Tb ZP;obtain ⟨gm,mm,I⟩:∃ a b,bO i6 mg mk=(a,b):=⟨_,_,rfl⟩
    rw [I] at N TH Jaj;simp only at N TH Jaj;have JjF:=lh (kT (side:=4) (.inl rfl) (M.getD k []) TH.out);have b9:=bI.cell (Sg.out _ (N.out.keep D.out J.out)) (dO Tv.out HVl.out QH);rw [hvk] at b9;clear I;refine Tf (S:=(fun w'=>w'.cell? ⟨w.heap.size,9+k,none⟩=some vk)) Qc ?_ (fun hHeld=>?_)
    ·exact b9
    refine tk 0 37 ?_;refine tk 1 38 ?_;refine tk 2 39 ?_;refine tk 3 40 ?_;refine tk 4 41 ?_;refine tk 5 42 ?_;refine tk 6 43 ?_;refine tk 11 47 ?_;refine tk 12 48 ?_;refine j6 7 44 fun K hK=>?_
    go_simp;obtain ⟨hi4,hf4,hw4⟩:=HLs.out _ _ _ (N.out.quiet (ae.refl [] W3).drew);have VI:=hi4.small k QH;rw [hvk] at VI;refine (qW (side:=4) (.inl rfl) (N.out.quiet (ae.refl [] W3).drew).at_ VI HLk.out.1 HLk.out.2 hf4 hw4 TH.out Qa).mono ?_;rintro e w4 ⟨g4,c4,F4,rfl,ha4,hg4⟩;have hp4:=(N.out.quiet (ae.refl [] W3).drew).call ha4 hg4;rw [show (4*4:Nat)=16 from rfl];obtain ⟨hp5,⟨u5,x5⟩,y5,ho5⟩:=hp4.store (i:=9+k) Qa (v:=.slice g4 16 c4) rfl;have Z:=lh hp5;have bs4:=bI.cell (Sg.out _ (hp4.keep D.out J.out)) (dO Tv.out HVl.out QH);have bs5:=bI.cell (Sg.out _ (hp5.keep D.out J.out)) (dO Tv.out HVl.out QH);rw [hvk] at bs4 bs5;clear hp4 hp5 ha4 hg4 VI hi4 hf4 hw4;refine ko hK bs4 fun hHeld=>?_;clear hK K
    refine tk 8 36 ?_;refine tk 9 45 ?_;refine tk 10 46 ?_;refine tk 13 49 ?_;refine j9 14 fun K hK=>?_
    go_simp;refine ko hK bs5 fun hHeld=>?_;clear hK K
    refine tk 15 7 ?_;refine Wn Qc ?_ _;go_wp2_with fail;clear x5 y5 b9 bs4 bs5;refine ⟨⟨k+1,n+691*(k+1),F4,_,Qa,Qh,rfl,Z,lh (JjF.out.le Qa),lh ?_⟩,Qf⟩;rw [<- Jaj.out];exact Tk.out
   ·obtain rfl:k=4:=Qa
    have Rt:¬ ((4:Nat):Int)<4:=Qa;go_wp2_with fail;refine Vu.out _ _ _ Us.out ?_;rw [Vr.out];show (bq i6 ms M 4 [] [] m).2=_;rw [<- Tk.out]
    rfl
end
section
theorem xj (v:Int) (h:-15<=v/\v<=15) (w:World):Calls prog 194 #[v] w fun e w'=>e=.returned (.bool true)/\w=w':=by
 obtain ⟨h0,h1⟩:=h;go_enter func194,ntmps194;go_wp2;go_ret;exact ⟨rfl,rfl⟩
def mY (v:Int):Bool:=decide (0<=v) && decide (v<=3)
theorem xi (v:Int) (w:World):Calls prog 195 #[v] w fun e w'=>e=.returned (.bool (mY v))/\w=w':=by
 go_enter func195,ntmps195;go_wp2
 all_goals
  go_ret;exact ⟨aC (by unfold mY;simp;try omega),rfl⟩
theorem yR (x:Int) (w:World):Calls prog 196 #[x] w fun e w'=>e=.returned (.bool (!mY x))/\w=w':=by
 have H:=lh (xi x);generalize mY x=B at *
 go_enter func196,ntmps196
 go_wp2_with (first | (go_at_call 195;refine (H.out _).mono ?_;rintro e w1 ⟨rfl,rfl⟩) | fail)
 go_ret;exact ⟨rfl,rfl⟩
theorem rH {lo hi:Nat} {v:Value} {l:List Int} {w:World} (h:aj .i64 lo hi w v l) (N:Nat) (O:N=16\/N=64) (E:l.length=N) (J:cE l) :
  Calls prog 141 #[v,N] w fun e w'=>e=.returned .nilIface/\ae [] w w':=by
 have D:=lh (kq h Qa);have L:li l=none:=by unfold li;rw [if_neg (by rw [E];omega),tO J];rfl
 rw [L] at D;obtain ⟨a,c,rfl,-⟩:=h.open;rw [E] at D |-
 clear h E J L;go_enter func141,ntmps141;go_wp2_with fail;refine D.out.mono ?_;rintro e w1 ⟨⟨u,rfl,hu⟩,I⟩;have F:u=.nilIface:=hu;subst F;have M:=lh I;clear I hu;go_wp2_with fail;go_ret;exact ⟨rfl,M.out⟩
theorem Dp {B:Nat} {w:World} {k mo:Int} {ms:List Int} {vx vy:Int} {lv:Value} {vs:List Value} (h:bI B w k mo ms vx vy lv vs) (D:ms.length=4) (hr:∀ x∈ms,0<=x/\x<=3):aj .i64 B (B+1) w (.slice (some ⟨B,2,none⟩) 4 4) ms:=by
 refine ⟨⟨by rw [Ps,D],some ⟨B,2,none⟩,4,by rw [D],by rw [D];exact Pm _,Qj,fun _=>⟨B,2,rfl,Pm _,Nat.lt_succ_self _,fun j u hu=>?_⟩⟩,fun x hx=>by have:=hr x hx;simp only [i7];omega⟩;have E:j<4:=by
  rcases Nat.lt_or_ge j 4 with h | h
  ·exact h
  ·rw [C3 (by simp [D];exact h)] at hu;cases hu
 rw [h.cell (ij D E),<- hu,Pz,Pe Qa,Pd,Pe Qa]
 rfl
theorem Br {key:Bool} {s:j4} {lv:Value} {vs:List Value} {w:World} (hs:iH key s) (E:s.modes.length=4) (hvl:vs.length=4) :
  Calls prog 140 #[.agg (j1 s.kind s.mode s.modes s.vx s.vy lv vs).toArray] w fun e w'=>e=.returned (.bool true)/\ae [] w w':=by
 refine aK fun Q J=>?_
 obtain ⟨kd,mo,ms,vx,vy,LL,SS⟩:=s;simp only at E |-
 have Z:kd=0\/kd=1\/kd=2\/kd=3:=by have:=hs.kind;simp only at this;omega
 obtain ⟨CA,N⟩:=bu ((j1 (kd:Int) (mo:Int) ms vx vy lv vs).toArray)
 have F:Hid (∀ wx:World,wx.heap[w.heap.size]?=some (.cells CA 76)->bI w.heap.size wx kd mo ms vx vy lv vs):=lh (fun wx h=>by rw [N] at h;exact h);rw [<- N];clear N;have D:=lh (Sd w (.cells CA 76));have I:=lh (ae.new w (.cells CA 76));have M:=lh hs;have Tv:=lh E;have b0:=bI.cell (F.out _ D.out) iZ;have O:=bI.cell (F.out _ D.out) (i:=1) (x:=.int .i64 mo) rfl;have V:=bI.cell (F.out _ D.out) (i:=6) (x:=.int .i64 vx) (by obtain ⟨a,b,c,d,rfl⟩:=ix E;rfl);have Y:=bI.cell (F.out _ D.out) (i:=7) (x:=.int .i64 vy) (by obtain ⟨a,b,c,d,rfl⟩:=ix E;rfl);clear hs E hvl;rcases Z with rfl | rfl | rfl | rfl
 ·clear O V Y
  go_enter func140,ntmps140;go_wp2_with fail;exact J.out _ _ ⟨rfl,I.out⟩
 ·obtain ⟨vx0,vx1,vy0,vy1⟩:=M.out.vec rfl
  simp only at vx0 vx1 vy0 vy1;have HX:=lh (xj vx Qa);have HY:=lh (xj vy Qa);clear O;go_enter func140,ntmps140;go_wp2_with fail;refine (HX.out _).mono ?_;rintro e w1 ⟨rfl,rfl⟩;go_wp2_with fail;refine (HY.out _).mono ?_;rintro e w2 ⟨rfl,rfl⟩;go_wp2_with fail;exact J.out _ _ ⟨rfl,I.out⟩
 ·have hm:=M.out.mode rfl
  simp only at hm;have HM:=lh (xi (mo:Int));rw [show mY (mo:Int)=true by unfold mY;simp;omega] at HM;clear V Y;go_enter func140,ntmps140;go_wp2_with fail;refine (HM.out _).mono ?_;rintro e w1 ⟨rfl,rfl⟩;go_wp2_with fail;exact J.out _ _ ⟨rfl,I.out⟩
 ·obtain ⟨-,-,L,-⟩:=M.out.small rfl
  simp only at L;have ef:=fun args w=>MuLone.run_callFunc_enter func196 Qc rfl args w
  have HC:=lh (iB ef yR (Dp (F.out _ D.out) Tv.out L) (eC Tv));rw [show (ms.any fun x=>!mY x)=false by rw [List.any_eq_false];intro x hx;have:=L x hx;unfold mY;simp;omega] at HC;clear O V Y ef L;go_enter func140,ntmps140;go_wp2_with fail;refine HC.out.mono ?_;rintro e w1 ⟨rfl,QI⟩;have QO:=lh QI;clear QI;go_wp2_with fail;exact J.out _ _ ⟨rfl,I.out.q QO.out⟩
theorem Lc {p:Prop} (h:p:=by
 go_enter func77,ntmps77
 go_wp2_with (first | (refine az rfl (.tmp 3) 76 rfl rfl HB.out RT.out rfl HI.out ?_) | fail)
 refine (Xh.out _).mono ?_;rintro e w2 ⟨rfl,QN⟩;have QT:=lh (HQ.out.q QN);have Si:=lh (QN.row HB.out);clear QN b0 Xh;have b0:=bI.cell (Sg.out _ Si.out) iZ;obtain ⟨-,Ym,-,TG⟩:=HS.out.small rfl;simp only at Ym TG;have HL:=lh (fun (i:Nat) (hi:i<4) (W:World) (o:ae [] w2 W)=>rH ((Tg.out.small i hi).quiet (QT.out.q o)) 16 (.inl rfl) (TG (SS.getD i []) (by rw [Pd,Pe Qa];exact PG _)).1 (TG (SS.getD i []) (by rw [Pd,Pe Qa];exact PG _)).2);have hop:=fun (i:Nat) (hi:i<4)=>(Tg.out.small i hi).open
 have Yp:=fun (i:Nat) (hi:i<4)=>(TG (SS.getD i []) (by rw [Pd,Pe Qa];exact PG _)).1
 have b9:=bI.cell (Sg.out _ Si.out) (dO Tv.out Tg.out.len (i:=0) Qa);have b10:=bI.cell (Sg.out _ Si.out) (dO Tv.out Tg.out.len (i:=1) Qa);have b11:=bI.cell (Sg.out _ Si.out) (dO Tv.out Tg.out.len (i:=2) Qa);have b12:=bI.cell (Sg.out _ Si.out) (dO Tv.out Tg.out.len (i:=3) Qa);obtain ⟨s0,t0,e0,-⟩:=hop 0 Qa;obtain ⟨s1,t1,e1,-⟩:=hop 1 Qa;obtain ⟨s2,t2,e2,-⟩:=hop 2 Qa;obtain ⟨s3,t3,e3,-⟩:=hop 3 Qa;rw [Yp 0 Qa] at e0;rw [Yp 1 Qa] at e1;rw [Yp 2 Qa] at e2;rw [Yp 3 Qa] at e3;have L0:=lh (HL.out 0 Qa);have L1:=lh (HL.out 1 Qa);have L2:=lh (HL.out 2 Qa);have L3:=lh (HL.out 3 Qa);rw [e0] at b9 L0;rw [e1] at b10 L1;rw [e2] at b11 L2;rw [e3] at b12 L3;clear hop Yp Ym TG e0 e1 e2 e3 HL;have WL:∀ W:World,(Instr.index 74 (.agg #[.slice s0 16 t0,.slice s1 16 t1,.slice s2 16 t2,.slice s3 16 t3]) (.int .i64 0)).run prog W=.ok (.slice s0 16 t0) W:=fun W=>by kernel_rfl
 have RZ:∀ W:World,(Instr.index 74 (.agg #[.slice s0 16 t0,.slice s1 16 t1,.slice s2 16 t2,.slice s3 16 t3]) (.int .i64 1)).run prog W=.ok (.slice s1 16 t1) W:=fun W=>by kernel_rfl
 have hx2:∀ W:World,(Instr.index 74 (.agg #[.slice s0 16 t0,.slice s1 16 t1,.slice s2 16 t2,.slice s3 16 t3]) (.int .i64 2)).run prog W=.ok (.slice s2 16 t2) W:=fun W=>by kernel_rfl
 have hx3:∀ W:World,(Instr.index 74 (.agg #[.slice s0 16 t0,.slice s1 16 t1,.slice s2 16 t2,.slice s3 16 t3]) (.int .i64 3)).run prog W=.ok (.slice s3 16 t3) W:=fun W=>by kernel_rfl
 go_wp2_with fail;go_loopw [43] (fun i wr=>∃ k:Nat,k<=4/\i=.int .i64 k/\Hid (ae [] w2 wr)) (fun i _=>4-(intOf i).toNat)
 case atStart=>exact ⟨0,Qa,rfl,lh (AY)⟩
 case round =>
  obtain ⟨k,hk,rfl,QP⟩:=hrel;rcases (by omega:k=0\/k=1\/k=2\/k=3\/k=4) with rfl | rfl | rfl | rfl | rfl
  ·go_wp2_with fail
   refine (L0.out _ QP.out).mono ?_;rintro e w3 ⟨rfl,QQ⟩;have QW:=lh (QP.out.q QQ);clear QQ;go_wp2_with fail;exact ⟨⟨1,Qa,Qh,QW⟩,by simp [intOf]⟩
  ·go_wp2_with fail
   refine (L1.out _ QP.out).mono ?_;rintro e w3 ⟨rfl,QQ⟩;have QW:=lh (QP.out.q QQ);clear QQ;go_wp2_with fail;exact ⟨⟨2,Qa,Qh,QW⟩,by simp [intOf]⟩
  ·go_wp2_with fail
   refine (L2.out _ QP.out).mono ?_;rintro e w3 ⟨rfl,QQ⟩;have QW:=lh (QP.out.q QQ);clear QQ;go_wp2_with fail;exact ⟨⟨3,Qa,Qh,QW⟩,by simp [intOf]⟩
  ·go_wp2_with fail
   refine (L3.out _ QP.out).mono ?_;rintro e w3 ⟨rfl,QQ⟩;have QW:=lh (QP.out.q QQ);clear QQ;go_wp2_with fail;exact ⟨⟨4,Qa,Qh,QW⟩,by simp [intOf]⟩
  ·go_wp2_with fail
   exact QF.out _ _ ⟨rfl,QT.out.q QP.out⟩):p:=h
theorem Le {p:Prop} (h:p:=by
 simp only at hlg;have HL:=lh (rH (Tg.out.large.quiet QT.out) 64 (.inr rfl) hlg.1 hlg.2);have b8:=bI.cell (Sg.out _ Si.out) (kR Tv.out);clear hlg;go_wp2_with fail;refine HL.out.mono ?_;rintro e w3 ⟨rfl,QQ⟩;have QW:=lh (QT.out.q QQ);clear QQ;go_wp2_with fail;exact QF.out _ _ ⟨rfl,QW.out⟩):p:=h
theorem Ld {p:Prop} (h:p:=by
 go_enter func77,ntmps77
 go_wp2_with (first | (refine az rfl (.tmp 3) 76 rfl rfl HB.out RT.out rfl HI.out ?_) | fail)
 refine (Xh.out _).mono ?_;rintro e w2 ⟨rfl,QN⟩;have QT:=lh (HQ.out.q QN);have Si:=lh (QN.row HB.out);clear QN b0 Xh;have b0:=bI.cell (Sg.out _ Si.out) iZ;have hlg:=HS.out.large (.inr rfl);exact Le):p:=h
theorem DR {key:Bool} {lo hi:Nat} {s:j4} {lv:Value} {vs:List Value} {w:World} (I:iH key s) (E:ep lo hi w lv vs s.large s.small) (F:s.modes.length=4) :
  Calls prog 77 #[.bool key,.agg (j1 s.kind s.mode s.modes s.vx s.vy lv vs).toArray] w fun e w'=>e=.returned .nilIface/\ae [] w w':=by
 refine aK fun Q QF=>?_
 have Xh:=lh (fun (W:World)=>Br (w:=W) (lv:=lv) I F E.len);obtain ⟨kd,mo,ms,vx,vy,N,SS⟩:=s;simp only at F Xh E |-
 have M:kd=0\/kd=1\/kd=2\/kd=3:=by have:=I.kind;simp only at this;omega
 have L:=I.key_;simp only at L;obtain ⟨CA,J⟩:=bu ((j1 (kd:Int) (mo:Int) ms vx vy lv vs).toArray)
 have Sg:Hid (∀ wx:World,wx.heap[w.heap.size]?=some (.cells CA 76)->bI w.heap.size wx kd mo ms vx vy lv vs):=lh (fun wx h=>by rw [J] at h;exact h);have HI:=lh (iY (k:=(kd:Int)) (mo:=(mo:Int)) (vx:=vx) (vy:=vy) (lv:=lv) F E.len);rw [<- J] at Xh HI |-
 clear J;have RT:=lh underlying76;have HB:=lh (Sd w (.cells CA 76));have HQ:=lh (ae.new w (.cells CA 76));have HS:=lh I;have Tv:=lh F;have Tg:=lh E;have b0:=bI.cell (Sg.out _ HB.out) iZ;clear I E F;have D:key=true->kd=2\/kd=3:=fun h=>by have:=L h;omega
 clear L;rcases M with rfl | rfl | rfl | rfl
 ·cases key with
  | true=>exact absurd (D rfl) Ql
  | false =>
   clear D;go_enter func77,ntmps77
   go_wp2_with (first | (refine az rfl (.tmp 3) 76 rfl rfl HB.out RT.out rfl HI.out ?_) | fail)
   refine (Xh.out _).mono ?_;rintro e w2 ⟨rfl,QN⟩;have QT:=lh (HQ.out.q QN);have Si:=lh (QN.row HB.out);clear QN b0 Xh;have b0:=bI.cell (Sg.out _ Si.out) iZ;go_wp2_with fail;exact QF.out _ _ ⟨rfl,QT.out⟩
 ·cases key with
  | true=>exact absurd (D rfl) Ql
  | false =>
   clear D;go_enter func77,ntmps77
   go_wp2_with (first | (refine az rfl (.tmp 3) 76 rfl rfl HB.out RT.out rfl HI.out ?_) | fail)
   refine (Xh.out _).mono ?_;rintro e w2 ⟨rfl,QN⟩;have QT:=lh (HQ.out.q QN);have Si:=lh (QN.row HB.out);clear QN b0 Xh;have b0:=bI.cell (Sg.out _ Si.out) iZ;have hlg:=HS.out.large (.inl rfl);exact Le
 ·clear D
  cases key with
  | true =>
   exact Ld
  | false =>
   exact Ld
 ·clear D
  cases key with
  | true =>
   exact Lc
  | false =>
   exact Lc
end
theorem vw (R:Nat) (w:World):(Instr.typeAssert (wv R) 150 224 true).run prog w=.ok (.tuple #[.pointer none,.bool false]) w:=Qc
section
theorem Ei (R:Nat) (w:World):Calls prog 76 #[wv R] w fun e w'=>e=.returned (.bool false)/\w=w':=by
 have D:=vw R w;go_enter func76,ntmps76;go_wp2;go_ret;exact ⟨rfl,rfl⟩
theorem xo {key:Bool} {s:j4} (h:iH key s) (m:i9):(dE i6 key (dB s) m).2=(cz i6 (dB s) s.kind (bL i6 key s.kind m).2).2:=by
 have D:=nC (key:=key) (k:=(s.kind:Int)) Qa (j0 h.kind) (fun e=>by have:=h.key_ e;omega) m;unfold dE;show (match (cz i6 (dB s) (bL i6 key (s.kind:Int) m).1 (bL i6 key (s.kind:Int) m).2).1 with
  | .error e=>(Except.error (C6 nR (bL i6 key (s.kind:Int) m).1 e),(cz i6 (dB s) (bL i6 key (s.kind:Int) m).1 (bL i6 key (s.kind:Int) m).2).2)
  | .ok s'=>(Except.ok s',(cz i6 (dB s) (bL i6 key (s.kind:Int) m).1 (bL i6 key (s.kind:Int) m).2).2)).2=_
 have e:(bL i6 key (s.kind:Int) m).1=s.kind:=Qa;rw [e]
 split <;> rfl
theorem BO (key:Bool) (k:Int) {n:Nat} {m:i9} (h:l5 n m):l5 (n+3) (bL i6 key k m).2:=by
 unfold bL;cases key with
 | true=>exact (kU _ h).le Qa
 | false=>exact (nd (f:=fun n=>min n 63) (fun i=>Qa) _ 3 0 h).1
theorem Fj {p:Prop} (h:p:=by
 have HP7:=lh hp7;have HR7:=lh hr7.1;clear hp6 hp7 ha6 hg6 hr6 hr7 ho7;go_wp2_with fail;go_meet;exact ⟨F6,_,HP7,HR7,lh rfl⟩):p:=h
theorem BR {base R E lo hi n:Nat} {F:List Nat} {w:World} {m:i9} {key:Bool} {s:j4} {lv:Value} {vs:List Value} (hA:(pcWrite base R E).At F w m) (Z:iH key s) (QS:ep lo hi w lv vs s.large s.small) (RQ:s.modes.length=4) (hF:∀ x∈F,x<lo\/hi<=x) (hw:hi<=w.heap.size) (ok:l5 n m) (hn:n<=90000000) :
  Calls prog 32 #[wv R,.bool key,.agg (j1 s.kind s.mode s.modes s.vx s.vy lv vs).toArray] w fun e w'=>((∃ v,e=.returned v)/\∃ F',(pcWrite base R E).At F' w' (dE i6 key (dB s) m).2/\bA F w F' w'):=by
 refine aK fun Q QF=>?_
 have hF0:∀ x∈F,x<w.heap.size:=fun x hx=>(pcWrite base R E).lt hA x hx
 have Sn:base<=w.heap.size:=(pcWrite base R E).base_le hA;have Xd:=xo Z m;rw [Xd] at QF;have hkv:=nC (key:=key) (k:=(s.kind:Int)) Qa (j0 Z.kind) (fun e=>by have:=Z.key_ e;omega) m;have Ub:=Z.kind;have RM:=Z.key_;have HI:=lh (iY (k:=(s.kind:Int)) (mo:=(s.mode:Int)) (vx:=s.vx) (vy:=s.vy) (lv:=lv) RQ QS.len);have XH:=lh (fun (W:World) (o:ae [] w W)=>DR Z (QS.only o Qb) RQ);have HWp:=lh (fun (W:World) (F:List Nat) (m:i9) (O n:Nat) (hA:(pcWrite base R E).At F W m) (QS:ep lo hi W lv vs s.large s.small) (hF:∀ x∈F,x<lo\/hi<=x) (hw:hi<=W.heap.size) (ho:bI O W s.kind 0 [0,0,0,0] 0 0 ai [ai,ai,ai,ai]) (hOb:base<=O) (hOF:O∉F) (hOl:O<lo\/hi<=O) (ok:l5 n m) (hn:n<=100000000)=>Eh hA Z QS RQ hF hw ho hOb hOF hOl ok hn);have QX:=lh ok;have TH:=lh (BO key (s.kind:Int) ok);have Tg:=lh QS;have HF:=lh hF;have HA:=lh hA;have I:=lh (VL hw (VL hF0 Sn));obtain ⟨kd,V⟩:=bu s.kind
 rw [<- V] at QF hkv Ub RM TH;obtain ⟨CA,Vt⟩:=bu ((j1 (s.kind:Int) (s.mode:Int) s.modes s.vx s.vy lv vs).toArray)
 have Tc:Hid (∀ wx:World,wx.heap[w.heap.size]?=some (.cells CA 76)->wx.cell? ⟨w.heap.size,0,none⟩=some (.int .i64 kd)):=lh (fun wx h=>by rw [Vt] at h;rw [V];exact bI.cell h iZ);rw [<- Vt] at HI XH HWp |-
 rw [<- V] at HWp;have RT:=lh underlying76;have QT:Hid (ae [] w ((w.alloc (.cells CA 76)).alloc (.cells xT 76))):=lh ((ae.new w _).alloc _);have Si:Hid (((w.alloc (.cells CA 76)).alloc (.cells xT 76)).heap[w.heap.size]?=some (.cells CA 76)):=lh ((ae.new (w.alloc _) _).row (Sd w _));have HT2:Hid (bI (w.heap.size+1) ((w.alloc (.cells CA 76)).alloc (.cells xT 76)) 0 0 [0,0,0,0] 0 0 ai [ai,ai,ai,ai]):=ak Qb;have Xs:Hid (((w.alloc (.cells CA 76)).alloc (.cells xT 76)).heap.size=w.heap.size+1+1):=lh Qb;clear hA Z QS RQ hF hw ok hF0 Sn Xd Vt V;go_enter func32,ntmps32;go_wp2_with fail;generalize VZ:World.alloc (World.alloc w _) _=W2 at *
 clear VZ;refine (Ei R W2).mono ?_;rintro e w3 ⟨rfl,Zs⟩;subst Zs
 go_wp2_with (first | (refine az rfl (.tmp 5) 76 rfl rfl Si.out RT.out rfl HI.out ?_) | fail)
 refine (XH.out W2 QT.out).mono ?_;rintro e Y ⟨rfl,QY⟩;have Rh:=lh (QT.out.q QY);have HB4:=lh (QY.row Si.out);have HT4:=lh (QY.row HT2.out);have N:Hid (w.heap.size+1+1<=Y.heap.size):=lh (l6 QY.size Xs.out);clear QY Si HT2 Xs QT XH
 go_upto_block 2 with (fail)
 have UX:=lh (Sd Y (.cells (j1 0 0 [0,0,0,0] 0 0 ai [ai,ai,ai,ai]).toArray 76));have Rk:=lh (ae.new Y (.cells (j1 0 0 [0,0,0,0] 0 0 ai [ai,ai,ai,ai]).toArray 76));have hw5:Y.alloc (.cells xT 76)=Y.alloc (.cells (j1 0 0 [0,0,0,0] 0 0 ai [ai,ai,ai,ai]).toArray 76):=rfl;rw [hw5];clear hw5;have UQ:Hid (Y.heap.size<(Y.alloc (.cells (j1 0 0 [0,0,0,0] 0 0 ai [ai,ai,ai,ai]).toArray 76)).heap.size):=lh Qb;generalize World.alloc Y _=W5 at *
 have TL:Hid (ae [] w W5):=Rh.out.q Rk.out;have Zu:=lh (Rk.out.row HB4.out);have HT5:=lh (Rk.out.row HT4.out);clear Rh Rk HB4 HT4;obtain ⟨O,hO⟩:=bu Y.heap.size
 rw [<- hO] at UX N UQ |-
 clear hO;have M:Hid (O∉F):=lh (fun h=>by have:=I.out.2.1 O h;have:=N.out;omega);have L:Hid (A1 base R E O F W5 W5 F m):=lh ⟨(pcWrite base R E).only HA.out TL.out Qb,bI.q UX.out rfl rfl rfl jK,M.out,bA.refl _ _,UQ.out,by have:=I.out.2.2;have:=N.out;omega⟩;have J:Hid (w.heap.size∉O :: F/\w.heap.size+1∉O :: F):=lh (by
  have h1:=N.out
  constructor <;> (intro h;rcases Zb.1 h with h | h;omega;have:=I.out.2.1 _ h;omega))
 have b0:=Tc.out _ Zu.out;go_cut [] (fun wx=>∃ (F6:List Nat) (m6:i9),Hid (A1 base R E O F W5 wx F6 m6)/\Hid (bI O wx kd 0 [0,0,0,0] 0 0 ai [ai,ai,ai,ai])/\Hid ((bL i6 key (kd:Int) m).2=m6))
 case first =>
  cases key with
  | false =>
   have HM:=lh (Ie (pcWrite base R E) L.out.at_ (v:=(kd:Int)) Qa QX.out Qa);go_wp2_with fail;refine HM.out.mono ?_;rintro e w6 ⟨rfl,F6,ha6,hg6⟩;have hp6:=L.out.call ha6 hg6;have JuM:((lT i6 (kd:Int) m).1:Int)=(kd:Int):=hkv;simp only;rw [JuM];obtain ⟨hp7,⟨u7,x7⟩,y7,ho7⟩:=hp6.store (i:=0) Qa (v:=.int .i64 (kd:Int)) rfl;have hr6:bI O w6 0 0 [0,0,0,0] 0 0 ai [ai,ai,ai,ai]:=hg6.1.rowAt UX.out M.out;have hr7:=hr6.set (i:=0) (uz (kd:Int));have HP7:=lh hp7;have HR7:=lh hr7.1;clear hp6 hp7 ha6 hg6 JuM hr6 hr7 ho7;go_wp2_with fail;go_meet;exact ⟨F6,_,HP7,HR7,lh rfl⟩
  | true =>
   have Yk:kd=2\/kd=3:=by have:=RM rfl;omega
   have mf:=Kd R;have nf:=Kk R;have Vp:=lh (fun (b:Bool)=>(pcWrite base R E).flat b L.out.at_ QX.out Qa);rcases Yk with rfl | rfl
   ·go_wp2_with fail
    refine (Vp.out false).mono ?_;rintro e w6 ⟨rfl,F6,ha6,hg6⟩;have hp6:=L.out.call ha6 hg6;obtain ⟨hp7,⟨u7,x7⟩,y7,ho7⟩:=hp6.store (i:=0) Qa (v:=.int .i64 2) rfl;have hr6:bI O w6 0 0 [0,0,0,0] 0 0 ai [ai,ai,ai,ai]:=hg6.1.rowAt UX.out M.out;have hr7:=hr6.set (i:=0) (uz 2);exact Fj
   ·go_wp2_with fail
    refine (Vp.out true).mono ?_;rintro e w6 ⟨rfl,F6,ha6,hg6⟩;have hp6:=L.out.call ha6 hg6;obtain ⟨hp7,⟨u7,x7⟩,y7,ho7⟩:=hp6.store (i:=0) Qa (v:=.int .i64 3) rfl;have hr6:bI O w6 0 0 [0,0,0,0] 0 0 ai [ai,ai,ai,ai]:=hg6.1.rowAt UX.out M.out;have hr7:=hr6.set (i:=0) (uz 3);exact Fj
 case rest =>
  obtain ⟨F6,m6,D,HR6,Hm6⟩:=hcut;obtain ⟨W6,hW6⟩:=bu wc
  subst hW6;rw [Hm6.out] at QF TH;clear L UX b0 hkv RM;have HB6:=lh (D.out.keep Zu.out J.out.1);have HT6:=lh (D.out.keep HT5.out J.out.2);have WP:Hid (O<lo\/hi<=O):=lh (.inr (l6 I.out.1 N.out));have Jyg:Hid (ep lo hi W6 lv vs s.large s.small):=lh ((Tg.out.only TL.out Qb).only D.out.went.1 (fun g hg=>by
   rcases Zb.1 hg with rfl | hg
   ·exact WP.out
   ·exact HF.out g hg))
  have HF6:Hid (∀ x∈F6,x<lo\/hi<=x):=lh (fun x hx=>by
   rcases D.out.went.2 x (Pv _ hx) with h1 | h1
   ·rcases Zb.1 h1 with rfl | h1
    ·exact WP.out
    ·exact HF.out x h1
   ·exact .inr (l6 I.out.1 TL.out.size))
  have HPt:=lh (HWp.out W6 F6 m6 O (n+3) D.out.at_ Jyg.out HF6.out (C5 I.out.1 TL.out.size D.out.size) HR6.out D.out.lt.2 D.out.out WP.out TH.out Qa)
  go_wp2_with (first | (refine az rfl (.tmp 5) 76 rfl rfl HB6.out RT.out rfl HI.out ?_) | fail)
  refine HPt.out.mono ?_;rintro e w7 ⟨rfl,F7,ha7,JBu,hO7,Ul⟩;obtain ⟨C,hC,hCs,hC1⟩:=JBu;have JtB:C.all (·.oneCell')=true:=by rw [Array.all_eq_true];exact hC1
  have HCr:=lh hC;have HIc:Hid ((prog.info? 76).map (·.size)=some C.size):=lh (by rw [hCs];kernel_rfl);have HC1:=lh JtB;have HT7:=lh (Ul.1.rowAt HT6.out (fun h=>by
   rcases Zb.1 h with h | h
   ·exact J.out.2 (by rw [h];exact VY ..)
   ·rcases D.out.went.2 _ (Pv _ h) with h1 | h1
    ·exact J.out.2 h1
    ·have:=N.out;have:=UQ.out;omega))
  have HCz:Hid ((j1 0 0 [0,0,0,0] 0 0 ai [ai,ai,ai,ai]).toArray.size=C.size):=lh (by rw [hCs];rfl);have hT:w.heap.size+1∉F7:=fun h=>by
   rcases Ul.2 _ (Pv _ h) with h1 | h1
   ·rcases Zb.1 h1 with h1 | h1
    ·exact J.out.2 (by rw [h1];exact VY ..)
    ·rcases D.out.went.2 _ (Pv _ h1) with h2 | h2
     ·exact J.out.2 h2
     ·have:=N.out;have:=UQ.out;omega
   ·have:=D.out.size;have:=N.out;have:=UQ.out;omega
  have VU:=lh (ae.setRow (S:=[w.heap.size+1]) (ae.refl _ w7) (g:=w.heap.size+1) (fun _=>Qb) C);have Vv:=lh (show (w7.setRow (w.heap.size+1) C).heap[w.heap.size+1]?=some (.cells C 76) from m7 w7 (w.heap.size+1) _ _ _ _ HT7.out);have Vi:Hid (∃ F',(pcWrite base R E).At F' (w7.setRow (w.heap.size+1) C) (cz i6 (dB s) kd m6).2/\bA F w F' (w7.setRow (w.heap.size+1) C)):=lh ⟨F7,(pcWrite base R E).only ha7 VU.out (fun g hg=>by rw [i5] at hg;subst hg;exact ⟨by have:=I.out.2.2;show base<=_;omega,hT⟩),by
   have Rx:=(D.out.went.trans Ul)
   refine ⟨(TL.out.trans Rx.1 (U:=F) Qb (fun g hg QH=>?_)).trans VU.out (U:=F) (fun _ h _=>h) (fun g hg QH=>Qd),fun g hg=>?_⟩
   ·rcases Zb.1 hg with h | h
    ·have:=N.out;omega
    ·exact h
   ·rcases Rx.2 g (Pv _ hg) with h | h
    ·rcases Zb.1 h with h | h
     ·exact absurd hg (dn h hO7)
     ·exact .inl h
    ·exact .inr (j0 TL.out.size)⟩
  clear hC hCs hC1 JtB ha7 hO7 Ul hT
  go_wp2_with (first
   | (refine az rfl (.tmp 10) 76 rfl rfl HCr.out RT.out rfl HIc.out ?_)
   | (refine am rfl (.tmp 6) (.tmp 57) 76 rfl rfl rfl HT7.out HIc.out HCz.out HC1.out ?_)
   | fail)
  exact TV (v:=.tuple #[.agg C,.nilIface]) (cw results32 _ _ (w.heap.size+1) _ _ _ _ _ rfl rfl Vv.out RT.out rfl HIc.out) rfl (QF.out _ _ ⟨⟨_,rfl⟩,Vi.out⟩)
end
end Go.Proofs.YthcafdfdglfabaaGreatDoor
