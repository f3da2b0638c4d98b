/- Joined texts: OwnS, Path, Kin. Conditions: each part names its own. -/
import Derived.Test.YthcafdfdglfabaaGreatDoorC2
namespace Go.Proofs.YthcafdfdglfabaaGreatDoor
open Tryz
open Go.RowKit
set_option linter.unusedVariables false
set_option linter.unusedSimpArgs false
set_option maxRecDepth 100000
set_option maxHeartbeats 16000000
section
variable {k:IntKind} {e:TypeId} {g cap base:Nat} {w w':World} {l:List Int}
theorem f9.cellS {n:Nat} (h:f9 k e base w (.slice g n cap) l) (D:n=l.length) {i:Nat} (hi:i<l.length):w.cell? ⟨g,i,none⟩=some (.int k (l.getD i 0)):=by
 subst D;have:=h.1.cellAt i Qa;rw [this,Pz];simp [hi]
theorem f9.frzS {n:Nat} (h:f9 k e base w (.slice g n cap) l) (D:n=l.length) (j:Nat):w.frozen? ⟨g,j,none⟩=false:=by
 subst D;exact h.1.frozenAt j
theorem f9.storeS {n:Nat} (h:f9 k e base w (.slice g n cap) l) (I:n=l.length) {x:Int} (hx:i7 k x) (i:Nat) :
  f9 k e base (w.setCell ⟨g,i,none⟩ (.int k x)) (.slice g n cap) (l.set i x)/\ae [g] w (w.setCell ⟨g,i,none⟩ (.int k x)):=by
 subst I;obtain ⟨F,D⟩:=h.1.stored i (.int k x);refine ⟨⟨?_,fun y E=>?_⟩,ae.of_grown D⟩
 ·rw [PF,List.map_set];exact F
 ·rcases List.mem_or_eq_of_mem_set E with E | rfl
  ·exact h.2 y E
  ·exact hx
end
theorem i7.zero (k:IntKind):i7 k 0:=by cases k <;> simp [i7]
theorem gB (k:IntKind) (t:TypeId) (w:World) (n:Nat) (D:n<=maxLen) :
  f9 k t w.heap.size (w.alloc (.cells (madeCells #[.int k 0] n) t)) (.slice w.heap.size n n) (List.replicate n 0):=by
 have h0:=World.ownsRow_lit w (base:=w.heap.size) (e:=t) (size:=1) (madeCells #[.int k 0] n) n (Pm _) D (by rw [size_madeCells,Nat.mul_one]);rw [toList_madeCells_one] at h0;exact ⟨QD,fun x hx=>by rw [(List.mem_replicate.1 hx).2];exact i7.zero k⟩
theorem p9.row {a b:Value} {w w':World} {B g:Nat} {o:Obj} (h:p9 a w b w') (D:bj B a) (hr:w.heap[g]?=some o) (E:g<B):w'.heap[g]?=some o :=
 (h.only.block g (l8.1 hr).1 (fun hm=>by have:=D g Qr;omega)).trans hr
theorem ae.row {w w':World} {g:Nat} {o:Obj} (h:ae [] w w') (hr:w.heap[g]?=some o):w'.heap[g]?=some o :=
 (h.block g (l8.1 hr).1 Qb).trans hr
theorem aL {w:World} {g:Nat} {D E:Value} {t:TypeId} (h:w.heap[g]?=some (.cells #[D,E] t)) :
  w.cell? ⟨g,0,none⟩=some D/\w.cell? ⟨g,1,none⟩=some E/\w.frozen? ⟨g,0,none⟩=false/\w.frozen? ⟨g,1,none⟩=false/\g<w.heap.size :=
 ⟨by rw [RG h];rfl,by rw [RG h];rfl,Sz _ _ _ _ _ h,Sz _ _ _ _ _ h,(l8.1 h).1⟩
theorem Kt {lo hi:Nat} {v:Value} {o:Option l4} {w:World} (h:oh lo hi w v o) (hhi:hi<=w.heap.size) (hE:po w) (QJ:(ye o).length<=1000) :
  Calls prog 48 #[v] w fun r w'=>∃ pv,r=.returned pv/\w'.ownsRow (w.heap.size+1) 110 2 pv (ye o).length (flat (ye o))/\ae [] w w':=by
 cases o with
 | none =>
  have hv:v=.nilIface:=h;subst hv;go_enter func48,ntmps48;go_wp2
  go_loopg [5,3] 0 (fun k y x wr=>y=.nilIface/\x=.slice none 0 0/\ae [] w wr)
  case atStart=>exact ⟨rfl,rfl,BS⟩
  case round =>
   obtain ⟨rfl,rfl,V⟩:=hrel
   go_wp2_with (first | (go_at_call 112;refine (FD _ _).mono ?_;rintro e w1 ⟨rfl,rfl⟩) | fail)
   go_ret;exact ⟨_,rfl,World.ownsRow_nil _ _ _ _,V⟩
 | some e =>
  obtain ⟨path,code⟩:=e;have h':dS lo hi w path code v:=h;have Y:path.length<=1000:=QJ;have hw:w.heap.size<w.heap.size+1:=Qa;have hg0:(w.alloc (.cells #[.pointer none] 188)).heap[w.heap.size]?=some (.cells #[.pointer none] 188):=LD;have HE:=lh hE;have JpD:=h'.only (ae.new w (.cells #[.pointer none] 188)) Qb;have hE':=hE.quiet (ae.new w (.cells #[.pointer none] 188));have Ra:=lh Y;have Hb:=lh hhi;have JdY:=hhi;clear h h' QJ Y hE;go_enter func48,ntmps48;go_wp2
  go_loopg [5,3] path.length (fun k y x wr=>∃ (E rest:List (ByteArray×Int)) (ptr:Option Addr),Hid (E ++ rest=path)/\rest.length=k/\dS lo hi wr rest code y/\wr.heap[w.heap.size]?=some (.cells #[.pointer ptr] 188) /\
   wr.ownsRow (w.heap.size+1) 110 2 x E.length (flat E)/\bj (w.heap.size+1) x/\ae [] w wr)
  case atStart=>exact ⟨[],path,none,lh rfl,rfl,JpD,hg0,World.ownsRow_nil _ _ _ _,bj.nil _,BS⟩
  case round =>
   obtain ⟨E,rest,ptr,Hd,hk,hf,hg,QL,F,V⟩:=hrel;have J:=HE.quiet V;cases rest with
   | nil =>
    have hv:_=Value.iface 36 (.int .i64 code):=hf;subst hv;have H:=lh (BZ (g:=w.heap.size) (c:=code) J);have hdn:E=path:=by have:=Hd.out;simpa using this
    subst hdn;clear hf J
    go_wp2_with (first | (go_at_call 112;refine H.mono ?_;rintro e w1 ⟨rfl,QI⟩) | fail)
    go_ret;exact ⟨_,rfl,dN QL QI Qb,V.q QI⟩
   | cons sn rest' =>
    obtain ⟨s,n⟩:=sn;obtain ⟨b,v',rfl,XP,hb2,Z,hf'⟩:=hf;have H:=lh (IE (lo:=0) (hi:=0) (b:=b) hg J);clear J hg
    go_wp2_with (first | (go_at_call 112;refine H.mono ?_;rintro e D ⟨rfl,QQ,M⟩) | fail)
    have hbb:b<w.heap.size:=dT Hb
    have L:D.heap[b]?=some (.cells #[.string s,n,v'] 191):=(QQ.block b (j0 V.size) Qm).trans Z;have p0:D.cell? ⟨w.heap.size,0,none⟩=some (.pointer b):=dx M
    have q0:D.cell? ⟨b,0,none⟩=some (.string s):=dx L
    have q1:D.cell? ⟨b,1,none⟩=some (.int .i64 n):=dx L
    have q2:D.cell? ⟨b,2,none⟩=some v':=dx L
    have hz3:w.heap.size<D.heap.size:=(l8.1 M).1;have O:ae [] D (D.alloc (.cells #[.string s,n] 110)).drew:=(BS).drew;have JAU:∀ g,u3.ownBlock=some g->g≠w.heap.size:=fun g hg=>by have:=F g hg;omega
    have TQ:(D.alloc (.cells #[.string s,n] 110)).drew.ownsRow (w.heap.size+1) 110 2 u3 E.length (flat E):=dN (dN QL QQ (by simpa using fun e=>JAU _ e rfl)) O Qb;have RI:cf 2 D.heap.size (D.heap.size+1) (D.alloc (.cells #[.string s,n] 110)).drew (.slice D.heap.size 1 1) 1 (flat [(s,n)]):=(fG (size:=2) (n:=1) (xs:=flat [(s,n)]) rfl rfl Qj rfl:cf 2 D.heap.size (D.heap.size+1) (D.alloc (.cells #[.string s,n] 110)) (.slice D.heap.size 1 1) 1 (flat [(s,n)]))
    have Vm:∀ u∈flat [(s,n)],u.oneCell'=true:=by simp [flat];exact ⟨rfl,rfl⟩
    have Up:E.length<=1000:=by have h1:=Ra.out;rw [<- Hd.out,Pn] at h1;omega
    have h63:E.length+1<=maxLen:=by simp only [maxLen];omega
    have TU:(E.length+1)*24<=140737488355328:=Qa;have Sn:w.heap.size+1<=(D.alloc (.cells #[.string s,n] 110)).drew.heap.size:=Qm;have P0:=O.cell p0 Qb;have Q2:=O.cell q2 Qb;have N:b<w.heap.size+1:=Qa;have hwl:w.heap.size<w.heap.size+1:=Qa;have HG3:=lh M;clear M L Z
    go_region_held3 (fun w'=>w'.cell? ⟨w.heap.size,0,none⟩=some (.pointer b)/\w'.cell? ⟨b,0,none⟩=some (.string s)/\w'.cell? ⟨b,1,none⟩=some (.int .i64 n))
     (first
      | (go_split_ands;refine ⟨I.cell F Qq hwl,I.cell F Qq N,I.cell F Qq N⟩)
      | (simp [*,World.cell?_alloc_some,World.cell?_setCell_far,frozen?_alloc_cells,fJ,PJ])
      | fail)
     (first | (refine kf rfl (.tmp 14) (.tmp 24) 107 rfl ES TQ rfl RI rfl Vm h63 TU Sn (fun v1 w1 QG I=>?_);have P1:=I.cell F P0 hwl;have Q1:=I.cell F Q2 N) | fail)
    go_wp2_with fail;have hqq:ae [] w D:=V.trans QQ Qb Qb;have QI:ae [] w w1:=(hqq.q O).acc I (fun g hg=>by have:=F g hg;omega)
    go_roundg (rest'.length)
    case measure=>have:=hk;simp at this;omega
    case rel =>
     refine ⟨E ++ [(s,n)],rest',some ⟨b,0,none⟩,lh (by have:=Hd.out;simpa using this),rfl,dS.only hf' ((QQ.trans O (U:=[w.heap.size]) Qb Qb).trans I.only (U:=w.heap.size :: u3.ownBlock.toList) Qb (fun g hg _=>Pv _ hg)) ?_,?_,?_,I.from_ F Sn,QI⟩
     ·intro g hg
      rcases Zb.1 hg with rfl | hg
      ·exact .inr JdY
      ·exact .inr (j0 (F g Qn))
     ·exact (I.only.block _ Qm (fun hg=>by have:=F w.heap.size Qn;omega)).trans ((O.block _ hz3 Qb).trans HG3)
     ·have:E.length+1=(E ++ [(s,n)]).length:=Qb
      rw [zA,<- this];exact QG
def II (lo hi:Nat) (w:World) (v:Value) (c:Int) (p:List (ByteArray×Int)):Prop:=∃ sv,v=.agg #[c,sv]/\cf 2 lo hi w sv p.length (flat p)
theorem fo (c:Int) (w:World):Calls prog 26 #[c] w fun e w'=>e=.returned (.agg #[c,d8])/\ae [] w w':=by
 go_enter func26,ntmps26;go_wp2;refine TV (v:=.agg #[c,d8]) (by simp [results,results26,go_sem]) rfl ⟨rfl,BS⟩
theorem ae.rowAt {S:List Nat} {w w':World} (h:ae S w w') {g:Nat} {o:Obj} (hr:w.heap[g]?=some o) (D:g∉S):w'.heap[g]?=some o:=(h.block g (l8.1 hr).1 D).trans hr
theorem zC:∀ p:List (ByteArray×Int),∀ u∈flat p,u.oneCell'=true
 | [],u,h=>by simp [flat] at h
 | x :: p,u,h=>by
  have e:flat (x :: p)=.string x.1 :: .int .i64 x.2 :: flat p:=rfl;rw [e] at h;rcases Zb.1 h with rfl | h
  ·rfl
  rcases Zb.1 h with rfl | h
  ·rfl
  exact zC p u h
theorem OX (w:World) (s:ByteArray) (n:Int):∀ B,((w.alloc (.cells #[.string s,n] 111)).alloc B).ownsRow w.heap.size 111 2 (.slice w.heap.size 1 1) 1 (flat [(s,n)]):=fun B =>
 dN (World.ownsRow_lit w _ 1 (Pm _) Qj rfl) (BS) Qb
theorem Ox (w:World):∀ A B,w.heap.size<=((w.alloc A).alloc B).heap.size:=fun A B=>by simp;omega
theorem Mt {lo hi:Nat} (s:ByteArray) (n c:Int) {sv:Value} {p:List (ByteArray×Int)} {w:World} (h:cf 2 lo hi w sv p.length (flat p)) (hc:c≠0) (hp:p.length<=1000) :
  Calls prog 106 #[.string s,n,.agg #[c,sv]] w fun e w'=>∃ v',e=.returned v'/\II w.heap.size w'.heap.size w' v' c ((s,n) :: p)/\ae [] w w':=by
 have H:=lh h;obtain ⟨hl,a,cap,rfl,Sv,RN,M⟩:=h;clear M;have Zm:(c == 0)=false:=dn A5 hc
 have h0:((w.alloc (.cells #[c,.slice a p.length cap] 39)).alloc (.cells #[(),d8] 39)).heap[w.heap.size]?=some (.cells #[c,.slice a p.length cap] 39):=(A6 _ _ _ Qb).trans (LD);have h1:((w.alloc (.cells #[c,.slice a p.length cap] 39)).alloc (.cells #[(),d8] 39)).heap[w.heap.size+1]?=some (.cells #[(),d8] 39):=ak Qb;have Y:ae [] w ((w.alloc (.cells #[c,.slice a p.length cap] 39)).alloc (.cells #[(),d8] 39)):=(BS).q (BS);have H0:=lh h0;have Vm:∀ u∈flat p,u.oneCell'=true:=zC p;have J:1+p.length<=maxLen:=by simp only [maxLen];omega
 have TU:(1+p.length)*24<=140737488355328:=Qa;have H1:=lh h1;have N:=lh Y;clear h0 h1 Y;go_enter func106,ntmps106
 go_wp2_with (first
  | (go_at_call 37;refine (Km _ _ _).mono ?_;rintro e w1 ⟨rfl,E⟩;rw [Zm];have r0:=E.rowAt H0 Qb;have r1:=E.rowAt H1 Qb;have x0:w1.cell? ⟨w.heap.size,0,none⟩=some (.int .i64 c):=(dx r0);have x1:w1.cell? ⟨w.heap.size,1,none⟩=some (.slice a p.length cap):=(dx r0);have R1:=lh r1;have Zg:w.heap.size+2<=w1.heap.size:=(by have:=E.size;simp at this;omega);have Zo:w.heap.size<w1.heap.size:=Qa;have Rc:=OX w1 s n;have VA:=Ox w1;clear r0 r1)
  | (at_builtin;refine dH rfl (.tmp 19) (.tmp 21) 37 rfl EK (base:=w1.heap.size) (n:=1) (xs:=flat [(s,n)]) (Rc _) rfl (H.only ((N.q E).q ((BS).q (BS))) Qb) rfl Vm J TU (VA _ _) (fun v1 D O I Xw=>?_);obtain ⟨_,a2,V,rfl,_⟩:=cf.of_own O;have F:=I.rowAt (g:=w1.heap.size+1) (ak Qb) (by simp [Value.ownBlock]);have r1:=I.rowAt ((A6 _ _ _ Qm).trans ((A6 _ _ _ Qa).trans R1)) (by simp [Value.ownBlock];omega);have y0:D.cell? ⟨w1.heap.size+1,0,none⟩=some (.int .i64 c):=(dx F);have y1:D.cell? ⟨w1.heap.size+1,1,none⟩=some (.slice (some ⟨w1.heap.size,0,none⟩) 1 1):=(dx F);have y2:=Sz D (w1.heap.size+1) 1 _ _ F;have z0:D.cell? ⟨w.heap.size+1,0,none⟩=some (.int .i64 0):=(dx r1);have z1:D.cell? ⟨w.heap.size+1,1,none⟩=some (.slice none 0 0):=(dx r1);have z2:=Sz D (w.heap.size+1) 0 _ _ r1;have z3:=Sz D (w.heap.size+1) 1 _ _ r1;clear F r1)
  | fail)
 refine TV (v:=.agg #[c,.slice a2 (1+p.length) V]) (by simp [results,results106,go_sem,z0,z1,World.cell?_setCell_other]) rfl ?_;have hA:ae [] w D:=((N.q E).q ((BS).q (BS))).trans I Qb (by simp [Value.ownBlock];omega);have Z:∀ u0 u1 u2,ae [w1.heap.size+1,w.heap.size+1] D (((D.setCell ⟨w1.heap.size+1,1,none⟩ u0).setCell ⟨w.heap.size+1,0,none⟩ u1).setCell ⟨w.heap.size+1,1,none⟩ u2):=fun _ _ _=>((((AY).setCell Qb _).setCell Qb _).setCell Qb _)
 have L:∀ g∈[w1.heap.size+1,w.heap.size+1],(Value.slice a2 (1+p.length) V).ownBlock≠some g:=by
  intro g hg e;rcases Xw with h | h
  ·rw [h] at e;simp [Value.ownBlock] at e hg;omega
  ·rw [h] at e;simp at e hg;omega
 refine ⟨_,rfl,⟨_,rfl,?_⟩,hA.trans (Z _ _ _) Qb Qm⟩;rw [show ((s,n) :: p).length=1+p.length by simp [Nat.add_comm]];exact (cf.of_own (dN O (Z _ _ _) L)).mono (by omega:w.heap.size<=w1.heap.size) (Pm _)
theorem uJ (s:ByteArray) (n c:Int) (w:World) (N:c≠0) :
  Calls prog 57 #[.string s,n,c] w fun e w'=>∃ v',e=.returned v'/\II w.heap.size w'.heap.size w' v' c [(s,n)]/\ae [] w w':=by
 have H:=lh (fun (w:World)=>Mt s n c (p:=[]) (w:=w) (lo:=0) (hi:=0) (cf.nil 2 0 0 w) N Qb);go_enter func57,ntmps57
 go_wp2_with (first
  | (go_at_call 26;refine (fo _ _).mono ?_;rintro e w1 ⟨rfl,E⟩)
  | (go_at_call 106;refine (H.out w1).mono ?_;rintro e D ⟨v2,rfl,O,I⟩;obtain ⟨sv,rfl,J⟩:=O;obtain ⟨_,a2,L,rfl,_⟩:=id J;have r0:=I.rowAt (E.rowAt (LD) Qb) Qb;have x0:D.cell? ⟨w.heap.size,0,none⟩=some (.int .i64 0):=(dx r0);have x1:D.cell? ⟨w.heap.size,1,none⟩=some (.slice none 0 0):=(dx r0);have z2:=Sz D w.heap.size 0 _ _ r0;have z3:=Sz D w.heap.size 1 _ _ r0;clear r0)
  | fail)
 refine TV (v:=.agg #[c,.slice a2 1 L]) (by simp [results,results57,go_sem,x0,x1,World.cell?_setCell_other]) rfl ?_;have M:ae [] w D:=(BS).q (E.q I);have F:∀ Y Z,ae [w.heap.size] D ((D.setCell ⟨w.heap.size,0,none⟩ Y).setCell ⟨w.heap.size,1,none⟩ Z):=fun _ _=>(((AY).setCell Qb _).setCell Qb _)
 have V:=E.size;simp only [World.size_alloc] at V;exact ⟨_,rfl,⟨_,rfl,(J.only (F _ _) Qm).mono Qa (F _ _).size⟩,M.trans (F _ _) Qb Qb⟩
theorem cf.steps {lo hi:Nat} {w:World} {v:Value} {p:List (ByteArray×Int)} (h:cf 2 lo hi w v p.length (flat p)):∃ (a:Option Addr) (cap:Nat),v=.slice a p.length cap /\
  ∀ i,i<p.length->∃ b off,a=some ⟨b,off,none⟩/\w.cell? ⟨b,off+i*2,none⟩=some (.string (p.getD i default).1)/\w.cell? ⟨b,off+i*2+1,none⟩=some (.int .i64 (p.getD i default).2):=by
 obtain ⟨_,a,cap,rfl,_,_,F⟩:=h;refine ⟨a,cap,rfl,fun i hi=>?_⟩;obtain ⟨b,off,e,_,_,D⟩:=F Qa;obtain ⟨h1,E⟩:=Eu p i hi;exact ⟨b,off,e,D _ _ h1,by rw [Nat.add_assoc];exact D _ _ E⟩
theorem ur {lo hi lo' hi':Nat} {v sv:Value} {o:Option l4} {c:Int} {p:List (ByteArray×Int)} {w:World} (h:oh lo hi w v o) (hhi:hi<=w.heap.size) (hE:po w) (QJ:p.length<=1000) (g:cf 2 lo' hi' w sv p.length (flat p))
  (O:o.isNone=(c == 0)) (D:Jb o=c) (hp:ye o=p) :
  Calls prog 13 #[v,.agg #[c,sv]] w fun e w'=>e=.returned (.bool true)/\ae [] w w':=by
 obtain ⟨a,cap,hsv,N⟩:=g.steps;subst hsv;have r0:=Sd w (.cells #[c,.slice a p.length cap] 39);have F:=ae.new w (.cells #[c,.slice a p.length cap] 39);have x0:(w.alloc (.cells #[c,.slice a p.length cap] 39)).cell? ⟨w.heap.size,0,none⟩=some (.int .i64 c):=dx r0
 have x1:(w.alloc (.cells #[c,.slice a p.length cap] 39)).cell? ⟨w.heap.size,1,none⟩=some (.slice a p.length cap):=dx r0
 have HO:=lh F;have HS:=lh N;have I:=fun w' (k:ae [] (w.alloc (.cells #[c,.slice a p.length cap] 39)) w')=>NX (h.quiet (F.q k)) (hE.quiet (F.q k))
 have E:=fun w' (k:ae [] (w.alloc (.cells #[c,.slice a p.length cap] 39)) w')=>Kt (h.quiet (F.q k)) (j0 ((F.q k).size)) (hE.quiet (F.q k)) (dn hp QJ)
 rw [D] at I;rw [hp] at E;have HOf:=lh I;have Jsf:=lh E;have hni:(v=.nilIface/\o=none)\/∃ t u,v=.iface t u/\∃ er,o=some er:=by
  cases o with
  | none=>exact .inl ⟨h,rfl⟩
  | some er=>obtain ⟨t,u,e⟩:=eK.held h;exact .inr ⟨t,u,e,er,rfl⟩
 have JCY:=lh D;have JsW:=lh O;have Hp:=lh hp;have Vd:=g.len_le;unfold maxLen at Vd;have JJQ:(p.length:Int)<=9223372036854775807:=Qa;clear h g N F r0 hE I E O D Vd hp;rcases hni with ⟨rfl,rfl⟩ | ⟨t,u,rfl,er,rfl⟩
 all_goals
  have Zm:=JsW.symm;simp only [Option.isNone] at Zm;go_enter func13,ntmps13;go_wp2_with fail
  first | go_region_held3 (fun w'=>w'.cell? ⟨w.heap.size,0,none⟩=some (.int .i64 c)/\w'.cell? ⟨w.heap.size,1,none⟩=some (.slice a p.length cap))
   (first
    | (go_split_ands;refine ⟨V.cell Qq Qb,V.cell Qq Qb⟩)
    | (go_split_ands;refine ⟨M.cell Qq Qb,M.cell Qq Qb⟩)
    | (simp [*,World.cell?_alloc_some,World.cell?_setCell_far,frozen?_alloc_cells,fJ,PJ])
    | fail)
   (first
    | (go_at_call 37;refine (Km _ _ _).mono ?_;rintro e w1 ⟨rfl,M⟩;rw [Zm])
    | (go_at_call 47;refine (HOf.out w1 ((AY).drew.q M)).mono ?_;rintro e w2 ⟨rfl,V⟩)
    | fail) | fail
  go_wp2_with (first | (go_at_call 48;refine (Jsf.out w2 (((AY).drew.q M).q V)).mono ?_;rintro e w3 ⟨pv,rfl,QL,QQ⟩;obtain ⟨pa,RK,rfl,Xd⟩:=(cf.of_own QL).steps;have z1:=QQ.cell (V.cell (M.cell x1 Qb) Qb) Qb;have Hst:=lh Xd;clear Xd) | fail)
  have L:ae [] w w3:=(HO.drew.q M).q (V.q QQ);clear x0 x1;go_loopw [6] (fun i wr=>∃ k:Nat,k<=p.length/\i=.int .i64 k/\ae [] w3 wr) (fun i _=>p.length-(intOf i).toNat)
  case atStart=>exact ⟨0,Qa,rfl,AY⟩
  case round =>
   obtain ⟨k,hk,rfl,J⟩:=hrel;have z2:=J.cell z1 Qb;by_cases QH:k<p.length
   ·obtain ⟨b,off,rfl,Sq,SE⟩:=HS.out k QH
    obtain ⟨b',Um,rfl,Y,Z⟩:=Hst.out k QH;have c1:=(L.q J).cell Sq Qb;have c2:=(L.q J).cell SE Qb;have d1:=J.cell Y Qb;have d2:=J.cell Z Qb;have hx:(0:Int)<=(k:Int):=Qa;have RZ:(k:Int)<(p.length:Int):=Qa;clear Sq SE Y Z;generalize p.getD k default=x at *
    obtain ⟨xs,xn⟩:=x;simp only at c1 c2 d1 d2;go_wp2
    go_quiet (fail)
    go_wp2;go_roundw
    case rel=>exact ⟨k+1,Qa,Qh,J.drewN _⟩
    case measure=>simp [intOf];omega
   ·obtain rfl:k=p.length:=Qa
    have hx:¬ (p.length:Int)<(p.length:Int):=Qa;go_wp2;go_ret;exact ⟨rfl,L.q J⟩
end Go.Proofs.YthcafdfdglfabaaGreatDoor
