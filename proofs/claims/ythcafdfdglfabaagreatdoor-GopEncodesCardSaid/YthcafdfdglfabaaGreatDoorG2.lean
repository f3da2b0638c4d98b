/- Joined texts: SplG, Make, GUn, Gop, GPp, GSpl, GJoin, GParse, GPack. Conditions: each part names its own. -/
import Derived.Test.YthcafdfdglfabaaGreatDoorG1
namespace Go.Proofs.YthcafdfdglfabaaGreatDoor
open Go.Proofs.Tryz
open Go.RowKit
set_option linter.unusedVariables false
set_option linter.unusedSimpArgs false
set_option maxRecDepth 100000
set_option maxHeartbeats 16000000
inductive fe (l:List Int) (E:Option l4):Nat->List cu->Prop
 | done:E=none->fe l E l.length []
 | bad {p:Nat} {er:l4}:p<l.length->gA (l.drop p) p=.error er->E=some er->fe l E p []
 | more {p:Nat} {u:cu} {us:List cu}:p<l.length->gA (l.drop p) p=.ok u->fe l E u.end_ us->fe l E p (u :: us)
theorem fe.peek_cons {l:List Int} {E:Option l4} {p:Nat} {u:cu} {us:List cu} (h:fe l E p (u :: us)):p<l.length/\pU l p=.ok u/\fe l E u.end_ us:=by
 cases h with
 | more h1 h2 h3=>exact ⟨h1,by unfold pU;rw [if_neg Qa];exact h2,h3⟩
theorem fe.peek_nil {l:List Int} {E:Option l4} {p:Nat} (h:fe l E p []):(p=l.length/\E=none/\pU l p=.error ⟨[],1⟩)\/(p<l.length/\∃ er,E=some er/\pU l p=.error er):=by
 cases h with
 | done h=>exact .inl ⟨rfl,h,if_pos rfl⟩
 | bad h1 h2 h3=>exact .inr ⟨h1,_,h3,by unfold pU;rw [if_neg Qa];exact h2⟩
def fE (lo hi:Nat) (w:World) (v:Value) (U:List cu):Prop :=
 ∃ f,ir 4 lo hi w v U.length f/\∀ i u,U[i]?=some u->f i 0=.int .i64 u.kind/\f i 2=.int .i64 u.at_/\f i 3=.int .i64 u.end_/\aj .u8 lo hi w (f i 1) u.data
section
variable {lo hi lo' hi':Nat} {w w':World} {v:Value} {U:List cu} {S:List Nat}
theorem fE.only (h:fE lo hi w v U) (o:ae S w w') (D:∀ g∈S,g<lo\/hi<=g):fE lo hi w' v U:=by
 obtain ⟨f,h1,E⟩:=h;exact ⟨f,h1.only o D,fun i u hu=>by obtain ⟨a,b,c,d⟩:=E i u hu;exact ⟨a,b,c,d.only o D⟩⟩
theorem fE.quiet (h:fE lo hi w v U) (o:ae [] w w'):fE lo hi w' v U:=h.only o Qb
theorem fE.mono (h:fE lo hi w v U) (E:lo'<=lo) (D:hi<=hi'):fE lo' hi' w v U:=by
 obtain ⟨f,h1,F⟩:=h;exact ⟨f,h1.mono E D,fun i u hu=>by obtain ⟨a,b,c,d⟩:=F i u hu;exact ⟨a,b,c,d.mono E D⟩⟩
theorem fE.open (h:fE lo hi w v U):∃ (a:Option Addr) (cap:Nat),v=.slice a U.length cap/\U.length<=cap/\cap<=maxLen /\
  ∀ i u,U[i]?=some u->∃ b off E,a=some ⟨b,off,none⟩/\lo<=b/\b<hi/\w.cell? ⟨b,off+i*4,none⟩=some (.int .i64 u.kind)/\w.cell? ⟨b,off+i*4+1,none⟩=some E /\
   w.cell? ⟨b,off+i*4+2,none⟩=some (.int .i64 u.at_)/\w.cell? ⟨b,off+i*4+3,none⟩=some (.int .i64 u.end_)/\aj .u8 lo hi w E u.data:=by
 obtain ⟨f,h1,L⟩:=h;obtain ⟨a,cap,rfl,x,y,M⟩:=h1.open;refine ⟨a,cap,rfl,x,y,fun i u hu=>?_⟩;have hi':i<U.length:=(List.getElem?_eq_some_iff.1 hu).1;obtain ⟨b,off,e,p,q,D⟩:=M i hi';obtain ⟨F,e2,J,I⟩:=L i u hu;exact ⟨b,off,f i 1,e,p,q,by rw [<- F];exact D 0 Qa,D 1 Qa,by rw [<- e2];exact D 2 Qa,by rw [<- J];exact D 3 Qa,I⟩
end
def oc (base:Nat) (w:World) (v:Value) (U:List cu):Prop :=
 ∃ xs,w.ownsRow base 197 4 v U.length xs/\∀ i u,U[i]?=some u->xs[i*4]?=some (.int .i64 u.kind)/\xs[i*4+2]?=some (.int .i64 u.at_)/\xs[i*4+3]?=some (.int .i64 u.end_) /\
  ∃ dv b,xs[i*4+1]?=some dv/\aj .u8 b (b+1) w dv u.data/\(u.data≠[]->base<=b/\b<w.heap.size/\v.ownBlock≠some b)
section
variable {base:Nat} {w w':World} {v v':Value} {U:List cu}
theorem oc.nil (base:Nat) (w:World):oc base w (.slice none 0 0) []:=⟨[],World.ownsRow_nil _ _ _ _,Qb⟩
theorem oc.at (h:oc base w v U):∀ g,v.ownBlock=some g->base<=g/\g<w.heap.size:=by obtain ⟨xs,h1,_⟩:=h;exact h1.lt
theorem oc.quiet (h:oc base w v U) (o:ae [] w w'):oc base w' v U:=by
 obtain ⟨xs,h1,L⟩:=h;refine ⟨xs,dN h1 o Qb,fun i u hu=>?_⟩;obtain ⟨a,b,c,J,g,E,F,I⟩:=L i u hu;exact ⟨a,b,c,J,g,E,F.quiet o,fun D=>by have:=I D;exact ⟨this.1,PH this.2.1 o.size,this.2.2⟩⟩
theorem oc.isSlice (h:oc base w v U):∃ a cap,v=.slice a U.length cap:=by
 obtain ⟨xs,h1,_⟩:=h;obtain ⟨_,a,cap,rfl,_⟩:=cf.of_own h1;exact ⟨a,cap,rfl⟩
theorem oc.units (h:oc base w v U):fE base w.heap.size w v U:=by
 obtain ⟨xs,h1,J⟩:=h;have N:=h1.1;refine ⟨fun i j=>xs.getD (i*4+j) undef,ir.of_own h1 (fun i j hi M=>?_),fun i u hu=>?_⟩
 ·have:i*4+j<xs.length:=Qa
  simp [this]
 ·obtain ⟨a,b,c,L,g,F,D,I⟩:=J i u hu
  refine ⟨?_,?_,?_,?_⟩
  ·show xs.getD (i*4+0) undef=_
   rw [Nat.add_zero,Pd,a];rfl
  ·show xs.getD (i*4+2) undef=_
   rw [Pd,b];rfl
  ·show xs.getD (i*4+3) undef=_
   rw [Pd,c];rfl
  ·show aj .u8 base w.heap.size w (xs.getD (i*4+1) undef) _
   rw [Pd,F];by_cases E:u.data=[]
   ·rw [E] at D |-;exact D.empty
   ·have:=I E
    exact D.mono Qa Qa
theorem oc.snoc {xs:List Value} {k:Int} {D:Value} {data:List Int} {a e lo:Nat} (h1:w.ownsRow base 197 4 v U.length xs)
  (h2:∀ i u,U[i]?=some u->xs[i*4]?=some (.int .i64 u.kind)/\xs[i*4+2]?=some (.int .i64 u.at_)/\xs[i*4+3]?=some (.int .i64 u.end_) /\
   ∃ D b,xs[i*4+1]?=some D/\aj .u8 b (b+1) w D u.data/\(u.data≠[]->base<=b/\b<w.heap.size/\v.ownBlock≠some b))
  (N:aj .u8 lo w.heap.size w D data) (hb:base<=lo) (hv:∀ g,v.ownBlock=some g->g<lo)
  (Y:w'.ownsRow base 197 4 v' (U.length+1) (xs ++ [.int .i64 k,D,.int .i64 a,.int .i64 e])) (x:p9 v w v' w'):oc base w' v' (U ++ [⟨k,data,a,e⟩]):=by
 have hl:=h1.1;have O:∀ b,b<w.heap.size->v.ownBlock≠some b->v'.ownBlock≠some b:=by
  intro b hb hn e;rcases x.at_ with h | h
  ·exact hn (h ▸ e)
  ·have:=h b e;omega
 have L:∀ (D:Value) (b:Nat) (l:List Int),aj .u8 b (b+1) w D l->(l≠[]->base<=b/\b<w.heap.size/\v.ownBlock≠some b)->aj .u8 b (b+1) w' D l/\(l≠[]->base<=b/\b<w'.heap.size/\v'.ownBlock≠some b):=by
  intro D b l I E;refine ⟨?_,fun M=>?_⟩
  ·by_cases N:l=[]
   ·rw [N] at I |-;exact I.empty
   ·refine I.only x.only (fun g hg=>?_)
    have:g≠b:=by rintro rfl;exact (E N).2.2 Qn
    omega
  ·obtain ⟨p,q,r⟩:=E M
   exact ⟨p,PH q x.only.size,O b q r⟩
 refine ⟨_,by rw [Pn];exact Y,fun i u hu=>?_⟩;by_cases hi:i<U.length
 ·rw [Pu hi] at hu
  obtain ⟨Z,e2,e3,d,b,e1,I,E⟩:=h2 i u hu;obtain ⟨J,F⟩:=L d b u.data I E;exact ⟨by rw [Pu Qa];exact Z,by rw [Pu Qa];exact e2,by rw [Pu Qa];exact e3,d,b,by rw [Pu Qa];exact e1,J,F⟩
 ·have V:=(List.getElem?_eq_some_iff.1 hu).1
  simp only [Pn,List.length_singleton] at V;obtain rfl:i=U.length:=Qa;rw [Pt (Pm _),Nat.sub_self] at hu;injection hu with hu
  subst hu;obtain ⟨b,I,E⟩:=N.tight;obtain ⟨J,F⟩:=L D b data I (fun M=>⟨by have:=E M;omega,(E M).2,fun e=>by have:=hv b e;have:=E M;omega⟩);refine ⟨?_,?_,?_,D,b,?_,J,F⟩
  ·rw [Pt Qa,show U.length*4-xs.length=0 by omega];rfl
  ·rw [Pt Qa,show U.length*4+2-xs.length=2 by omega];rfl
  ·rw [Pt Qa,show U.length*4+3-xs.length=3 by omega];rfl
  ·rw [Pt Qa,show U.length*4+1-xs.length=1 by omega];rfl
end
theorem EU:iF prog 193 197 (.agg #[(),d8,(),()]) 4 48:=iF.mk' underlying193 Qc rfl Qa Qa
def cW (kind:Int) (l:List Int):List Int:=[kind,(l.length:Int) / 65536,(l.length:Int) / 256 % 256,(l.length:Int) % 256] ++ l
def dR (kind:Int) (l:List Int):List Int:=cW kind l ++ be (B9 (cW kind l)) 4
def kL (kind:Int) (l:List Int):Except Int (List Int) :=
 if kind<0\/255<kind\/(kind=0/\0<l.length) then .error 13
 else if 65536<l.length then .error 5
 else if kind=0 then .ok [0]
 else .ok (dR kind l)
theorem dL (kind:Int) (l:List Int):(dR kind l).length=l.length+8:=by simp [dR,cW,vE]
theorem oN {kind:Int} {l:List Int} (h:kind<0\/255<kind\/(kind=0/\0<l.length)):kL kind l=.error 13:=by simp [kL,h]
def B3 (c:Nat):List Int:=[(c:Int) / 16777216,(c:Int) / 65536 % 256,(c:Int) / 256 % 256,(c:Int) % 256]
theorem Cb {c:Nat} (h:c<4294967296):be c 4=B3 c:=by
 have e:be c 4=[(c:Int) / 16777216 % 256,(c:Int) / 65536 % 256,(c:Int) / 256 % 256,(c:Int) / 1 % 256]:=rfl;rw [e,B3];simp only [List.cons.injEq,and_true,Int.ediv_one];omega
theorem FI {c:Nat} (h:c<4294967296):∀ x∈B3 c,i7 .u8 x:=by rw [<- Cb h];exact yM _ _
def IJ (w:World) (r:Except Int (List Int)) (e:Ending) (w':World):Prop :=
 ae [] w w'/\match r with
  | .ok b=>∃ v,e=.returned (.tuple #[v,.nilIface])/\f9 .u8 5 w.heap.size w' v b
  | .error c=>e=.returned (.tuple #[d8,.iface 36 (.int .i64 c)])
theorem Ao {lo hi:Nat} (kind:Int) {v:Value} {l:List Int} {w:World} (h:aj .u8 lo hi w v l) :
  Calls prog 118 #[kind,v] w (IJ w (kL kind l)):=by
 have QJ:=h.1.len_le;unfold maxLen at QJ;obtain ⟨a,cap,rfl,Sv,hm,RO,QR⟩:=h.open;clear RO QR;have Hm:=lh hm;clear hm;by_cases TW:kind<0
 ·go_enter func118,ntmps118
  go_wp2;go_ret2;rw [oN (.inl TW)];exact ⟨AY,rfl⟩
 by_cases RM:255<kind
 ·go_enter func118,ntmps118
  go_wp2;go_ret2;rw [oN (.inr (.inl RM))];exact ⟨AY,rfl⟩
 by_cases M:kind=0
 ·subst M
  by_cases Xk:0<l.length
  ·go_enter func118,ntmps118
   go_wp2;go_ret2;rw [oN (.inr (.inr ⟨rfl,Xk⟩))];exact ⟨AY,rfl⟩
  ·have Y:l=[]:=List.eq_nil_of_length_eq_zero Qa
   have D:kL 0 l=.ok [0]:=by subst Y;simp [kL]
   have Hz:=lh Y;have I:=lh D;clear Y D;go_enter func118,ntmps118;go_wp2;go_ret2;rw [I.out];exact ⟨(AY).alloc _,_,rfl,nO rfl Qj (by simp [i7]) 1 rfl⟩
 ·have JJD:(kind == 0)=false:=by simpa using M
  by_cases Z:65536<l.length
  ·have D:kL kind l=.error 5:=by simp [kL,Z,M];omega
   have I:=lh D;clear D;go_enter func118,ntmps118;go_wp2;go_ret2;rw [I.out];exact ⟨AY,rfl⟩
  ·have D:kL kind l=.ok (dR kind l):=by simp [kL,Z,M];omega
   have I:=lh D;clear D;go_enter func118,ntmps118;have QS:∀ x∈[kind,(l.length:Int) / 65536,(l.length:Int) / 256 % 256,(l.length:Int) % 256],i7 .u8 x:=by
    simp only [Pg,Ph,l7,forall_eq_or_imp,n7,i7];omega
   have F:([kind,(l.length:Int) / 65536,(l.length:Int) / 256 % 256,(l.length:Int) % 256] ++ l).length<=70000:=Qm;have E:=lh F;clear F
   go_wp2_with (first
    | (at_builtin;refine au rfl (.tmp 47) (.tmp 48) _ rfl E8 (nO (l:=[kind,(l.length:Int) / 65536,(l.length:Int) / 256 % 256,(l.length:Int) % 256]) rfl Qj QS 4 rfl) rfl (h.quiet ((AY).alloc _)) rfl ?c1 ?c2 (fun v1 w1 L N=>?_))
    | (go_at_call 180;refine (yG L.ints).mono ?_;rintro e w' ⟨rfl,rfl⟩;have V:=xK _ L.2;generalize J:B9 _=c at *;have O:=lh J;clear J)
    | (at_builtin;refine au rfl (.tmp 52) (.tmp 64) _ rfl E8 (L.quiet ((AY).alloc _)) rfl (zP (l:=B3 c) rfl (by simp [maxLen,B3]) (FI V) 4 rfl) rfl ?c3 ?c4 (fun v2 w2 Ri Sc=>?_)))
   case c1=>have:=E.out;simp only [Pn] at this;omega
   case c3=>have:=E.out;simp only [Pn,Pq,Pr,B3] at this |-;omega
   case c4=>have:=N.only.size;simp at this |-;omega
   go_ret2;rw [I.out];have Ru:=N.only.size;simp only [World.size_alloc] at Ru;have XP:∀ g,v1.ownBlock=some g->w.heap.size<=g:=N.base (by simp [Value.ownBlock]) Qb;have hA:ae [] w w1:=((ae.refl [] w).alloc _).trans N.only Qb (by simp [Value.ownBlock]);have hB:ae [] w w2:=(hA.alloc _).trans Sc.only Qb (by intro g hg QH;have:=XP g Qn;omega);refine ⟨hB,v2,rfl,?_⟩;have e:dR kind l=([kind,(l.length:Int) / 65536,(l.length:Int) / 256 % 256,(l.length:Int) % 256] ++ l) ++ B3 c:=by
    rw [dR,Cb (xK _ ?_)]
    ·rw [<- O.out];rfl
    ·exact L.2
   rw [e];exact Ri
theorem eR {l m:List Int} {i:Nat} (j:Nat) (h:i=l.length+j):(l ++ m).getD i 0=m.getD j 0:=by
 subst h;simp [Pd,Pt (Nat.le_add_right _ _)]
theorem BK {k:Int} {data:List Int} (E:1<=k/\k<=255) (F:data.length<=65536) (D:∀ x∈data,i7 .u8 x):∀ x∈cW k data,i7 .u8 x:=by
 intro x hx;simp only [cW,List.cons_append,PL,Pg] at hx;rcases hx with rfl | rfl | rfl | rfl | hx
 ·exact ⟨Qa,Qa⟩
 ·exact ⟨Qa,Qa⟩
 ·exact ⟨Qa,Qa⟩
 ·exact ⟨Qa,Qa⟩
 ·exact D x hx
theorem tQ {k:Int} {data B:List Int} (p:Nat) (O:1<=k/\k<=255) (V:data.length<=65536) (N:∀ x∈data,i7 .u8 x):gA (dR k data ++ B) p=.ok ⟨k,data,p,p+(8+data.length)⟩:=by
 have F:=xK _ (BK O V N);have D:(cW k data).length=4+data.length:=by simp [cW];omega
 have e:dR k data ++ B=cW k data ++ (B3 (B9 (cW k data)) ++ B):=by rw [dR,Cb F,PM]
 rw [e];have M:∀ T,rP (cW k data ++ T)=data.length:=by
  intro T;simp only [rP,cW,List.cons_append,PL,List.getD_cons_succ,List.getD_cons_zero];omega
 have E:∀ (c:Nat),c<4294967296->LQ (cW k data ++ (B3 c ++ B)) data.length=c:=by
  intro c F;unfold LQ;rw [eR (i:=4+data.length) 0 Qa,eR (i:=5+data.length) 1 Qa,eR (i:=6+data.length) 2 Qa,eR (i:=7+data.length) 3 Qa];simp only [B3,List.cons_append,PL,List.getD_cons_succ,List.getD_cons_zero];omega
 have L:∀ c,(cW k data ++ (B3 c ++ B)).length=8+data.length+B.length:=by intro c;simp [B3,D];omega
 have h0:∀ T,(cW k data ++ T).getD 0 0=k:=fun T=>rfl
 have J:∀ T,(cW k data ++ T).take (4+data.length)=cW k data:=fun T=>by rw [<- D,List.take_left]
 have I:∀ T,(((cW k data ++ T).drop 4).take data.length)=data:=fun T=>by
  have:(cW k data ++ T).drop 4=data ++ T:=by simp [cW]
  rw [this,List.take_left]
 unfold gA;rw [h0,if_neg Qa,if_neg (by rw [L];omega),M,if_neg Qa,if_neg (by rw [L];omega)];simp only [Int.toNat_natCast];rw [J,E _ F,if_neg Qb,I]
theorem oY {c:bw} (h:cK c=none):1<=c.kind/\c.kind<=4/\c.data.length<=65536:=by
 unfold cK at h
 split at h
 ·cases h
 rename_i hk
 have D:jY c.kind=true:=by simpa using hk
 simp only [jY,r9] at D
 split at h
 ·split at h
  ·cases h
  ·omega
 split at h
 ·cases h
 split at h
 ·cases h
 split at h
 ·cases h
 omega
def xJ (c:bw):Int:=(c.data.length:Int)+8
def fd (l:List bw):List Int:=l.map xJ
theorem uU {l:List bw} {k:Nat} (h:k<l.length):fd (l.take (k+1))=fd (l.take k) ++ [((l.getD k default).data.length:Int)+8]:=by
 rw [UJ h,fd,PN];simp [fd,xJ,h]
theorem Il {lo hi:Nat} {v:Value} {l:List bw} {w:World} (h:cm lo hi w v l) (hl:l.length<=1000000) (D:∀ i,i<l.length->(l.getD i default).data.length<=1000000000000000) :
  Calls prog 58 #[v] w fun e w'=>∃ v',e=.returned v'/\f9 .i64 3 w.heap.size w' v' (fd l)/\ae [] w w':=by
 obtain ⟨a,cap,hv,Sv,RN,Wz⟩:=h.open;subst hv;have J:=lh Wz;have Hl:=lh hl;have Hd:=lh D;have Th:(l.length:Int)<=9223372036854775807:=Qa;clear h Wz RN Sv hl D;go_enter func58,ntmps58;go_wp2;go_loopw [8,3] (fun i y wr=>∃ k:Nat,k<=l.length/\i=.int .i64 k/\f9 .i64 3 w.heap.size wr y (fd (l.take k))/\bj w.heap.size y/\ae [] w wr) (fun i _ _=>l.length-(intOf i).toNat)
 case atStart=>exact ⟨0,Qa,rfl,f9.nil _ _ _ _,bj.nil _,AY⟩
 case round =>
  obtain ⟨k,hk,rfl,O,Z,E⟩:=hrel;by_cases L:k<l.length
  ·obtain ⟨b,off,dv,rfl,_,_,Sq,SE,_,D⟩:=J.out k L
   have c1:=E.cell Sq Qb;have c2:=E.cell SE Qb;obtain ⟨da,VX,rfl,_⟩:=D.open;have Up:=Hd.out k L;have hs:=uU L;have N:(fd (l.take k)).length=k:=by simp [fd];omega
   have F:=fun o=>D.quiet (E.q (ae.new wr o))
   clear Sq SE D;have Hs:=lh hs;clear hs;generalize fd (l.take k)=S0 at *
   generalize l.getD k default=x at *
   have Ra:=lh N;have I:=lh F;have hx:(0:Int)<=(k:Int):=Qa;have RZ:(k:Int)<(l.length:Int):=Qa;clear N F
   go_wp2_with (first
    | (go_at_call 50;(refine (zq (I.out _) Qa).mono ?_);rintro e w2 ⟨rfl,M⟩)
    | (at_builtin;refine au rfl (.tmp 12) (.tmp 15) _ rfl EI (O.quiet (((BS).q M).q (BS))) rfl (aU (l:=[(x.data.length:Int)+8]) rfl Qj ?c0 1 rfl rfl) rfl ?c1 ?c2 (fun v1 w1 QG Y=>?_))
    | fail)
   case c0=>simp only [Pg,Ph,l7,n7,i7];omega
   case c1=>have:=Ra.out;have:=Hl.out;simp;omega
   case c2=>have:=E.size;have:=M.size;simp at this |-;omega
   have V:=(E.q (BS)).q (M.q (ae.new _ (.cells #[.int .i64 ((x.data.length:Int)+8)] 3)));go_roundw
   case rel=>exact ⟨k+1,Qa,Qh,by rw [Hs.out];exact QG,Y.from_ Z V.size,V.acc Y Z⟩
   case measure=>simp [intOf];omega
  ·obtain rfl:k=l.length:=Qa
   go_wp2;go_ret;exact ⟨_,rfl,by simpa using O,E⟩
def qq:ByteArray:=⟨#[103,111,112]⟩
def pS (k:cJ):List Int:=dR 32 [k.number,k.first,k.count] ++ k.coded.flatMap fun c=>dR c.kind c.data
theorem zD:∀ l:List bw,((l.flatMap fun c=>dR c.kind c.data).length:Int)=(fd l).sum
 | []=>rfl
 | c :: l=>by
  rw [List.flatMap_cons,Pn,dL,PQ,zD l];simp only [fd,PU,List.sum_cons,xJ];omega
theorem GY (k:cJ):((pS k).length:Int)=11+(fd k.coded).sum:=by
 unfold pS;rw [Pn,dL,PQ,zD];simp
def fq (n:Nat) (k:cJ) (u:cu):Except Int cJ :=
 if n=0 then (if u.kind=32/\u.data.length=3/\headB (u.data.getD 0 0) (u.data.getD 1 0) (u.data.getD 2 0)=true then .ok ⟨u.data.getD 0 0,u.data.getD 1 0,u.data.getD 2 0,k.coded⟩ else .error 2)
 else if k.count<(n:Int) then .error 5
 else if n=1/\gX u.kind=false then .error 2
 else match cK ⟨u.kind,u.data⟩ with
  | some e=>.error e
  | none=>.ok ⟨k.number,k.first,k.count,k.coded ++ [⟨u.kind,u.data⟩]⟩
def dK:List cu->Nat->cJ->Except l4 cJ
 | [],_,k=>.ok k
 | u :: us,n,k=>match fq n k u with
  | .error e=>.error ⟨[(qq,(n:Int))],e⟩
  | .ok k'=>dK us (n+1) k'
def Cw (E:Option l4) (n:Nat) (k:cJ):Option l4:=match E with
 | some er=>some er
 | none=>if n=0\/(n:Int)<=k.count then some ⟨[],1⟩ else none
def jD:cJ:=⟨0,0,0,[]⟩
def fD (U:List cu) (E:Option l4):Except l4 cJ:=match dK U 0 jD with
 | .error e=>.error e
 | .ok k=>match Cw E U.length k with
  | some er=>.error (C7 qq U.length er)
  | none=>.ok k
theorem AC {u:cu} {us:List cu} {n:Nat} {k:cJ} {e:Int} (h:fq n k u=.error e):dK (u :: us) n k=.error ⟨[(qq,(n:Int))],e⟩:=by rw [dK,h]
theorem lF {u:cu} {us:List cu} {n:Nat} {k k':cJ} (h:fq n k u=.ok k'):dK (u :: us) n k=dK us (n+1) k':=by rw [dK,h]
def zh:List bw->Nat->List cu
 | [],_=>[]
 | c :: l,p=>⟨c.kind,c.data,p,p+(8+c.data.length)⟩ :: zh l (p+(8+c.data.length))
theorem zi:∀ (l:List bw) (p:Nat),(zh l p).length=l.length
 | [],_=>rfl
 | c :: l,p=>by rw [zh,Pq,zi l,Pq]
theorem uy {l:List Int}:∀ (D:List bw) (p:Nat),p<=l.length->l.drop p=D.flatMap (fun c=>dR c.kind c.data)->(∀ c∈D,cK c=none/\∀ x∈c.data,i7 .u8 x)->fe l none p (zh D p)
 | [],p,hp,h,_=>by
  have:p=l.length:=by
   have:=congrArg List.length h;simp at this;omega
  subst this;exact .done rfl
 | c :: D,p,hp,h,hc=>by
  obtain ⟨h1,F⟩:=hc c Qb;obtain ⟨L,N,M⟩:=oY h1;rw [List.flatMap_cons] at h;have J:=congrArg List.length h;rw [Pn,dL,Pp] at J;have E:p<l.length:=Qa;have I:l.drop (p+(8+c.data.length))=D.flatMap fun c=>dR c.kind c.data:=by
   rw [<- List.drop_drop,h];have e:8+c.data.length=(dR c.kind c.data).length:=by rw [dL];omega
   rw [e,List.drop_left]
  refine .more E (by rw [h];exact tQ p ⟨L,Qa⟩ M F) (uy D (p+(8+c.data.length)) Qa I fun x hx=>hc x (by simp [hx]))
def tY (k:cJ):List cu:=⟨32,[k.number,k.first,k.count],0,0+(8+3)⟩ :: zh k.coded (0+(8+3))
def rR (k:cJ):Prop:=gu k=true/\∀ c∈k.coded,∀ x∈c.data,i7 .u8 x
theorem om {k:cJ} (h:rR k):headB k.number k.first k.count=true/\(k.coded.length:Int)=k.count/\gX (k.coded.getD 0 default).kind=true/\∀ c∈k.coded,cK c=none/\∀ x∈c.data,i7 .u8 x:=by
 obtain ⟨h1,E⟩:=h;unfold gu at h1;simp only [t8,r9,t6] at h1;obtain ⟨⟨⟨a,b⟩,c⟩,d⟩:=h1;refine ⟨a,b,c,fun x hx=>⟨?_,E x hx⟩⟩;have D:=d x hx;cases hr:cK x with
 | none=>rfl
 | some e=>rw [hr] at D;cases D
theorem Ey {k:cJ} (h:headB k.number k.first k.count=true):∀ x∈[k.number,k.first,k.count],i7 .u8 x:=by
 unfold headB at h;rw [r9] at h;intro x hx;simp only [Pg,Ph,l7] at hx;rcases hx with rfl | rfl | rfl
 ·exact ⟨Qa,Qa⟩
 ·exact ⟨Qa,Qa⟩
 ·exact ⟨Qa,Qa⟩
theorem LO {k:cJ} (h:rR k):fe (pS k) none 0 (tY k):=by
 obtain ⟨h1,E,F,D⟩:=om h;have I:(pS k).length=11+(k.coded.flatMap fun c=>dR c.kind c.data).length:=by
  unfold pS;rw [Pn,dL];simp
 refine .more Qa (by rw [List.drop_zero];unfold pS;exact tQ (k:=32) 0 Ql Qb (Ey h1)) ?_;refine uy k.coded (0+(8+3)) Qa ?_ D;unfold pS;have e:0+(8+3)=(dR 32 [k.number,k.first,k.count]).length:=by rw [dL];simp
 rw [e,List.drop_left]
theorem pT {num f cnt:Int}:∀ (E:List bw) (p:Nat) (D:List bw),(∀ c∈E,cK c=none)->((D.length+E.length:Nat):Int)<=cnt->(D=[]->E≠[]->gX (E.getD 0 default).kind=true) ->
  dK (zh E p) (D.length+1) ⟨num,f,cnt,D⟩=.ok ⟨num,f,cnt,D ++ E⟩
 | [],p,D,_,_,_=>by rw [zh,dK,Px]
 | c :: E,p,D,h,hl,hf=>by
  have J:fq (D.length+1) ⟨num,f,cnt,D⟩ ⟨c.kind,c.data,p,p+(8+c.data.length)⟩=.ok ⟨num,f,cnt,D ++ [c]⟩:=by
   unfold fq;dsimp only;rw [if_neg Qa,if_neg (by simp only [Pq] at hl;omega),if_neg]
   ·rw [show cK ⟨c.kind,c.data⟩=none from h c Qb]
   ·rintro ⟨L,e2⟩
    have:D=[]:=List.eq_nil_of_length_eq_zero Qa;have F:=hf this Qb;simp only [List.getD_cons_zero] at F;rw [F] at e2;cases e2
  have I:=pT (num:=num) (f:=f) (cnt:=cnt) E (p+(8+c.data.length)) (D ++ [c]) (fun x hx=>h x (by simp [hx])) (by simp only [Pn,Pq,Pr] at hl |-;omega) Qb;rw [zh,lF J];simp only [Pn,Pq,Pr,PM,List.cons_append,PL] at I |-
  exact I
theorem Dw {k:cJ} (h:rR k):fD (tY k) none=.ok k:=by
 obtain ⟨h1,M,E,F⟩:=om h;have J:fq 0 jD ⟨32,[k.number,k.first,k.count],0,0+(8+3)⟩=.ok ⟨k.number,k.first,k.count,[]⟩:=by
  unfold fq;rw [if_pos rfl,if_pos ⟨rfl,rfl,h1⟩]
  rfl
 have D:=pT (num:=k.number) (f:=k.first) (cnt:=k.count) k.coded (0+(8+3)) [] (fun c D=>(F c D).1) (by simp only [Pr,Nat.zero_add];omega) (fun _ _=>E);have I:dK (tY k) 0 jD=.ok k:=by
  unfold tY;rw [lF J];simpa using D
 have L:(tY k).length=k.coded.length+1:=by unfold tY;rw [Pq,zi]
 unfold headB at h1;rw [r9] at h1;unfold fD;rw [I];simp only [Cw,L];rw [if_neg Qa]
theorem MZ {l:List Int} {E E':Option l4} {p:Nat} {U:List cu} (h:fe l E p U):∀ {F:List cu},fe l E' p F->U=F/\E=E':=by
 induction h with
 | done e =>
  intro F g;cases F with
  | nil =>
   rcases g.peek_nil with ⟨-,e2,-⟩ | ⟨h3,-⟩
   ·exact ⟨rfl,e.trans e2.symm⟩
   ·exact absurd h3 (Nat.lt_irrefl _)
  | cons u us=>exact absurd g.peek_cons.1 (Nat.lt_irrefl _)
 | @bad p er h1 h2 h3 =>
  intro F g;cases F with
  | nil =>
   rcases g.peek_nil with ⟨e1,-,-⟩ | ⟨-,er',e2,D⟩
   ·omega
   ·unfold pU at D
    rw [if_neg Qa,h2] at D;cases D;exact ⟨rfl,h3.trans e2.symm⟩
  | cons u us =>
   have D:=g.peek_cons.2.1;unfold pU at D;rw [if_neg Qa,h2] at D;cases D
 | @more p u us h1 h2 h3 ih =>
  intro F g;cases F with
  | nil =>
   rcases g.peek_nil with ⟨e1,-,-⟩ | ⟨-,er',e2,D⟩
   ·omega
   ·unfold pU at D
    rw [if_neg Qa,h2] at D;cases D
  | cons v vs =>
   obtain ⟨-,D,I⟩:=g.peek_cons;unfold pU at D;rw [if_neg Qa,h2] at D;cases D;obtain ⟨rfl,J⟩:=ih I;exact ⟨rfl,J⟩
theorem LN {l:List Int} {E:Option l4} {p:Nat} {U:List cu} (I:∀ x∈l,i7 .u8 x) (h:fe l E p U):p<=l.length->∀ u∈U,0<=u.kind/\u.kind<=255:=by
 induction h with
 | done e=>intro _ u hu;simp at hu
 | bad h1 h2 h3=>intro _ u hu;simp at hu
 | @more p u us h1 h2 h3 ih =>
  intro J v F;have D:=Ax h2 (by rw [Pp];omega) (fun x hx=>I x (List.mem_of_mem_drop hx));rw [Pp] at D;rcases Zb.1 F with rfl | F
  ·exact ⟨D.2.2.2.1,D.2.2.2.2.1⟩
  ·exact ih Qa v F
theorem Gt {n:Nat} {k k':cJ} {u:cu} (h:fq n k u=.ok k'):k'.coded.length<=k.coded.length+1:=by
 unfold fq at h
 split at h
 ·split at h
  ·cases h;simp
  ·cases h
 split at h
 ·cases h
 split at h
 ·cases h
 split at h
 ·cases h
 ·cases h;simp
theorem Du {U:List cu} {E:Option l4} {e:l4} (h:dK U 0 jD=.error e):fD U E=.error e:=by unfold fD;rw [h]
theorem oV {U:List cu} {E:Option l4} {k:cJ} {er:l4} (h:dK U 0 jD=.ok k) (D:Cw E U.length k=some er):fD U E=.error (C7 qq U.length er):=by unfold fD;rw [h];simp only [D]
theorem AA {U:List cu} {E:Option l4} {k:cJ} (h:dK U 0 jD=.ok k) (D:Cw E U.length k=none):fD U E=.ok k:=by unfold fD;rw [h];simp only [D]
def Mf (l:List Int) (w:World) (e:Ending) (w':World):Prop :=
 ae [] w w'/\∃ U E ua uc ev,e=.returned (.tuple #[.slice ua (List.length U) uc,ev])/\fe l E 0 U/\fE w.heap.size w'.heap.size w' (.slice ua U.length uc) U /\
  oh w.heap.size w'.heap.size w' ev E/\U.length<=l.length
theorem CU {lo hi:Nat} {v:Value} {l:List Int} {w:World} (h:aj .u8 lo hi w v l) (hl:l.length<=100000000) :
  Calls prog 115 #[v] w (Mf l w):=by
 refine aK fun Q QF=>?_
 have hr8:=lh h.2;obtain ⟨a,cap,hv,Sv,RN,_⟩:=h.open;subst hv;have Hh:=lh h;have Th:(l.length:Int)<=9223372036854775807:=Qa;have Hl:=lh hl;clear h hl RN Sv;go_enter func115,ntmps115;go_wp2_with fail;go_loopw [4,5,6,7] (fun x i _ _ wr=>∃ (p:Nat) (U:List cu),p<=l.length/\i=.int .i64 p/\Hid (U.length<=p)/\Hid (∀ E us,fe l E p us->fe l E 0 (U ++ us))/\Hid (oc w.heap.size wr x U)/\Hid (ae [] w wr)) (fun _ i _ _ _=>l.length-(intOf i).toNat)
 case atStart=>exact ⟨0,[],Qa,rfl,lh Qb,lh (fun _ _ h=>h),lh (oc.nil _ _),lh (AY)⟩
 case round =>
  obtain ⟨p,U,hp,rfl,L,ZV,SG,Z⟩:=hrel;obtain ⟨xa,V,rfl⟩:=SG.out.isSlice;by_cases QH:p<l.length
  ·have HN:=lh (Kl p (Hh.out.quiet Z.out) QH)
   have Tl:(p:Int)<(l.length:Int):=Qa;have hp0:(0:Int)<=(p:Int):=Qa;cases hres:gA (l.drop p) p with
   | error er =>
    have Sm:Hid (fe l (some er) 0 U):=lh (by have:=ZV.out (some er) [] (.bad QH hres rfl);rwa [Px] at this);have Joj:=lh hres;clear hres ZV;go_wp2_with fail;refine HN.out.mono ?_;rintro e w1 hP;unfold mt at hP;rw [Joj.out] at hP;obtain ⟨QI,ev,rfl,Yh⟩:=hP;obtain ⟨et,eu,rfl⟩:=Yh.held;have M:=ae.new w1 (.cells #[(),d8,(),()] 197);have HEv:=lh ((Yh.quiet M).mono Z.out.size M.size);have QO:=lh (QI.q M);have UN:=lh (QI.q M).size;clear QI M Yh;go_wp2_with fail;refine QF.out _ _ ⟨Z.out.q QO.out,U,some er,xa,V,_,rfl,Sm.out,?_,HEv.out,by have:=L.out;omega⟩;exact (SG.out.units.quiet QO.out).mono (Pm _) UN.out
   | ok u =>
    obtain ⟨uk,F,uat,D⟩:=u;have QM:=Ax hres (by rw [Pp];omega) (fun x hx=>hr8.out x (List.mem_of_mem_drop hx));rw [Pp] at QM;simp only at QM;obtain ⟨Jvy,hue,JvA,-,-,hud⟩:=QM;have Jvz:p=uat:=Jvy.symm;clear Jvy;subst Jvz;have JzR:Hid (∀ E us,fe l E D us->fe l E 0 ((U ++ [⟨uk,F,p,D⟩]) ++ us)):=lh (fun E us h=>by
     rw [PM];exact ZV.out E _ (.more QH hres h))
    have Joj:=lh hres;have Hue:=lh (VL hue (VL JvA hud));clear hres ZV hue JvA hud;go_wp2_with fail;refine HN.out.mono ?_;rintro e w1 hP;unfold mt at hP;rw [Joj.out] at hP;obtain ⟨QI,dv,rfl,hdv⟩:=hP;obtain ⟨J,I,rfl,_⟩:=hdv.open;have HDv:=lh hdv;have QO:=lh QI;clear hdv QI;simp only;have hnA:=ae.new w1 (.cells #[uk,.slice J F.length I,p,D] 197);have HRU:=lh (Sd w1 (.cells #[uk,.slice J F.length I,p,D] 197));have QT:=lh (QO.out.q hnA);have ZY:=lh (HDv.out.quiet hnA);have Xs:Hid (w1.heap.size<(w1.alloc (.cells #[uk,.slice J F.length I,p,D] 197)).heap.size):=lh Qb;clear hnA;go_upto_region 5 with (fail)
    generalize VZ:World.alloc w1 _=w2 at *
    clear VZ;obtain ⟨y0,y1,y2,y3⟩:=aw HRU.out;have Y:=QT.out.alloc (.cells #[uk,.slice J F.length I,p,D] 197);have HU3:=lh (SG.out.quiet Y);have Hd3:Hid (aj .u8 wr.heap.size (w2.alloc (.cells #[uk,.slice J F.length I,p,D] 197)).heap.size _ (.slice J F.length I) F):=lh ((ZY.out.quiet (ae.new w2 (.cells #[uk,.slice J F.length I,p,D] 197))).mono (Pm _) (by have:=Xs.out;have:=(ae.new w2 (.cells #[uk,.slice J F.length I,p,D] 197)).size;omega));have HqC:=lh Y;have hvb:∀ g,(Value.slice xa U.length V).ownBlock=some g->g<wr.heap.size:=fun g hg=>(SG.out.at g hg).2
    have Hvb:=lh hvb;have hz1:=QO.out.size;have RI:cf 4 w2.heap.size (w2.heap.size+1) (w2.alloc (.cells #[uk,.slice J F.length I,p,D] 197)) (.slice w2.heap.size 1 1) 1 [.int .i64 uk,.slice J F.length I,.int .i64 p,.int .i64 D]:=fG rfl rfl Qj rfl;obtain ⟨xs,RZ,hx2⟩:=HU3.out;have HX2:=lh hx2;have Vm:∀ u∈[Value.int .i64 uk,.slice J F.length I,.int .i64 p,.int .i64 D],u.oneCell'=true:=by
     intro u hu;simp only [Pg,Ph,l7] at hu;rcases hu with rfl | rfl | rfl | rfl <;> rfl
    have h63:U.length+1<=maxLen:=by unfold maxLen;have:=Hl.out;have:=L.out;omega
    have TU:(U.length+1)*48<=140737488355328:=pm Hl L
    have Tn:w.heap.size<=(w2.alloc (.cells #[uk,.slice J F.length I,p,D] 197)).heap.size:=by have:=Y.size;have:=Z.out.size;omega
    have HY3:=lh y3;have Hnn:=lh (VL h63 (VL TU Tn));have HZw:=lh hz1;clear Y hx2 hvb h63 TU Tn hz1;have N:=lh (VL RZ (VL RI Vm));clear RZ RI Vm
    go_wp2_with (first
     | (at_builtin;refine dH rfl (.tmp 22) (.tmp 24) 193 rfl EU N.out.1 rfl N.out.2.1 rfl N.out.2.2 Hnn.out.1 Hnn.out.2.1 Hnn.out.2.2 (fun v3 w3 TQ ZP O=>?_);have Ho3:=lh TQ;have Hq3:=lh (VL ZP O);have u3:=ZP.cell ((ae.new w2 _).cell HY3.out Qb) (fun hm=>by have:=Hvb.out w1.heap.size Qr;have:=HZw.out;omega);obtain ⟨x3,JvT,rfl⟩:∃ a c,v3=.slice a (U.length+1) c:=(by obtain ⟨_,a,cap,h,_⟩:=cf.of_own TQ;exact ⟨a,cap,h⟩);clear TQ ZP O)
     | fail)
    obtain ⟨ZP,O⟩:=Hq3.out;have JAJ:p9 (.slice xa U.length V) (w2.alloc (.cells #[uk,.slice J F.length I,p,D] 197)) (.slice x3 (U.length+1) JvT) w3:=⟨ZP,O.imp id fun e g hg=>by rw [e] at hg;injection hg with hg;omega⟩
    have hzC:=HqC.out.size;have hzO:=Z.out.size;have Ts:=oc.snoc (a:=p) (e:=D) (k:=uk) (lo:=wr.heap.size) N.out.1 HX2.out Hd3.out Qa Hvb.out Ho3.out JAJ;refine ⟨⟨D,U ++ [⟨uk,F,p,D⟩],by have:=Hue.out.2.1;omega,rfl,lh (by have:=L.out;have:=Hue.out.1;simp;omega),JzR,lh Ts,lh ?_⟩,by have:=Hue.out;simp [intOf];omega⟩;exact (Z.out.q HqC.out).trans ZP Qb (fun g hg QH=>absurd QH (j0 (SG.out.at g Qn)))
  ·obtain rfl:p=l.length:=Qa
   have hx:¬ (l.length:Int)<(l.length:Int):=Qa;have Sm:Hid (fe l none 0 U):=lh (by have:=ZV.out none [] (.done rfl);rwa [Px] at this);clear ZV;go_wp2_with fail;exact QF.out _ _ ⟨Z.out,U,none,xa,V,.nilIface,rfl,Sm.out,SG.out.units,rfl,L.out⟩
theorem cG {p:Prop} (h:p:=by intro wz Rb;obtain ⟨Un,Wx,hS2,hS3⟩:=Rb;obtain ⟨u0,u1,u2,u3⟩:=aw Un;go_simp;try with_reducible rfl):p:=h
theorem mS {p:Prop} (h:p:=by intro wz Rb;obtain ⟨t0,t1,-⟩:=aL Rb;go_simp;try with_reducible rfl):p:=h
theorem EA {w:World} {g:Nat} {x} (h:w.heap[g]?=x):w.drew.heap[g]?=x:=h
theorem ew.only' {lo hi base:Nat} {w w':World} {v:Value} {l:List bw} {S:List Nat} (h:ew lo hi base w v l) (o:ae S w w') (E:∀ g∈S,(g<lo\/hi<=g)/\v.ownBlock≠some g):ew lo hi base w' v l:=by
 obtain ⟨h0,xs,h1,L,M⟩:=h;refine ⟨h0,xs,dN h1 o (fun g D=>(E g D).2),L,fun i c N=>?_⟩;obtain ⟨a,b,J,F,I⟩:=M i c N;exact ⟨a,b,J,F,I.only o (fun g D=>(E g D).1)⟩
def dm (R base:Nat) (w w':World):Prop:=∃ S,ae S w w'/\∀ g∈S,g=R\/base<=g
theorem dm.mk' {R base:Nat} {w w':World} {S:List Nat} (h:ae S w w') (D:∀ g∈S,g=R\/base<=g):dm R base w w':=⟨S,h,D⟩
theorem dm.of {R base:Nat} {w w':World} (h:ae [] w w'):dm R base w w':=⟨[],h,Qb⟩
theorem dm.trans {R base:Nat} {a b c:World} (h:dm R base a b) (k:dm R base b c):dm R base a c:=by
 obtain ⟨S,h1,E⟩:=h;obtain ⟨T,F,I⟩:=k;exact ⟨S ++ T,h1.trans F (fun g D _=>by simp [D]) (fun g D _=>by simp [D]),fun g D=>(B0.1 D).elim (E g) (I g)⟩
def jx (R lo hi base:Nat) (k:cJ) (n:Nat) (u:cu) (w:World) (e:Ending) (w':World):Prop :=
 dm R base w w'/\match fq n k u with
  | .error c=>e=.returned (.iface 36 (.int .i64 c))
  | .ok k'=>e=.returned .nilIface/\∃ cv,w'.heap[R]?=some (.cells #[k'.number,k'.first,k'.count,cv] 119)/\ew lo hi base w' cv k'.coded
theorem jx.bad {R lo hi base:Nat} {k:cJ} {n:Nat} {u:cu} {w w':World} {e:Ending} {c:Int} (h:fq n k u=.error c) (D:e=.returned (.iface 36 (.int .i64 c))) (o:dm R base w w'):jx R lo hi base k n u w e w':=by
 unfold jx;rw [h];exact ⟨o,D⟩
theorem jx.good {R lo hi base:Nat} {k k':cJ} {n:Nat} {u:cu} {w w':World} {e:Ending} {cv:Value} {cells:Array Value} (h:fq n k u=.ok k') (E:e=.returned .nilIface) (o:dm R base w w') (D:cells=#[.int .i64 (k'.number),.int .i64 (k'.first),.int .i64 (k'.count),cv])
  (hr:w'.heap[R]?=some (.cells cells 119)) (F:ew lo hi base w' cv k'.coded):jx R lo hi base k n u w e w':=by
 unfold jx;rw [h];subst D;exact ⟨o,E,cv,hr,F⟩
section
variable {P:Program}
theorem yJ {w:World} {o:Oper} {a:Act} {K:Act->World->Prop} {Q:Exit->Act->World->Prop} (s x:Operand) (t:TypeId)
  (ho:o.op=.call { callee:=.builtin .append,args:=#[s,x],argTypes:=#[t,t] })
  {z:Value} {bytes base lo hi V O:Nat} {v sv:Value} {l m:List bw} {I:List Value} (E:iF P t 31 z 2 bytes)
  (M:ew lo hi base w v l) (hv:a.eval s=v) (hs:cf 2 V O w sv m.length I) (L:qD lo hi w I m) (hx:a.eval x=sv)
  (J:(l.length+m.length)*bytes<=140737488355328) (N:base<=w.heap.size)
  (h:∀ v' w',ew lo hi base w' v' (l ++ m)->p9 v w v' w'->K (a.put o.dst v') w'):o.wp P a w K Q:=by
 have hle:l.length+m.length<=140737488355328:=Pw (Nat.le_mul_of_pos_right _ E.bp) J;obtain ⟨h0,xs,h1,Y⟩:=M;refine jf s x t ho E h1 hv hs hx L.1 (by simp only [maxLen];omega) J N fun v' w' F D Z=>?_
 have ha:p9 v w v' w':=⟨D,Z.imp id fun e g hg=>by rw [e] at hg;injection hg with hg;omega⟩
 refine h v' w' ⟨h0,xs ++ I,by rw [Pn];exact F,(Y.append h1.1 L).only D (fun g hg=>?_)⟩ ha;have:=(h1.lt g Qn).1;omega
end
section
theorem Gs {R lo hi base:Nat} {num Tx cnt:Int} {E:List bw} {cv dv:Value} {uk:Int} {D:List Int} {ua ue:Nat} {w:World} (hr:w.heap[R]?=some (.cells #[num,Tx,cnt,cv] 119)) (ho:ew lo hi base w cv E) (hb:R<base) (hhR:R<lo) (hbw:base<=w.heap.size)
  (hu:aj .u8 lo hi w dv D) (huk:i7 .i64 uk) (Uo:E.length<=100000000) :
  Calls prog 116 #[.pointer R,.int .i64 (0:Nat),.agg #[uk,dv,ua,ue]] w (jx R lo hi base (⟨num,Tx,cnt,E⟩:cJ) 0 (⟨uk,D,ua,ue⟩:cu) w):=by
 refine aK fun Q QF=>?_
 obtain ⟨ca,cc,rfl⟩:=ho.isSlice;obtain ⟨da,dc,rfl,-,-,hda,hdc⟩:=hu.open;have HDa:=lh hda;have J:=lh hdc;have HU:=lh hu;have HO:=lh ho;have HR:=lh hr;have HRb:=lh hb;have HhR:Hid (R<lo):=lh hhR;have HBw:=lh hbw;have Huk:=lh huk;have Hcs:=lh Uo;have QI:=ae.new w (.cells #[uk,.slice da D.length dc,ua,ue] 197);have V:=lh QI;have M:=lh (Sd w (.cells #[uk,.slice da D.length dc,ua,ue] 197));have Rg:=lh (QI.row hr);have UN:Hid ((w.alloc (.cells #[uk,.slice da D.length dc,ua,ue] 197)).heap.size=w.heap.size+1):=lh Qb;have hRw:=s4 (aw hr).1;have HRw:Hid (R<w.heap.size):=lh hRw;have hlu:(D.length:Int)<=9223372036854775807:=by have:=hu.1.len_le;unfold maxLen at this;omega
 clear hr ho hb hhR hbw huk Uo hu hda hdc QI hRw;by_cases h1:uk=32
 ·by_cases h2:D.length=3
  ·obtain ⟨F,I,rfl,JAT,-⟩:=HDa.out 0 Qa
   have O:Hid (F≠R):=lh (j0 HhR.out);clear JAT;have QS:=HU.out.2;have d0:=J.out F I rfl 0 Qa;have d1:=J.out F I rfl 1 Qa;have d2:=J.out F I rfl 2 Qa;rw [Nat.add_zero] at d0;have d0:=V.out.cell d0 Qb;have d1:=V.out.cell d1 Qb;have d2:=V.out.cell d2 Qb;have e0:=HU.out.range (i:=0) Qa;have e1:=HU.out.range (i:=1) Qa;have e2:=HU.out.range (i:=2) Qa;have Z:Hid (fq 0 (⟨num,Tx,cnt,E⟩:cJ) (⟨uk,D,ua,ue⟩:cu)=if headB (D.getD 0 0) (D.getD 1 0) (D.getD 2 0)=true then .ok ⟨D.getD 0 0,D.getD 1 0,D.getD 2 0,E⟩ else .error 2):=lh (by
    unfold fq;rw [if_pos rfl];simp only [h1,h2,true_and])
   generalize D.getD 0 0=x0 at *
   generalize D.getD 1 0=x1 at *
   generalize D.getD 2 0=x2 at *
   have w0:IntKind.i64.wrap x0=x0:=by rw [Pk];unfold i7 at e0;omega
   have w1:IntKind.i64.wrap x1=x1:=by rw [Pk];unfold i7 at e1;omega
   have w2:IntKind.i64.wrap x2=x2:=by rw [Pk];unfold i7 at e2;omega
   obtain ⟨u0,u1,u2,u3⟩:=aw M.out;subst h1;clear QS e0 e1 e2 HDa J HU hlu;generalize D.length=m at *
   subst h2;go_enter func116,ntmps116;go_upto_region 4 with (fail)
   generalize Rs:World.alloc w _=W1 at *
   clear Rs;obtain ⟨r0,r1,r2,r3⟩:=aw Rg.out;have fz0:=Sz _ _ 0 _ _ Rg.out;have L:Hid (∀ wx:World,ae [R] W1 wx->wx.heap[w.heap.size]?=some (.cells #[.int .i64 32,.slice (some ⟨F,I,none⟩) 3 dc,ua,ue] 197)/\wx.cell? ⟨F,I,none⟩=some (.int .u8 x0)/\wx.cell? ⟨F,I+1,none⟩=some (.int .u8 x1)/\wx.cell? ⟨F,I+2,none⟩=some (.int .u8 x2)):=lh (fun wx o=>⟨o.rowAt M.out (eW HRw),o.cell d0 (by rw [i5];exact O.out),o.cell d1 (by rw [i5];exact O.out),o.cell d2 (by rw [i5];exact O.out)⟩);clear d0 d1 d2 u0 u1 u2 u3;refine Tf (S:=(fun wz=>wz.heap[w.heap.size]?=some (.cells #[.int .i64 32,.slice (some ⟨F,I,none⟩) 3 dc,ua,ue] 197)/\wz.cell? ⟨F,I,none⟩=some (.int .u8 x0)/\wz.cell? ⟨F,I+1,none⟩=some (.int .u8 x1)/\wz.cell? ⟨F,I+2,none⟩=some (.int .u8 x2))) Qc ?_ (fun hHeld=>?_)
   ·first | exact L.out _ (AY) | exact L.out _ (AY).drew
   refine e9 0 22 ⟨rfl,cG⟩ ?_;refine e9 1 23 ⟨rfl,cG⟩ ?_;refine e9 2 24 ⟨rfl,cG⟩ ?_;refine e9 3 25 ⟨rfl,cG⟩ ?_;refine e9 4 26 ⟨rfl,cG⟩ ?_;refine e9 5 27 ⟨rfl,cG⟩ ?_;refine e9 6 28 ⟨rfl,cG⟩ ?_;refine e9 7 29 ⟨rfl,cG⟩ ?_;refine e9 8 30 ⟨rfl,cG⟩ ?_;refine e9 9 31 ⟨rfl,cG⟩ ?_;refine e9 10 32 ⟨rfl,cG⟩ ?_;refine e9 11 33 ⟨rfl,cG⟩ ?_;refine e9 12 34 ⟨rfl,cG⟩ ?_;refine e9 13 35 ⟨rfl,cG⟩ ?_;refine e9 14 36 ⟨rfl,cG⟩ ?_;refine e9 15 37 ⟨rfl,cG⟩ ?_;refine e9 16 38 ⟨rfl,cG⟩ ?_;refine e9 17 39 ⟨rfl,cG⟩ ?_;refine e9 18 40 ⟨rfl,cG⟩ ?_;refine e9 19 41 ⟨rfl,cG⟩ ?_;refine j9 20 fun K hK=>?_
   go_simp;generalize Tb:World.setCell _ _ _=W3;have o3:ae [R] W1 W3:=by rw [<- Tb];first | exact (ae.refl [R] W1).setCell (p:=⟨R,0,none⟩) Qb (.int .i64 x0) | exact (ae.refl [R] W1).drew.setCell (p:=⟨R,0,none⟩) Qb (.int .i64 x0)
   have SM:W3.heap[R]?=some (.cells #[x0,Tx,cnt,.slice ca E.length cc] 119):=by rw [<- Tb];first | exact WG _ R 0 _ _ (.int .i64 x0) Rg.out | exact WG _ R 0 _ _ (.int .i64 x0) (EA Rg.out)
   have Ui:=lh o3;have N:=WG _ R 1 _ _ (.int .i64 x1) SM;have hr5:=WG _ R 2 _ _ (.int .i64 x2) N;have HR5:=lh hr5;have o5:=((ae.refl [R] W3).setCell (p:=⟨R,1,none⟩) Qb (.int .i64 x1)).setCell (p:=⟨R,2,none⟩) Qb (.int .i64 x2);have UX:=lh (o3.trans o5 (U:=[R]) (fun _ h _=>h) (fun _ h _=>h));obtain ⟨y0,y1,y2,y3⟩:=aw SM;obtain ⟨z0,z1,z2,z3⟩:=aw N;have fy1:=Sz _ _ 1 _ _ SM;have fy2:=Sz _ _ 2 _ _ SM;have fz2:=Sz _ _ 2 _ _ N;clear Tb o3 SM N hr5 o5;refine ko hK (L.out _ (by first | exact Ui.out | exact Ui.out.drew)) fun hHeld=>?_;clear hK K
   refine e9 21 42 ⟨rfl,cG⟩ ?_;refine e9 22 43 ⟨rfl,cG⟩ ?_;refine j9 23 fun K hK=>?_
   go_simp;generalize XO:World.setCell _ _ _=W4;have Yo:Hid (ae [R] W1 W4):=lh (by rw [<- XO];exact UX.out);have HR4:Hid (W4.heap[R]?=some (.cells #[x0,x1,x2,.slice ca E.length cc] 119)):=lh (by rw [<- XO];exact HR5.out);clear XO y0 y1 y2 y3 z0 z1 z2 z3 fy1 fy2 fz2 UX HR5;refine ko hK (L.out _ (by first | exact Yo.out | exact Yo.out.drew)) fun hHeld=>?_;clear hK K
   refine Wn Qc ?_ _;clear r0 r1 r2 r3 fz0;obtain ⟨r0,r1,r2,r3⟩:=aw HR4.out;have JyD:Hid (ew lo hi base W4 (.slice ca E.length cc) E):=lh ((HO.out.quiet V.out).only' Yo.out (fun g hg=>by rw [i5] at hg;subst hg;exact ⟨.inl HhR.out,fun e=>by have:=HO.out.at _ e;have:=HRb.out;omega⟩));have HJO:Hid (dm R base w W4):=lh ((dm.of V.out).trans (dm.mk' Yo.out (fun g hg=>.inl Qn)));go_upto_region 5 with (fail)
   refine Tf (S:=(fun wz=>wz.cell? ⟨R,0,none⟩=some (.int .i64 x0)/\wz.cell? ⟨R,1,none⟩=some (.int .i64 x1)/\wz.cell? ⟨R,2,none⟩=some (.int .i64 x2))) Qc ?_ (fun hHeld=>?_)
   ·exact ⟨r0,r1,r2⟩
   refine tk 0 44 ?_;refine tk 1 45 ?_;refine tk 2 46 ?_;refine tk 3 47 ?_;refine tk 4 48 ?_;refine tk 5 49 ?_;refine tk 6 50 ?_;refine tk 7 51 ?_;refine j6 8 52 fun K hK=>?_
   go_simp;refine (kJ _ _ _ _).mono ?_;rintro e w5 ⟨rfl,RF⟩;have Y:Hid (ae [] W4 w5):=lh (by first | exact RF | exact ((AY).drew).q RF | exact ((AY).drew.drew).q RF);clear RF;refine ko hK ⟨Y.out.cell r0 Qb,Y.out.cell r1 Qb,Y.out.cell r2 Qb⟩ fun hHeld=>?_;clear hK K
   refine tk 9 53 ?_;refine Wn Qc ?_ _;cases hh:headB x0 x1 x2 with
   | true =>
    have Hh:=lh hh;clear hh;go_wp2_with fail;refine QF.out _ _ (jx.good (k':=⟨x0,x1,x2,E⟩) (by rw [Z.out,if_pos Hh.out]) rfl (HJO.out.trans (dm.of Y.out)) rfl (Y.out.row HR4.out) (JyD.out.quiet Y.out))
   | false =>
    have Hh:=lh hh;clear hh;go_wp2_with fail;exact QF.out _ _ (jx.bad (by rw [Z.out,if_neg (by rw [Hh.out];decide)]) rfl (HJO.out.trans (dm.of Y.out)))
  ·have q2:(((D.length:Nat):Int) == 3)=false:=Qk
   have Z:Hid (fq 0 (⟨num,Tx,cnt,E⟩:cJ) (⟨uk,D,ua,ue⟩:cu)=.error 2):=lh (by unfold fq;rw [if_pos rfl,if_neg (fun h=>h2 h.2.1)]);obtain ⟨u0,u1,u2,u3⟩:=aw M.out;subst h1;clear h2;go_enter func116,ntmps116;go_wp2_with fail;exact QF.out _ _ (jx.bad Z.out rfl (dm.of V.out))
 ·have q1:(uk == 32)=false:=dn A5 h1
  have Z:Hid (fq 0 (⟨num,Tx,cnt,E⟩:cJ) (⟨uk,D,ua,ue⟩:cu)=.error 2):=lh (by unfold fq;rw [if_pos rfl,if_neg (fun h=>h1 h.1)]);obtain ⟨u0,u1,u2,u3⟩:=aw M.out;clear h1;go_enter func116,ntmps116;go_wp2_with fail;exact QF.out _ _ (jx.bad Z.out rfl (dm.of V.out))
theorem yC {p:Prop} (h:p:=by
 go_wp2_with fail;exact QF.out _ _ (jx.bad HJ.out rfl (dm.of HQX.out))):p:=h
theorem Gu {R lo hi base n:Nat} {num V cnt:Int} {E:List bw} {cv dv:Value} {uk:Int} {D:List Int} {ua ue:Nat} {w:World} (hr:w.heap[R]?=some (.cells #[num,V,cnt,cv] 119)) (ho:ew lo hi base w cv E) (hb:R<base) (hhR:R<lo) (hbw:base<=w.heap.size)
  (hu:aj .u8 lo hi w dv D) (huk:i7 .i64 uk) (Xz:n≠0) (hn:n<=100000000) (Uo:E.length<=100000000) :
  Calls prog 116 #[.pointer R,n,.agg #[uk,dv,ua,ue]] w (jx R lo hi base (⟨num,V,cnt,E⟩:cJ) n (⟨uk,D,ua,ue⟩:cu) w):=by
 refine aK fun Q QF=>?_
 obtain ⟨ca,cc,rfl⟩:=ho.isSlice;obtain ⟨F,I,rfl,-,-,hda,hdc⟩:=hu.open;have HDa:=lh hda;have HDc:=lh hdc;have HU:=lh hu;have HO:=lh ho;have HR:=lh hr;have HRb:=lh hb;have HhR:Hid (R<lo):=lh hhR;have HBw:=lh hbw;have Huk:=lh huk;have Hcs:=lh Uo;have QI:=ae.new w (.cells #[uk,.slice F D.length I,ua,ue] 197);have QO:=lh QI;have HU1:=lh (Sd w (.cells #[uk,.slice F D.length I,ua,ue] 197));have Rg:=lh (QI.row hr);have UN:Hid ((w.alloc (.cells #[uk,.slice F D.length I,ua,ue] 197)).heap.size=w.heap.size+1):=lh Qb;have hRw:=s4 (aw hr).1;have HRw:Hid (R<w.heap.size):=lh hRw;have hlu:(D.length:Int)<=9223372036854775807:=by have:=hu.1.len_le;unfold maxLen at this;omega
 clear hr ho hb hhR hbw huk Uo hu hda hdc QI hRw;have q0:(((n:Nat):Int) == 0)=false:=Qk;have J:Hid (fq n (⟨num,V,cnt,E⟩:cJ) (⟨uk,D,ua,ue⟩:cu)=if cnt<(n:Int) then .error 5 else if n=1/\gX uk=false then .error 2 else match cK ⟨uk,D⟩ with
  | some e=>.error e
  | none=>.ok ⟨num,V,cnt,E ++ [⟨uk,D⟩]⟩):=lh (by unfold fq;rw [if_neg Xz] <;> rfl)
 obtain ⟨u0,u1,u2,u3⟩:=aw HU1.out;clear Xz HDa HDc;go_enter func116,ntmps116;go_upto_region 9 with (fail)
 have Zp:=ae.new (w.alloc (.cells #[uk,.slice F D.length I,ua,ue] 197)) (.cells #[uk,.slice F D.length I] 31);have QT:=lh (QO.out.q Zp);have HT2:Hid (((w.alloc (.cells #[uk,.slice F D.length I,ua,ue] 197)).alloc (.cells #[uk,.slice F D.length I] 31)).heap[(w.heap.size+1)]?=some (.cells #[uk,.slice F D.length I] 31)):=ak Qb;have SQ:=lh (Zp.row Rg.out);have HU2:=lh (Zp.row HU1.out);have Xs:Hid (((w.alloc (.cells #[uk,.slice F D.length I,ua,ue] 197)).alloc (.cells #[uk,.slice F D.length I] 31)).heap.size=w.heap.size+1+1):=lh Qb;clear Zp u0 u1 u2 u3;generalize VZ:World.alloc (World.alloc w _) _=W2 at *
 clear VZ;obtain ⟨T,hT⟩:=bu (w.heap.size+1)
 rw [<- hT] at HT2 |-
 have HTz:Hid (T=w.heap.size+1):=lh hT;clear hT;obtain ⟨t0,t1,-⟩:=aL HT2.out;have Td:=lh (uo (k:=uk) (l:=D) (HU.out.quiet QT.out));have HTb:Hid (w.heap.size<T):=lh (j0 HTz.out);have HTR:Hid (T≠R):=lh (l6 HTz.out HRw.out);go_wp2_with fail;clear t0 t1;refine Td.out.mono ?_;rintro e w3 hm;unfold jc at hm;obtain ⟨Y,he,QQ,hrd⟩:∃ Y:Value×Value×Value,(e=.returned (.tuple #[.agg #[Y.1,Y.2.1,Y.2.2],iL (cK ⟨uk,D⟩)])/\∃ a b,Y.1=.int .i64 a/\Y.2.1=.int .i64 b/\∃ s m c,Y.2.2=.slice s m c)/\ae [] W2 w3/\True:=by
  obtain ⟨h1,h2⟩:=hm;cases hrr:cK ⟨uk,D⟩ with
  | some k =>
   rw [hrr] at h2;exact ⟨(.int .i64 0,.int .i64 0,.slice none 0 0),⟨h2,_,_,rfl,rfl,_,_,_,rfl⟩,h1,trivial⟩
  | none =>
   rw [hrr] at h2;obtain ⟨dv2,h3,h4⟩:=h2;obtain ⟨a4,c4,rfl,-⟩:=h4.open;exact ⟨(_,_,_),⟨h3,_,_,rfl,rfl,_,_,_,rfl⟩,h1,trivial⟩
 obtain ⟨ev0,ev1,ev2⟩:=Y;obtain ⟨rfl,x3,x4,h5,h6,x5,x6,x7,h7⟩:=he;simp only at h5 h6 h7;subst h5;subst h6;subst h7;generalize hRB:cK ⟨uk,D⟩=RB at *
 clear hRB hrd Td;have N:=ae.new w3 (.cells #[x3,x4,.slice x5 x6 x7] 85);have HQX:=lh (QT.out.q (QQ.q N));have HRX:=lh ((QQ.q N).row SQ.out);have M:=lh ((QQ.q N).row HT2.out);have HUX:=lh ((QQ.q N).row HU2.out);clear N QQ;go_upto_region 10 with (fail)
 generalize hWX:World.alloc w3 _=WX at *
 clear hWX;have HOX:=lh (HO.out.quiet HQX.out);have HEX:Hid (qD lo hi WX [.int .i64 uk,.slice F D.length I] [⟨uk,D⟩]):=qD.one Huk.out (HU.out.quiet HQX.out);have HBX:Hid (base<=WX.heap.size):=Pw HBw.out HQX.out.size;have Hby:Hid ((E.length+[(⟨uk,D⟩:bw)].length)*32<=140737488355328):=lh (by have:=Hcs.out;simp;omega);have HL1:Hid ((E ++ [(⟨uk,D⟩:bw)]).length=E.length+1):=lh Qb;obtain ⟨r0,r1,r2,r3⟩:=aw HRX.out;obtain ⟨u0,u1,u2,u3⟩:=aw HUX.out;by_cases ZJ:cnt<(n:Int)
 ·have HJ:Hid (fq n (⟨num,V,cnt,E⟩:cJ) (⟨uk,D,ua,ue⟩:cu)=.error 5):=lh (by rw [J.out,if_pos ZJ])
  exact yC
 ·have Z:=lh ZJ
  clear ZJ;obtain ⟨sb,hsb⟩:=bu ((decide (n=1) && !gX uk))
  have L:=lh hsb;clear hsb;go_upto_region 12 with (fail)
  go_cut [74] (fun s74 wx=>s74=.bool sb/\WX=wx)
  case first =>
   by_cases h1:n=1
   ·subst h1
    have Hf:Hid (sb=!gX uk):=lh (by rw [L.out];simp);clear L;go_wp2_with fail;refine (oJ _ _).mono ?_;rintro e w5 ⟨rfl,hw5⟩
    first | subst hw5 | skip
    generalize gX uk=fb at *
    cases fb
    all_goals
     go_wp2_with fail;go_meet;exact ⟨by rw [Hf.out];rfl,rfl⟩
   ·have q1:(((n:Nat):Int) == 1)=false:=Qk
    have Hf:Hid (sb=false):=lh (by rw [L.out];simp [h1]);clear h1;go_wp2_with fail;go_meet;exact ⟨by rw [Hf.out],rfl⟩
  case rest =>
   obtain ⟨rfl,rfl⟩:=hcut;cases sb with
   | true =>
    have HJ:Hid (fq n (⟨num,V,cnt,E⟩:cJ) (⟨uk,D,ua,ue⟩:cu)=.error 2):=lh (by
     have h:=L.out;simp at h;rw [J.out,if_neg Z.out,if_pos h])
    exact yC
   | false =>
    have HNf:Hid (¬ (n=1/\gX uk=false)):=lh (by
     have h:=L.out;simp at h;exact fun e=>by have:=h e.1;rw [e.2] at this;cases this)
    clear hm;cases RB with
    | some k =>
     have HJ:Hid (fq n (⟨num,V,cnt,E⟩:cJ) (⟨uk,D,ua,ue⟩:cu)=.error k):=lh (by rw [J.out,if_neg Z.out,if_neg HNf.out]);simp only [iL];exact yC
    | none =>
     have HJ:Hid (fq n (⟨num,V,cnt,E⟩:cJ) (⟨uk,D,ua,ue⟩:cu)=.ok ⟨num,V,cnt,E ++ [⟨uk,D⟩]⟩):=lh (by rw [J.out,if_neg Z.out,if_neg HNf.out]);simp only [iL];go_upto_region 16 with (fail)
     clear J;refine Tf (S:=(fun wz=>wz.heap[T]?=some (.cells #[uk,.slice F D.length I] 31))) Qc ?_ (fun hHeld=>?_)
     ·first | exact M.out | exact EA M.out
     refine e9 0 88 ⟨rfl,mS⟩ ?_;refine e9 1 89 ⟨rfl,mS⟩ ?_;refine e9 2 90 ⟨rfl,mS⟩ ?_;refine e9 3 91 ⟨rfl,mS⟩ ?_;refine e9 5 93 ⟨rfl,mS⟩ ?_
     iterate 4 (all_goals (first | (refine j8 (rs:=[4,6]) Qg Qb ?_;refine j2 4 92 (fun K hK=>?_) (j2 6 94 (fun K hK=>?_) .nil)) | (refine j8 (rs:=[4]) Qg Qb ?_;refine j2 4 92 (fun K hK=>?_) .nil) | (refine j8 (rs:=[6]) Qg Qb ?_;refine j2 6 94 (fun K hK=>?_) .nil) | (refine j8 (rs:=[7]) Qg Qb ?_;refine j2 7 95 (fun K hK=>?_) .nil) | (refine j8 (rs:=[10]) Qg Qb ?_;refine C9 10 (fun K hK=>?_) .nil));all_goals (first | (refine yJ (.tmp 92) (.tmp 94) _ rfl D6 Uj.out rfl (m:=[⟨uk,D⟩]) HCs.out HE7.out rfl Hby.out HB7.out (fun v1 w8 QG Rc=>?_);obtain ⟨x1,x1c,RZ⟩:=QG.isSlice;subst RZ;rw [HL1.out] at QG Rc;have hnr:∀ g,g∈(Value.slice ca E.length cc).ownBlock.toList->base<=g:=fun g hg=>(HOX.out.at g Qn).1;have Ww:=lh QG;have HA8:=lh Rc;have HR8:=lh (Rc.only.rowAt HR7.out (fun hm=>by have:=hnr _ hm;have:=HRb.out;omega));have HT8:=lh (Rc.only.rowAt O.out (fun hm=>by have:=(HO.out.at _ Qr).2;have:=HTb.out;omega));clear QG Rc hnr;obtain ⟨r0,r1,r2,r3⟩:=aw HR8.out;have fz3:=Sz _ _ 3 _ _ HR8.out;refine hK.out _ _ (HT8.out) (fun hHeld=>?_);clear hK K;refine e9 8 96 ⟨rfl,by intro wz Rb;obtain ⟨t0,t1,-⟩:=aL Rb;go_simp;try with_reducible rfl⟩ ?_;refine e9 9 97 ⟨rfl,by intro wz Rb;obtain ⟨t0,t1,-⟩:=aL Rb;go_simp;try with_reducible rfl⟩ ?_) | (go_simp;first | (generalize hW:World.alloc _ _=w7;have q7:ae [] WX w7:=(kr hW);have HCs:Hid (cf 2 WX.heap.size (WX.heap.size+1) w7 (.slice WX.heap.size 1 1) 1 [.int .i64 uk,.slice F D.length I]):=lh (by rw [<- hW];exact fG rfl rfl Qj Qb);have WS:=lh q7;have HR7:=lh (q7.row HRX.out);have O:=lh (q7.row M.out);have Uj:=lh (HOX.out.quiet q7);have HE7:=lh (HEX.out.only q7 Qb);have HB7:Hid (base<=w7.heap.size):=Pw HBX.out q7.size;clear hW q7;obtain ⟨r0,r1,r2,r3⟩:=aw HR7.out;refine hK.out _ _ (O.out) (fun hHeld=>?_);clear hK K) | (refine hK.out _ _ (by first | exact O.out | exact M.out | exact EA M.out | exact EA O.out) (fun hHeld=>?_);clear hK K) | (refine hK.out _ _ (((ae.refl [R] w8).setCell (p:=⟨R,3,none⟩) Qb _).rowAt HT8.out (by rw [i5];exact HTR.out)) (fun hHeld=>?_);clear hK K))))
     all_goals (refine Wn Qc ?_ _)
     all_goals
      go_wp2_with fail;have hr9:=WG _ R 3 _ _ (.slice x1 (E.length+1) x1c) HR8.out;have Vc:=(ae.refl [R] w8).setCell (p:=⟨R,3,none⟩) Qb (.slice x1 (E.length+1) x1c);refine QF.out _ _ (jx.good HJ.out rfl ?_ rfl hr9 ?_)
      ·exact dm.trans (dm.of (HQX.out.q WS.out)) (dm.trans (dm.mk' (show ae (Value.slice ca E.length cc).ownBlock.toList w7 w8 from by first | exact HA8.out.only | exact ((ae.refl [] w7).drew).trans HA8.out.only Qb (fun g hg _=>hg)) (fun g hg=>.inr (HOX.out.at g Qn).1)) (dm.mk' Vc (fun g hg=>.inl Qn)))
      ·have h:=Ww.out.only' Vc (fun g hg=>⟨.inl (by have h0:g=R:=Qn;have h3:=HhR.out;omega),fun e=>by have h0:g=R:=Qn;have h1:=(Ww.out.at _ e).1;have h2:=HRb.out;omega⟩)
       exact h
theorem JI {R lo hi base n:Nat} {num J cnt:Int} {I:List bw} {cv M:Value} {uk:Int} {V:List Int} {ua ue:Nat} {w:World} (hr:w.heap[R]?=some (.cells #[num,J,cnt,cv] 119)) (O:ew lo hi base w cv I) (N:R<base) (E:R<lo) (D:base<=w.heap.size)
  (hu:aj .u8 lo hi w M V) (F:i7 .i64 uk) (Y:n<=100000000) (L:I.length<=100000000) :
  Calls prog 116 #[.pointer R,n,.agg #[uk,M,ua,ue]] w (jx R lo hi base (⟨num,J,cnt,I⟩:cJ) n (⟨uk,V,ua,ue⟩:cu) w):=by
 by_cases h:n=0
 ·subst h;exact Gs hr O N E D hu F L
 ·exact Gu hr O N E D hu F h Y L
end
def kY (l:List Int) (w:World) (e:Ending) (w':World):Prop :=
 ae [] w w'/\∃ U E,fe l E 0 U/\match fD U E with
  | .ok k=>∃ a cap,e=.returned (.tuple #[.agg #[k.number,k.first,k.count,.slice a k.coded.length cap],.nilIface])/\cm w.heap.size w'.heap.size w' (.slice a k.coded.length cap) k.coded
  | .error er=>∃ ev,e=.returned (.tuple #[.agg #[(),(),(),d8],ev])/\eK w.heap.size w'.heap.size w' ev er
theorem kY.bad {l:List Int} {w w':World} {e:Ending} {U:List cu} {E:Option l4} {er:l4} {D:Value} (o:ae [] w w') (J:fe l E 0 U) (I:fD U E=.error er) (F:e=.returned (.tuple #[.agg #[(),(),(),d8],D])) (L:eK w.heap.size w'.heap.size w' D er):kY l w e w':=by
 refine ⟨o,U,E,J,?_⟩;rw [I];exact ⟨D,F,L⟩
theorem kY.good {l:List Int} {w w':World} {e:Ending} {U:List cu} {E:Option l4} {k:cJ} {a:Option Addr} {cap:Nat} (o:ae [] w w') (I:fe l E 0 U) (F:fD U E=.ok k) (D:e=.returned (.tuple #[.agg #[k.number,k.first,k.count,.slice a k.coded.length cap],.nilIface])) (J:cm w.heap.size w'.heap.size w' (.slice a k.coded.length cap) k.coded):kY l w e w':=by
 refine ⟨o,U,E,I,?_⟩;rw [F];exact ⟨a,cap,D,J⟩
theorem dm.out {R base:Nat} {w a b:World} (h:ae [] w a) (j:dm R base a b) (hR:w.heap.size<=R) (I:w.heap.size<=base):ae [] w b:=by
 obtain ⟨S,h1,D⟩:=j;exact h.trans h1 Qb (fun g E F=>by rcases D g E with e | e <;> omega)
theorem dm.size {R base:Nat} {a b:World} (j:dm R base a b):a.heap.size<=b.heap.size:=by obtain ⟨S,h1,D⟩:=j;exact h1.size
theorem dm.row {R base g:Nat} {a b:World} {o:Obj} (j:dm R base a b) (h:a.heap[g]?=some o) (I:g≠R) (F:g<base):b.heap[g]?=some o:=by
 obtain ⟨S,h1,D⟩:=j;exact h1.rowAt h (fun E=>by rcases D g E with e | e <;> omega)
theorem qi {w:World} {g:Nat} {a b c d x y z t:Value} {ty:TypeId} (h:w.heap[g]?=some (.cells #[a,b,c,d] ty)) :
  ((((w.setCell ⟨g,0,none⟩ x).setCell ⟨g,1,none⟩ y).setCell ⟨g,2,none⟩ z).setCell ⟨g,3,none⟩ t).heap[g]?=some (.cells #[x,y,z,t] ty)/\ae [g] w ((((w.setCell ⟨g,0,none⟩ x).setCell ⟨g,1,none⟩ y).setCell ⟨g,2,none⟩ z).setCell ⟨g,3,none⟩ t):=by
 have h1:=WG w g 0 _ _ x h;have D:=WG _ g 1 _ _ y h1;have E:=WG _ g 2 _ _ z D;have F:=WG _ g 3 _ _ t E;exact ⟨F,((((AY).setCell Qb _).setCell Qb _).setCell Qb _).setCell Qb _⟩
section
theorem Bg {p:Prop} (h:p:=by
 clear h0;go_wp2_with fail;refine (tA _ _ (eK.code wr.heap.size wr.heap.size wr 1) (Pm _) (Pm _)).mono ?_;rintro e w9 ⟨v9,rfl,he9,SR⟩;have HE9:=lh he9;have SP:=lh SR;have ZZ:=lh (SR.row HD.out);obtain ⟨et9,eu9,rfl⟩:=he9.held;clear he9 SR;obtain ⟨z0,z1,z2,z3⟩:=aw ZZ.out;have f0:=Sz _ _ 0 _ _ ZZ.out;have f1:=Sz _ _ 1 _ _ ZZ.out;have f2:=Sz _ _ 2 _ _ ZZ.out;have f3:=Sz _ _ 3 _ _ ZZ.out;obtain ⟨VH,Zc⟩:=qi (x:=.int .i64 0) (y:=.int .i64 0) (z:=.int .i64 0) (t:=.slice none 0 0) ZZ.out;have JdQ:=lh VH;have Sx:=lh Zc;clear VH Zc;go_wp2_with fail;have QK:=JdQ.out;refine TV (v:=.tuple #[.agg #[(),(),(),d8],.iface et9 eu9]) (cw results55 _ _ (w.heap.size) _ _ _ _ _ rfl rfl QK underlying119 rfl Qc) rfl (QF.out _ _ ?_);exact kY.bad ((HQ.out.q SP.out).trans Sx.out Qb (fun g hg QH=>Qd)) JjQ.out HPe.out rfl ((HE9.out.only Sx.out (fun g hg=>by rw [i5] at hg;have:=Wo.out;omega)).mono (Nat.le_of_lt Wo.out) Sx.out.size)):p:=h
theorem tq {lo hi:Nat} {v:Value} {l:List Int} {w:World} (h:aj .u8 lo hi w v l) (hl:l.length<=100000000) :
  Calls prog 55 #[v] w (kY l w):=by
 refine aK fun Q QF=>?_
 have Y:=lh (fun (W:World) (o:ae [] w W)=>CU (h.quiet o) hl);have YJ:=lh h.2;have Hl:=lh hl;obtain ⟨a,cap,rfl,-⟩:=h.open;obtain ⟨hb,ZY,SQ,Xs⟩:=km w (.cells #[(),(),(),d8] 119) (.cells #[(),(),(),d8] 119);have QT:=lh hb;clear h hl hb;go_enter func55,ntmps55;go_wp2_with fail;generalize VZ:World.alloc (World.alloc w _) _=W2 at *
 clear VZ;refine (Y.out _ QT.out).mono ?_;rintro e J ⟨QQ,U,E,ua,uc,ev,rfl,ZV,hun,Jus,hul⟩;have JjQ:=lh ZV;have HKd:=lh (LN YJ.out ZV (PX _));have QW:=lh (QT.out.q QQ);have HD3:=lh (QQ.row ZY.out);have Wk:=lh (QQ.row SQ.out);have HUn:=lh hun;have V:=lh Jus;have hz3:=QQ.size;have hz2:=Xs.out;have D:Hid (W2.heap.size=w.heap.size+1+1/\W2.heap.size<=J.heap.size/\U.length<=100000000):=lh ⟨hz2,hz3,by have:=Hl.out;omega⟩;have hUl:(U.length:Int)<=9223372036854775807:=dT Hl
 clear ZV QQ hun Jus hul hz3 hz2 Y;go_wp2_with fail;go_loopw [18,7,8,9] (fun i _ _ _ wr=>∃ (k:Nat) (c:cJ) (cv:Value),k<=U.length/\i=.int .i64 k/\Hid (dK (U.drop k) k c=dK U 0 jD)/\Hid (wr.heap[w.heap.size+1]?=some (.cells #[c.number,c.first,c.count,cv] 119))/\Hid (ew W2.heap.size J.heap.size J.heap.size wr cv c.coded)/\Hid (dm (w.heap.size+1) J.heap.size J wr)/\Hid (c.coded.length<=k)) (fun i _ _ _ _=>U.length-(intOf i).toNat)
 case atStart=>exact ⟨0,jD,.slice none 0 0,Qa,rfl,lh rfl,Wk,lh (ew.nil (Pm _) _),lh (dm.of (AY)),lh (by simp [jD])⟩
 case round =>
  obtain ⟨k,c,cv,hk,rfl,L,HR,HO,N,UK⟩:=hrel;have HQ:Hid (ae [] w wr):=dm.out QW.out N.out Qa QW.out.size;have HD:Hid (wr.heap[w.heap.size]?=some (.cells #[(),(),(),d8] 119)):=N.out.row HD3.out Qa (j0 D.out);have HUr:Hid (fE W2.heap.size J.heap.size wr (.slice ua U.length uc) U):=lh (by
   obtain ⟨S,h1,h2⟩:=N.out;exact HUn.out.only h1 (fun g hg=>by have:=D.out;rcases h2 g hg with e | e <;> omega))
  have HZ:Hid (J.heap.size<=wr.heap.size):=lh N.out.size;by_cases QH:k<U.length
  ·have Rt:(k:Int)<(U.length:Int):=Qa
   have RA:(0:Int)<=(k:Int):=Qa;obtain ⟨ua',uc',hue,-,-,RO⟩:=HUr.out.open;injection hue with e1 e2 e3
   subst e1;subst e3;obtain ⟨b,off,dv,rfl,-,-,c0,c1,c2,c3,hd⟩:=RO k U[k] (Pe QH);have M:=L.out;rw [Py QH] at M;have hkd:=HKd.out U[k] (PG _);generalize U[k]=u at *
   obtain ⟨da,dc,rfl,-⟩:=hd.open;have I:=ae.new wr (.cells #[u.kind,.slice da u.data.length dc,u.at_,u.end_] 197);have HJo:=lh (JI (n:=k) (ua:=u.at_) (ue:=u.end_) (I.row HR.out) (HO.out.quiet I) (j0 D.out) (j0 D.out) (Pw HZ.out I.size) (hd.quiet I) (uk:=u.kind) ⟨Qa,Qa⟩ (j0 D.out) (l6 UK.out D.out));have Z:=lh M;have Rh:=lh (HQ.out.q I);have HD4:=lh (I.row HD.out);have HJ4:=lh (N.out.trans (dm.of I));have HR4:=lh (I.row HR.out);clear RO hd M hkd I;go_wp2_with fail;clear c0 c1 c2 c3;generalize XO:World.alloc wr _=W4 at *
   clear XO;refine HJo.out.mono ?_;rintro e w5 ⟨F,hm⟩;have HJ5:=lh (HJ4.out.trans F);have Rk:Hid (ae [] w w5):=dm.out Rh.out F Qa (j0 QW.out.size);have O:=lh (F.row HD4.out Qa (j0 D.out));have UQ:Hid (w.heap.size<w5.heap.size):=lh (by have:=Rh.out.size;have:=F.size;have:=s4 (aw O.out).1;exact this);clear F;rw [show (⟨c.number,c.first,c.count,c.coded⟩:cJ)=c from rfl,show (⟨u.kind,u.data,u.at_,u.end_⟩:cu)=u from rfl] at hm;cases hje:fq k c u with
   | error er =>
    rw [hje] at hm;obtain rfl:=hm;have HPe:Hid (fD U E=.error (C7 qq k ⟨[],er⟩)):=Du (by rw [<- Z.out,AC hje];rfl);clear hje;go_wp2_with fail;refine (tA _ _ (eK.code w5.heap.size w5.heap.size w5 er) (Pm _) (Pm _)).mono ?_;rintro e w9 ⟨v9,rfl,he9,SR⟩;have HE9:=lh he9;have SP:=lh SR;have ZZ:=lh (SR.row O.out);obtain ⟨et9,eu9,rfl⟩:=he9.held;clear he9 SR;obtain ⟨z0,z1,z2,z3⟩:=aw ZZ.out;have f0:=Sz _ _ 0 _ _ ZZ.out;have f1:=Sz _ _ 1 _ _ ZZ.out;have f2:=Sz _ _ 2 _ _ ZZ.out;have f3:=Sz _ _ 3 _ _ ZZ.out;obtain ⟨VH,Zc⟩:=qi (x:=.int .i64 0) (y:=.int .i64 0) (z:=.int .i64 0) (t:=.slice none 0 0) ZZ.out;have JdQ:=lh VH;have Sx:=lh Zc;clear VH Zc;go_wp2_with fail;have QK:=JdQ.out;refine TV (v:=.tuple #[.agg #[(),(),(),d8],.iface et9 eu9]) (cw results55 _ _ (w.heap.size) _ _ _ _ _ rfl rfl QK underlying119 rfl Qc) rfl (QF.out _ _ ?_);exact kY.bad ((Rk.out.q SP.out).trans Sx.out Qb (fun g hg QH=>Qd)) JjQ.out HPe.out rfl ((HE9.out.only Sx.out (fun g hg=>by rw [i5] at hg;have:=UQ.out;omega)).mono Rk.out.size Sx.out.size)
   | ok c2 =>
    rw [hje] at hm;obtain ⟨rfl,cv2,UT,Sc⟩:=hm;have JxZ:Hid (dK (U.drop (k+1)) (k+1) c2=dK U 0 jD):=lh (by rw [<- Z.out,lF hje]);have Jju:Hid (c2.coded.length<=k+1):=lh (l6 (Gt hje) UK.out);have HR5:=lh UT;have UX:=lh Sc;clear hje UT Sc;go_wp2_with fail;exact ⟨⟨k+1,c2,cv2,Qa,Qh,JxZ,HR5,UX,HJ5,Jju⟩,Qf⟩
  ·obtain rfl:k=U.length:=Qa
   have hx:¬ (U.length:Int)<(U.length:Int):=Qa;have Us:Hid (dK U 0 jD=.ok c):=lh (by rw [<- L.out,List.drop_length,dK]);clear L;obtain ⟨r0,r1,r2,r3⟩:=aw HR.out;cases E with
   | some er =>
    have Yh:eK W2.heap.size J.heap.size wr ev er:=by
     obtain ⟨S,h1,h2⟩:=N.out;exact eK.only V.out h1 (fun g hg=>by have:=D.out;rcases h2 g hg with e | e <;> omega)
    obtain ⟨et,eu,rfl⟩:=Yh.held;have HEv:=lh Yh;have HPe:Hid (fD U (some er)=.error (C7 qq U.length er)):=oV Us.out rfl;clear Yh;go_wp2_with fail;refine (tA _ _ HEv.out (j0 HZ.out) (l6 D.out HZ.out)).mono ?_;rintro e w9 ⟨v9,rfl,he9,SR⟩;have HE9:=lh he9;have SP:=lh SR;have ZZ:=lh (SR.row HD.out);obtain ⟨et9,eu9,rfl⟩:=he9.held;clear he9 SR;obtain ⟨z0,z1,z2,z3⟩:=aw ZZ.out;have f0:=Sz _ _ 0 _ _ ZZ.out;have f1:=Sz _ _ 1 _ _ ZZ.out;have f2:=Sz _ _ 2 _ _ ZZ.out;have f3:=Sz _ _ 3 _ _ ZZ.out;obtain ⟨VH,Zc⟩:=qi (x:=.int .i64 0) (y:=.int .i64 0) (z:=.int .i64 0) (t:=.slice none 0 0) ZZ.out;have JdQ:=lh VH;have Sx:=lh Zc;clear VH Zc;go_wp2_with fail;have QK:=JdQ.out;refine TV (v:=.tuple #[.agg #[(),(),(),d8],.iface et9 eu9]) (cw results55 _ _ (w.heap.size) _ _ _ _ _ rfl rfl QK underlying119 rfl Qc) rfl (QF.out _ _ ?_);exact kY.bad ((HQ.out.q SP.out).trans Sx.out Qb (fun g hg QH=>Qd)) JjQ.out HPe.out rfl ((HE9.out.only Sx.out (fun g hg=>by rw [i5] at hg;have:=D.out;omega)).mono (j0 D.out) Sx.out.size)
   | none =>
    obtain rfl:=V.out;have Wo:Hid (w.heap.size<wr.heap.size):=s4 (aw HD.out).1;by_cases h0:U.length=0
    ·have HPe:Hid (fD U none=.error (C7 qq U.length ⟨[],1⟩)):=oV Us.out (by unfold Cw;simp only [];rw [if_pos (.inl h0)])
     obtain rfl:U=[]:=List.eq_nil_of_length_eq_zero h0;exact Bg
    ·have q0:((U.length:Int) == 0)=false:=Qk
     by_cases hc:(U.length:Int)<=c.count
     ·have HPe:Hid (fD U none=.error (C7 qq U.length ⟨[],1⟩)):=oV Us.out (by unfold Cw;simp only [];rw [if_pos (.inr hc)])
      exact Bg
     ·have HPg:Hid (fD U none=.ok c):=AA Us.out (by unfold Cw;simp only [];rw [if_neg (by rintro (e | e);exact h0 e;exact hc e)])
      obtain ⟨ca,cc,rfl⟩:=HO.out.isSlice;clear h0;obtain ⟨z0,z1,z2,z3⟩:=aw HD.out;have f0:=Sz _ _ 0 _ _ HD.out;have f1:=Sz _ _ 1 _ _ HD.out;have f2:=Sz _ _ 2 _ _ HD.out;have f3:=Sz _ _ 3 _ _ HD.out;obtain ⟨VH,Zc⟩:=qi (x:=.int .i64 c.number) (y:=.int .i64 c.first) (z:=.int .i64 c.count) (t:=.slice ca c.coded.length cc) HD.out;have JdQ:=lh VH;have Sx:=lh Zc;clear VH Zc;go_wp2_with fail;have QK:=JdQ.out;refine TV (v:=.tuple #[.agg #[c.number,c.first,c.count,.slice ca c.coded.length cc],.nilIface]) (cw results55 _ _ (w.heap.size) _ _ _ _ _ rfl rfl QK underlying119 rfl Qc) rfl (QF.out _ _ ?_);have hcd:=HO.out.codeds (j0 D.out) HZ.out;exact kY.good (HQ.out.trans Sx.out Qb (fun g hg QH=>Qd)) JjQ.out HPg.out rfl ((hcd.only Sx.out (fun g hg=>by rw [i5] at hg;have:=D.out;omega)).mono (j0 D.out) Sx.out.size)
end
def Ni (c:cJ) (w:World) (e:Ending) (w':World):Prop :=
 ae [] w w'/\match gu c with
  | true=>∃ v,e=.returned (.tuple #[v,.nilIface])/\f9 .u8 5 w.heap.size w' v (pS c)
  | false=>e=.returned (.tuple #[d8,.iface 36 (.int .i64 2)])
theorem Gg {l:List bw} {k:Nat} (h:k<l.length):(l.take (k+1)).flatMap (fun c=>dR c.kind c.data)=(l.take k).flatMap (fun c=>dR c.kind c.data) ++ dR (l.getD k default).kind (l.getD k default).data:=by
 rw [UJ h,B5,Pd,Pe h];simp
theorem zB:∀ (l:List bw),(∀ c∈l,c.data.length<=65536)->(l.flatMap fun c=>dR c.kind c.data).length<=65544*l.length
 | [],_=>by simp
 | c :: l,h=>by
  rw [List.flatMap_cons,Pn,dL,Pq];have:=zB l (fun x hx=>h x (by simp [hx]));have:=h c Qb;omega
section
theorem Gl {lo hi:Nat} {dv:Value} {c:cJ} {w:World} (h:cm lo hi w dv c.coded) (hc:rS c) :
  Calls prog 56 #[.agg #[c.number,c.first,c.count,dv]] w (Ni c w):=by
 refine aK fun Q QF=>?_
 have HM:=lh (fun (W:World) (o:ae [] w W)=>JB (h.quiet o) hc);have Yb:Hid (gu c=true->headB c.number c.first c.count=true/\(c.coded.length:Int)=c.count/\∀ x∈c.coded,cK x=none):=lh (fun h1=>by
  unfold gu at h1;simp only [t8,r9,t6] at h1;obtain ⟨⟨⟨a,b⟩,-⟩,d⟩:=h1;refine ⟨a,b,fun x hx=>?_⟩;have h3:=d x hx;cases hr:cK x with
  | none=>rfl
  | some e=>rw [hr] at h3;cases h3)
 unfold Ni pS at QF;obtain ⟨num,E,cnt,D⟩:=c;simp only at h HM Yb QF;obtain ⟨a,cap,rfl,Sv,RN,Wz⟩:=h.open;have Hel:=lh Wz;have Th:(D.length:Int)<=9223372036854775807:=by unfold maxLen at RN;omega
 have QI:=ae.new w (.cells #[num,E,cnt,.slice a D.length cap] 119);have QO:=lh QI;have Rg:=lh (Sd w (.cells #[num,E,cnt,.slice a D.length cap] 119));clear h Wz RN Sv hc QI;generalize gu ⟨num,E,cnt,D⟩=CB at *
 go_enter func56,ntmps56;obtain ⟨r0,r1,r2,r3⟩:=aw Rg.out;go_wp2_with fail;generalize Rs:World.alloc w _=W1 at *
 clear Rs r0 r1 r2 r3;refine (HM.out _ QO.out).mono ?_;rintro e w2 ⟨rfl,QN⟩;have QT:=lh (QO.out.q QN);have SQ:=lh (QN.row Rg.out);clear QN;cases CB with
 | false =>
  go_wp2_with fail;exact QF.out _ _ ⟨QT.out,rfl⟩
 | true =>
  obtain ⟨hh,ZJ,F⟩:=Yb.out rfl;have QS:=Ey (k:=⟨num,E,cnt,D⟩) hh;unfold headB at hh;rw [r9] at hh;have hw0:IntKind.u8.wrap num=num:=by simp only [IntKind.wrap,IntKind.bits,IntKind.signed];simp;omega
  have hw1:IntKind.u8.wrap E=E:=by simp only [IntKind.wrap,IntKind.bits,IntKind.signed];simp;omega
  have hw2:IntKind.u8.wrap cnt=cnt:=by simp only [IntKind.wrap,IntKind.bits,IntKind.signed];simp;omega
  have Z:D.length<=16:=Qa;have JxL:=lh Z;have hmu:kL 32 [num,E,cnt]=.ok (dR 32 [num,E,cnt]):=by unfold kL;rw [if_neg Qa,if_neg Qb,if_neg Qa]
  have M:Hid (∀ (W:World) (v:Value),aj .u8 W.heap.size (W.heap.size+1) (W.alloc (.cells #[.int .u8 num,.int .u8 E,.int .u8 cnt] 5)) v [num,E,cnt]->Calls prog 118 #[.int .i64 32,v] (W.alloc (.cells #[.int .u8 num,.int .u8 E,.int .u8 cnt] 5)) fun e w'=>ae [] (W.alloc (.cells #[.int .u8 num,.int .u8 E,.int .u8 cnt] 5)) w'/\∃ v,e=.returned (.tuple #[v,.nilIface])/\f9 .u8 5 (W.alloc (.cells #[.int .u8 num,.int .u8 E,.int .u8 cnt] 5)).heap.size w' v (dR 32 [num,E,cnt])):=lh (fun W v hv=>by
   have h:=Ao 32 hv;unfold IJ at h;rw [hmu] at h;exact h)
  have Tg:=lh QS;have O:=lh F;have HUL:Hid ((dR 32 [num,E,cnt]).length=11):=lh (by rw [dL];rfl);clear hh ZJ QS F hmu Z;obtain ⟨r0,r1,r2,r3⟩:=aw SQ.out;go_wp2_with fail;have TX:=ae.new w2 (.cells #[.int .u8 num,.int .u8 E,.int .u8 cnt] 5);have J:=lh TX;have HI3:=lh (aU (k:=.u8) (w:=w2) (t:=5) (l:=[num,E,cnt]) (vs:=#[.int .u8 num,.int .u8 E,.int .u8 cnt]) rfl Qj Tg.out 3 rfl rfl);have Jyp:=lh (M.out w2 _ HI3.out);clear TX M r0 r1 r2 r3;generalize Tb:World.alloc w2 _=W3 at *
  clear Tb;refine Jyp.out.mono ?_;rintro e w4 ⟨QY,uv,rfl,hu⟩;have Rh:=lh (QT.out.q (J.out.q QY));have HR4:=lh ((J.out.q QY).row SQ.out);have WM:=(QT.out.q J.out).size;have Yo:=lh (hu.lower WM);obtain ⟨ua,uc,hu1,-⟩:=hu.ints.open;subst hu1;clear QY WM hu;obtain ⟨r0,r1,r2,r3⟩:=aw HR4.out;go_wp2_with fail;clear r0 r1 r2 r3;generalize hX:dR 32 [num,E,cnt]=X at *
  clear hX hw0 hw1 hw2;go_loopw [33,4,7,8,9] (fun i bv _ _ _ wr=>∃ k:Nat,k<=D.length/\i=.int .i64 k/\Hid (f9 .u8 5 w.heap.size wr bv (X ++ (D.take k).flatMap fun c=>dR c.kind c.data))/\Hid (ae [] w wr)) (fun i _ _ _ _ _=>D.length-(intOf i).toNat)
  case atStart=>exact ⟨0,Qa,rfl,lh (by simpa using Yo.out),Rh⟩
  case round =>
   obtain ⟨k,hk,rfl,HO,N⟩:=hrel;by_cases QH:k<D.length
   ·obtain ⟨b,off,dv,rfl,-,-,TM,Sq,hkd,hd⟩:=Hel.out k QH
    have c0:=N.out.cell TM Qb;have c1:=N.out.cell Sq Qb;have Rt:(k:Int)<(D.length:Int):=Qa;have RA:(0:Int)<=(k:Int):=Qa;have HFt:=lh (Gg QH);have V:D.getD k default∈D:=by rw [Pd,Pe QH];exact PG _
    have F:=oY (O.out _ V);have Vd:=zB (D.take k) (fun c hc=>(oY (O.out c (List.mem_of_mem_take hc))).2.2);rw [Po] at Vd;have VM:Hid ((X ++ (D.take k).flatMap fun c=>dR c.kind c.data).length<=2000000):=lh (by rw [Pn,HUL.out];have:=JxL.out;omega);clear Vd V;generalize D.getD k default=x at *
    generalize hY:(X ++ (D.take k).flatMap fun c=>dR c.kind c.data)=Y at *
    have HY:=lh hY;clear hY;have hmx:kL x.kind x.data=.ok (dR x.kind x.data):=by unfold kL;rw [if_neg Qa,if_neg Qa,if_neg Qa]
    have HUx:Hid ((dR x.kind x.data).length<=70000):=lh (by rw [dL];omega);obtain ⟨da,dc,rfl,-⟩:=hd.open;have VP:=ae.new wr (.cells #[x.kind,.slice da x.data.length dc] 31);have HN5:=lh VP;have I:=lh (Ao x.kind (hd.quiet (N.out.q VP)));unfold IJ at I;rw [hmx] at I;have UX:=lh (HO.out.quiet VP);clear hmx VP hd TM Sq F hkd;go_wp2_with fail;clear c0 c1;generalize ZI:World.alloc wr _=W5 at *
    clear ZI;refine I.out.mono ?_;rintro e w6 ⟨Sl,vx,rfl,L⟩;have XK:=lh (UX.out.quiet Sl);have HU6:=lh L.ints;have SJ:=lh (N.out.q (HN5.out.q Sl));have Hby:Hid ((Y.length+(dR x.kind x.data).length)*1<=140737488355328):=lh (l6 VM.out HUx.out);have Hba:Hid (w.heap.size<=w6.heap.size):=lh SJ.out.size;obtain ⟨va,vc,UU,-⟩:=L.ints.open;subst UU;clear Sl L
    go_wp2_with (first
     | (at_builtin;refine au rfl (.tmp 45) (.tmp 46) _ rfl E8 XK.out rfl HU6.out rfl Hby.out Hba.out (fun v1 w7 QG Rc=>?_);have Uj:=lh QG;have HA7:=lh Rc;clear QG Rc)
     | fail)
    have RO:=HO.out.at
    refine ⟨⟨k+1,Qa,Qh,lh ?_,lh (SJ.out.trans HA7.out.only Qb (fun g hg QH=>by have:=(RO g Qn).1;omega))⟩,Qf⟩;rw [HFt.out,<- PM,HY.out];exact Uj.out
   ·obtain rfl:k=D.length:=Qa
    have hx:¬ (D.length:Int)<(D.length:Int):=Qa;go_wp2_with fail;refine QF.out _ _ ⟨N.out,_,rfl,?_⟩;have h:=HO.out;rwa [List.take_length] at h
end
end Go.Proofs.YthcafdfdglfabaaGreatDoor
