/- Joined texts: EWr, EWrS, EWrV, EEnd, ERac, EEnc. Conditions: each part names its own. -/
import Derived.Test.YthcafdfdglfabaaGreatDoorR2
namespace Go.Proofs.YthcafdfdglfabaaGreatDoor
open Go.RowKit
set_option linter.unusedVariables false
set_option linter.unusedSimpArgs false
set_option maxRecDepth 100000
set_option maxHeartbeats 16000000
structure i9 where
 p:List Int
 lo:Int
 n:Nat
 r:Int
def i9.shift (m:i9):i9:=⟨m.p,m.lo*256,m.n+1,m.r*256⟩
def i9.fix:Nat->i9->i9
 | 0,m=>m
 | k+1,m=>if m.r<16777216 then i9.fix k m.shift else m
def i9.narrow (m:i9) (w:Int) (b:Bool):i9:=if b then i9.fix 2 ⟨m.p,m.lo+w,m.n,m.r-w⟩ else i9.fix 2 ⟨m.p,m.lo,m.n,w⟩
def mA (c:Nat) (b:Bool) (m:i9):Bool×i9:=(b,i9.narrow ⟨m.p.set c (fK (m.p.getD c 0) b),m.lo,m.n,m.r⟩ (m.r / 2048*m.p.getD c 0) b)
def ow (b:Bool) (m:i9):Bool×i9:=(b,m.narrow (m.r / 2) b)
def i6:lX i9:=⟨mA,ow⟩
def gy:i9:=⟨List.replicate 64 1024,0,4,4294967295⟩
structure cj (m:i9):Prop where
 len:m.p.length=64
 ch:∀ x∈m.p,31<=x/\x<=2017
 lo0:0<=m.lo
 r0:16777216<=m.r
 r1:m.r<=4294967295
 n4:4<=m.n
 top:m.lo+m.r<=256 ^ m.n
structure jz (k:Nat) (m:i9):Prop where
 len:m.p.length=64
 ch:∀ x∈m.p,31<=x/\x<=2017
 lo0:0<=m.lo
 r0:16777216<=m.r*256 ^ k
 rp:1<=m.r
 r1:m.r<=4294967295
 n4:4<=m.n
 top:m.lo+m.r<=256 ^ m.n
def n9 (z m:i9):Prop:=m.n<=z.n/\m.lo*256 ^ (z.n-m.n)<=z.lo/\z.lo+z.r<=(m.lo+m.r)*256 ^ (z.n-m.n)
theorem oX (k:Nat):(0:Int)<256 ^ k:=Int.pow_pos Ql
theorem n9.refl (m:i9):n9 m m:=⟨Pm _,by rw [Nat.sub_self];simp,by rw [Nat.sub_self];simp⟩
theorem n9.trans {a b c:i9} (h:n9 a b) (g:n9 b c):n9 a c:=by
 obtain ⟨h1,I,J⟩:=h;obtain ⟨L,E,F⟩:=g;have e:a.n-c.n=(b.n-c.n)+(a.n-b.n):=Qa;have D:=oX (a.n-b.n);refine ⟨Qa,?_,?_⟩
 ·rw [e,Int.pow_add,<- Int.mul_assoc]
  exact Int.le_trans (B2 E (Int.le_of_lt D)) I
 ·rw [e,Int.pow_add,<- Int.mul_assoc]
  exact Int.le_trans J (B2 F (Int.le_of_lt D))
theorem n9.shift (m:i9):n9 m.shift m:=by
 have e:m.shift.n-m.n=1:=by show m.n+1-m.n=1;omega
 refine ⟨by show m.n<=m.n+1;omega,?_,?_⟩
 ·rw [e,Int.pow_one];show m.lo*256<=m.lo*256;omega
 ·rw [e,Int.pow_one];show m.lo*256+m.r*256<=(m.lo+m.r)*256;omega
theorem n9.fix:∀ (k:Nat) (m:i9),n9 (i9.fix k m) m
 | 0,m=>n9.refl m
 | k+1,m=>by
  unfold i9.fix
  split
  ·exact (n9.fix k m.shift).trans (n9.shift m)
  ·exact n9.refl m
theorem jz.shift {k:Nat} {m:i9} (h:jz (k+1) m) (hr:m.r<16777216):jz k m.shift:=by
 obtain ⟨h1,E,F,D,I,J,L,h8⟩:=h;refine ⟨h1,E,?_,?_,?_,?_,?_,?_⟩
 ·show 0<=m.lo*256;omega
 ·show 16777216<=m.r*256*256 ^ k
  rw [Int.pow_succ,Int.mul_comm (256 ^ k) 256,<- Int.mul_assoc] at D;exact D
 ·show 1<=m.r*256;omega
 ·show m.r*256<=_;omega
 ·show 4<=m.n+1;omega
 ·show m.lo*256+m.r*256<=256 ^ (m.n+1)
  rw [Int.pow_succ];omega
theorem jz.fix:∀ {k:Nat} {m:i9},jz k m->cj (i9.fix k m)/\(i9.fix k m).n<=m.n+k/\(i9.fix k m).p=m.p
 | 0,m,h=>⟨⟨h.len,h.ch,h.lo0,by have:=h.r0;rw [Int.pow_zero,Int.mul_one] at this;exact this,h.r1,h.n4,h.top⟩,Pm _,rfl⟩
 | k+1,m,h=>by
  unfold i9.fix
  split
  ·rename_i hr
   obtain ⟨a,b,c⟩:=(h.shift hr).fix;exact ⟨a,by have:m.shift.n=m.n+1:=rfl;omega,c⟩
  ·rename_i hr
   exact ⟨⟨h.len,h.ch,h.lo0,Qa,h.r1,h.n4,h.top⟩,Qa,rfl⟩
theorem cj.mid {m:i9} (h:cj m) {w:Int} (h1:8192<=w) (D:w<=m.r-8192):jz 2 ⟨m.p,m.lo+w,m.n,m.r-w⟩/\jz 2 ⟨m.p,m.lo,m.n,w⟩/\n9 ⟨m.p,m.lo+w,m.n,m.r-w⟩ m/\n9 ⟨m.p,m.lo,m.n,w⟩ m:=by
 obtain ⟨a,b,c,d,e,f,g⟩:=h;refine ⟨⟨a,b,?_,?_,?_,?_,f,?_⟩,⟨a,b,c,?_,?_,?_,f,?_⟩,⟨Pm _,?_,?_⟩,⟨Pm _,?_,?_⟩⟩
 all_goals try simp only [Nat.sub_self,Int.pow_zero,Int.mul_one]
 all_goals first | omega | (show m.lo+w+(m.r-w)<=256 ^ m.n;omega) | (show m.lo+w<=256 ^ m.n;omega)
theorem cj.narrow {m:i9} (h:cj m) {w:Int} (h1:8192<=w) (D:w<=m.r-8192) (b:Bool):cj (m.narrow w b)/\n9 (m.narrow w b) m/\(m.narrow w b).n<=m.n+2/\(m.narrow w b).p=m.p:=by
 obtain ⟨m1,m2,E,F⟩:=h.mid h1 D;unfold i9.narrow;cases b with
 | true =>
  obtain ⟨x,y,z⟩:=m1.fix;exact ⟨x,(n9.fix _ _).trans E,y,z⟩
 | false =>
  obtain ⟨x,y,z⟩:=m2.fix;exact ⟨x,(n9.fix _ _).trans F,y,z⟩
theorem sF {m:i9} (h:cj m) {c:Nat} (D:c<64):31<=m.p.getD c 0/\m.p.getD c 0<=2017:=h.ch _ (by
 have:=h.len;rw [Pd,Pe Qa];exact PG _)
theorem cj.set {m:i9} (h:cj m) {c:Nat} (D:c<64) (b:Bool):cj ⟨m.p.set c (fK (m.p.getD c 0) b),m.lo,m.n,m.r⟩:=by
 refine ⟨by show (m.p.set _ _).length=64;rw [PF];exact h.len,fun x hx=>?_,h.lo0,h.r0,h.r1,h.n4,h.top⟩;rcases List.mem_or_eq_of_mem_set hx with hx | rfl
 ·exact h.ch x hx
 ·exact JZ _ (sF h D)
theorem jR {m:i9} (h:cj m) {c:Nat} (D:c<64) (b:Bool):cj (mA c b m).2/\n9 (mA c b m).2 m/\(mA c b m).2.n<=m.n+2:=by
 have hx:=sF h D;obtain ⟨w1,E⟩:=pq h.r0 h.r1 (p:=m.p.getD c 0) Qa Qa;obtain ⟨a,i,n,_⟩:=(h.set D b).narrow w1 E b;exact ⟨a,i,n⟩
theorem jH {m:i9} (h:cj m) (b:Bool):cj (ow b m).2/\n9 (ow b m).2 m/\(ow b m).2.n<=m.n+2:=by
 have:=h.r0;have:=h.r1;obtain ⟨a,i,n,_⟩:=h.narrow (w:=m.r / 2) Qa Qa b;exact ⟨a,i,n⟩
theorem jw:cj gy:=⟨by simp [gy],fun x hx=>by have:=(List.mem_replicate.1 hx).2;omega,Ql,Ql,Ql,Ql,Ql⟩
def lC (D:List Int):Nat->Int
 | 0=>0
 | k+1=>lC D k*256+D.getD k 0
structure qY (D:List Int) (z:i9):Prop where
 u8:∀ x∈D,i7 .u8 x
 num:∀ k,k<=z.n->lC D k=z.lo / 256 ^ (z.n-k)
 r0:1<=z.r
structure gj (D:List Int) (m:i9) (d:j7):Prop where
 p:d.p=m.p
 b:d.d.b=D
 pos:d.d.pos=m.n
 r:d.d.r=m.r
 off:d.d.off=lC D m.n-m.lo
theorem qY.at {D:List Int} {z m:i9} (h:qY D z) (i:n9 z m):m.lo<=lC D m.n/\lC D m.n<m.lo+m.r:=by
 have E:=oX (z.n-m.n);rw [h.num m.n i.1];refine ⟨(Int.le_ediv_iff_mul_le E).2 i.2.1,(Int.ediv_lt_iff_lt_mul E).2 ?_⟩;have:=i.2.2;have:=h.r0;omega
theorem gj.shift {D:List Int} {z m:i9} {d:q8} {p:List Int} (h:qY D z) (i:n9 z m.shift) (g:gj D m ⟨p,d⟩):gj D m.shift ⟨p,d.shift⟩:=by
 obtain ⟨I,E,J,F,L⟩:=g;simp only at I E J F L;have M:=h.at i;have N:lC D m.shift.n=lC D m.n*256+d.byte:=by
  show lC D (m.n+1)=_;unfold q8.byte;rw [E,J]
  rfl
 rw [N] at M;have h1:m.shift.lo=m.lo*256:=rfl;have O:m.shift.r=m.r*256:=rfl;rw [h1,O] at M;refine ⟨I,E,by show d.pos+1=m.n+1;omega,by show d.r*256=m.r*256;rw [F],?_⟩;show min (d.off*256+d.byte) (d.r*256)=lC D m.shift.n-m.lo*256;rw [N,F,L];omega
theorem gj.fix {D:List Int} {z:i9} (h:qY D z):∀ (k:Nat) {m:i9} {d:q8} {p:List Int},n9 z (i9.fix k m)->gj D m ⟨p,d⟩->gj D (i9.fix k m) ⟨p,q8.fix k d⟩
 | 0,m,d,p,i,g=>g
 | k+1,m,d,p,i,g=>by
  have hr:d.r=m.r:=g.r;unfold i9.fix at i |-
  unfold q8.fix;rw [hr]
  split
  ·rename_i QH
   rw [if_pos QH] at i;exact gj.fix h k i (gj.shift h (i.trans (n9.fix k _)) g)
  ·exact g
theorem gj.narrow {D:List Int} {z m:i9} {d:j7} {w:Int} {b:Bool} (h:qY D z) (i:n9 z (m.narrow w b)) (g:gj D m d):(d.d.narrow w).1=b/\gj D (m.narrow w b) ⟨d.p,(d.d.narrow w).2⟩:=by
 obtain ⟨p,E⟩:=d;obtain ⟨F,I,J,N,O⟩:=g;simp only at F I J N O;unfold i9.narrow at i |-
 cases b with
 | true =>
  rw [if_pos rfl] at i;have L:=(h.at (i.trans (n9.fix 2 _))).1;simp only at L;have M:w<=E.off:=Qa;have e:q8.narrow E w=(true,q8.fix 2 ⟨E.b,E.pos,E.off-w,E.r-w⟩):=if_pos M;show (q8.narrow E w).1=true/\gj D (if true=true then _ else _) ⟨p,(q8.narrow E w).2⟩;rw [e,if_pos rfl];refine ⟨rfl,?_⟩;exact gj.fix h 2 i ⟨F,I,J,by simp only;omega,by simp only;omega⟩
 | false =>
  rw [if_neg Qb] at i;have L:=(h.at (i.trans (n9.fix 2 _))).2;simp only at L;have M:¬ w<=E.off:=Qa;have e:q8.narrow E w=(false,q8.fix 2 ⟨E.b,E.pos,E.off,w⟩):=if_neg M;show (q8.narrow E w).1=false/\gj D (if false=true then _ else _) ⟨p,(q8.narrow E w).2⟩;rw [e,if_neg Qb];refine ⟨rfl,?_⟩;exact gj.fix h 2 i ⟨F,I,J,rfl,by simp only;omega⟩
structure aS {α:Type} (x:α×i9) (m:i9) (g:j7->α×j7):Prop where
 ok:cj x.2
 inn:n9 x.2 m
 same:∀ {D:List Int} {z:i9} {d:j7},qY D z->n9 z x.2->gj D m d->(g d).1=x.1/\gj D x.2 (g d).2
section
variable {α β:Type} {m:i9}
theorem aS.pure (h:cj m) (a:α):aS (a,m) m (fun d=>(a,d)):=⟨h,n9.refl m,fun _ _ g=>⟨rfl,g⟩⟩
theorem aS.seq {x:α×i9} {g:j7->α×j7} {y:β×i9} {h:α->j7->β×j7} (E:aS x m g) (D:aS y x.2 (h x.1)):aS y m (fun d=>h (g d).1 (g d).2):=by
 refine ⟨D.ok,D.inn.trans E.inn,fun t i r=>?_⟩;obtain ⟨a,b⟩:=E.same t (i.trans D.inn) r;rw [a];exact D.same t i b
theorem aS.map {x:α×i9} {g:j7->α×j7} (H:aS x m g) (f:α->β):aS (f x.1,x.2) m (fun d=>(f (g d).1,(g d).2)) :=
 ⟨H.ok,H.inn,fun t i r=>by obtain ⟨a,b⟩:=H.same t i r;exact ⟨by rw [a],b⟩⟩
theorem aS.ite {b:Bool} {E F:β×i9} {h1 D:j7->β×j7} (I:b=true->aS E m h1) (J:b=false->aS F m D):aS (if b then E else F) m (fun d=>if b then h1 d else D d):=by
 cases b with
 | true=>exact I rfl
 | false=>exact J rfl
theorem iW (h:cj m) {c:Nat} (E:c<64) (b:Bool):aS (mA c b m) m (dV c):=by
 obtain ⟨a,i,_⟩:=jR h E b;refine ⟨a,i,fun {D z d} t j r=>?_⟩;have F:gj D ⟨m.p.set c (fK (m.p.getD c 0) b),m.lo,m.n,m.r⟩ ⟨m.p.set c (fK (m.p.getD c 0) b),d.d⟩:=⟨rfl,r.b,r.pos,r.r,r.off⟩
 obtain ⟨x,y⟩:=gj.narrow (m:=⟨m.p.set c (fK (m.p.getD c 0) b),m.lo,m.n,m.r⟩) (w:=m.r / 2048*m.p.getD c 0) (b:=b) t j F;simp only at x y;unfold dV;rw [r.p,r.r,x];exact ⟨rfl,y⟩
theorem kQ (h:cj m) (b:Bool):aS (ow b m) m gO:=by
 obtain ⟨a,i,_⟩:=jH h b;refine ⟨a,i,fun {D z d} t j r=>?_⟩;obtain ⟨x,y⟩:=gj.narrow (w:=m.r / 2) (b:=b) t j r;unfold gO;rw [r.r];exact ⟨x,y⟩
end
section
variable {m:i9}
theorem nS {f:Nat->Nat} (D:∀ i,f i<64) (v v':Int):∀ (k n:Nat) {m:i9},cj m->aS (aW i6 f v k n m) m (aW j5 f v' k n)
 | 0,n,m,h=>aS.pure h n
 | k+1,n,m,h=>by
  have B:=iW h (D n) (decide ((n:Int)<v));refine aS.seq B (h:=fun b d=>if b then aW j5 f v' k (n+1) d else (n,d)) ?_;exact aS.ite (fun _=>nS D v v' k (n+1) B.ok) (fun _=>aS.pure B.ok n)
theorem uu (u D:Int):∀ (k n:Nat) {m:i9},cj m->aS (bF i6 u k n m) m (bF j5 D k n)
 | 0,n,m,h=>aS.pure h n
 | k+1,n,m,h=>by
  have B:=kQ h (decide ((2:Int) ^ (n+1)<=u));refine aS.seq B (h:=fun b d=>if b then bF j5 D k (n+1) d else (n,d)) ?_;exact aS.ite (fun _=>uu u D k (n+1) B.ok) (fun _=>aS.pure B.ok n)
theorem wZ (u D:Int):∀ (k n:Nat) {m:i9},cj m->aS (cB i6 u k n m) m (cB j5 D k n)
 | 0,n,m,h=>aS.pure h n
 | k+1,n,m,h=>by
  have B:=kQ h (decide (u / (2:Int) ^ k % 2=1));exact aS.seq B (h:=fun b d=>cB j5 D k (if b then 2*n+1 else 2*n) d) (wZ u D k _ B.ok)
theorem DL (u D:Int) (h:cj m):aS (cH i6 u m) m (cH j5 D):=by
 have A:=uu u D 13 0 h;exact aS.seq A (h:=fun z d=>cB j5 D z 1 d) (wZ u D _ 1 A.ok)
theorem Ij {base:Nat} (D:base<=39) (v v':Int) (h:cj m):aS (dz i6 base v m) m (dz j5 base v'):=by
 have A:=nS (f:=fun n=>base+17+min n 7) (fun i=>Qa) v v' 14 0 h;refine aS.seq A (h:=fun z d=>if z=14 then (13+(cH j5 (v'-13) d).1,(cH j5 (v'-13) d).2) else (z,d)) ?_;unfold dz
 split
 ·exact (DL (v-13) (v'-13) A.ok).map (fun z=>13+z)
 ·exact aS.pure A.ok _
theorem DN {base:Nat} (D:base<=39) (v v':Int) (h:cj m):aS (aV i6 base v m) m (aV j5 base v'):=by
 have A:=kQ h (decide (v<0));exact aS.seq A (h:=fun s d=>(dW s (dz j5 base (max v' (-v')-1) d).1,(dz j5 base (max v' (-v')-1) d).2)) ((Ij D _ _ A.ok).map (dW _))
theorem xe (v v':Int) (h:cj m):aS (bO i6 v m) m (bO j5 v'):=by
 have A:=iW h (c:=3) Qa (decide (1<min (max v 0) 3));refine aS.seq A (h:=fun b d=>if b then (if (dV 5 d).1 then 3 else 2,(dV 5 d).2) else (if (dV 4 d).1 then 1 else 0,(dV 4 d).2)) ?_;unfold bO lB;exact aS.ite (fun _=>(iW A.ok (c:=5) Qa _).map (fun b:Bool=>if b then 3 else 2)) (fun _=>(iW A.ok (c:=4) Qa _).map (fun b:Bool=>if b then 1 else 0))
theorem xf (v v':Int) (h:cj m):aS (bT i6 v m) m (bT j5 v'):=by
 unfold bT;generalize min (max v (-15)) 15=u;generalize min (max v' (-15)) 15=u';have A:=iW h (c:=6) Qa (decide (u≠0));refine aS.seq A (h:=fun b d=>if b then ie j5 u' (gO d).1 (gO d).2 else (0,d)) ?_;unfold ib;refine aS.ite (fun _=>?_) (fun _=>aS.pure A.ok _);have B:=kQ A.ok (decide (u<0));exact aS.seq B (h:=fun s d=>ie j5 u' s d) ((nS (f:=fun n=>7+min n 6) (fun i=>Qa) _ _ 14 0 B.ok).map (dW _))
def dU {σ:Type} (C:lX σ) (base last:Nat) (l:List Int) (a:Nat) (rest:List Nat) (i:Nat) (out:List Int) (br:Bool) (x:Int) (s:σ):Except l4 (List Int)×σ :=
 if x < -16320\/16320<x then (.error ⟨[(kP,(i:Int))],3⟩,s)
 else if br then (if (C.bit (base+9+min i 7) (bR l rest) s).1 then (.ok (out.set a x),(C.bit (base+9+min i 7) (bR l rest) s).2) else aH C base last l rest (i+1) (out.set a x) (C.bit (base+9+min i 7) (bR l rest) s).2)
 else aH C base last l rest (i+1) (out.set a x) s
theorem iu {σ:Type} (C:lX σ) (base last:Nat) (l:List Int) (a:Nat) (rest:List Nat) (i:Nat) (out:List Int) (s:σ):aH C base last l (a :: rest) i out s =
  if i<last then (if (C.bit (base+1+min i 7) (decide (l.getD a 0≠0)) s).1 then dU C base last l a rest i out true (aV C base (l.getD a 0) (C.bit (base+1+min i 7) (decide (l.getD a 0≠0)) s).2).1 (aV C base (l.getD a 0) (C.bit (base+1+min i 7) (decide (l.getD a 0≠0)) s).2).2
   else aH C base last l rest (i+1) out (C.bit (base+1+min i 7) (decide (l.getD a 0≠0)) s).2)
  else dU C base last l a rest i out false (aV C base (l.getD a 0) s).1 (aV C base (l.getD a 0) s).2:=by
 rw [aH];unfold dU;simp only [if_true,Bool.false_eq_true,if_false]
theorem ke {base last:Nat} (I:base<=39) (l D:List Int):∀ (o:List Nat) (i:Nat) (out:List Int) {m:i9},cj m->aS (aH i6 base last l o i out m) m (aH j5 base last D o i out)
 | [],i,out,m,h=>aS.pure h _
 | a :: rest,i,out,m,h=>by
  have M:∀ {m:i9},cj m->∀ (E:Bool) (x:Int),aS (dU i6 base last l a rest i out E x m) m (dU j5 base last D a rest i out E x):=by
   intro m h E x;unfold dU;by_cases hx:x < -16320\/16320<x
   ·simp only [if_pos hx]
    exact aS.pure h _
   ·simp only [if_neg hx]
    refine aS.ite (fun _=>?_) (fun _=>ke I l D rest (i+1) _ h);have B:=iW h (c:=base+9+min i 7) Qa (bR l rest);refine aS.seq B (h:=fun b d=>if b then (.ok (out.set a x),d) else aH j5 base last D rest (i+1) (out.set a x) d) ?_;exact aS.ite (fun _=>aS.pure B.ok _) (fun _=>ke I l D rest (i+1) _ B.ok)
  have F:∀ {m:i9},cj m->∀ (E:Bool),aS (dU i6 base last l a rest i out E (aV i6 base (l.getD a 0) m).1 (aV i6 base (l.getD a 0) m).2) m (fun d=>dU j5 base last D a rest i out E (aV j5 base (D.getD a 0) d).1 (aV j5 base (D.getD a 0) d).2):=by
   intro m h E;have L:=DN I (l.getD a 0) (D.getD a 0) h;exact aS.seq L (h:=fun x d=>dU j5 base last D a rest i out E x d) (M L.ok E _)
  by_cases hi:i<last
  ·have J:aH i6 base last l (a :: rest) i out m=(if (mA (base+1+min i 7) (decide (l.getD a 0≠0)) m).1 then dU i6 base last l a rest i out true (aV i6 base (l.getD a 0) (mA (base+1+min i 7) (decide (l.getD a 0≠0)) m).2).1 (aV i6 base (l.getD a 0) (mA (base+1+min i 7) (decide (l.getD a 0≠0)) m).2).2 else aH i6 base last l rest (i+1) out (mA (base+1+min i 7) (decide (l.getD a 0≠0)) m).2):=by
    rw [iu,if_pos hi];rfl
   have e2:aH j5 base last D (a :: rest) i out=fun d=>if (dV (base+1+min i 7) d).1 then dU j5 base last D a rest i out true (aV j5 base (D.getD a 0) (dV (base+1+min i 7) d).2).1 (aV j5 base (D.getD a 0) (dV (base+1+min i 7) d).2).2 else aH j5 base last D rest (i+1) out (dV (base+1+min i 7) d).2:=funext fun d=>by
    rw [iu,if_pos hi];rfl
   rw [J,e2];have A:=iW h (c:=base+1+min i 7) Qa (decide (l.getD a 0≠0));refine aS.seq A (h:=fun b d=>if b then dU j5 base last D a rest i out true (aV j5 base (D.getD a 0) d).1 (aV j5 base (D.getD a 0) d).2 else aH j5 base last D rest (i+1) out d) ?_;exact aS.ite (fun _=>F A.ok true) (fun _=>ke I l D rest (i+1) _ A.ok)
  ·have J:aH i6 base last l (a :: rest) i out m=dU i6 base last l a rest i out false (aV i6 base (l.getD a 0) m).1 (aV i6 base (l.getD a 0) m).2:=by rw [iu,if_neg hi]
   have e2:aH j5 base last D (a :: rest) i out=fun d=>dU j5 base last D a rest i out false (aV j5 base (D.getD a 0) d).1 (aV j5 base (D.getD a 0) d).2:=funext fun d=>by rw [iu,if_neg hi]
   rw [J,e2];exact F h false
theorem qR {side:Nat} (l D:List Int) (h:cj m):aS (aR i6 side l m) m (aR j5 side D):=by
 have E:jB side<=39:=by unfold jB;split <;> omega
 have A:=iW h (c:=jB side) Qa (!cN l);refine aS.seq A (h:=fun b d=>if b then aH j5 (jB side) (side*side-1) D (aD side) 0 (List.replicate (side*side) 0) d else (.ok (List.replicate (side*side) 0),d)) ?_;unfold aR;exact aS.ite (fun _=>ke E l D _ _ _ A.ok) (fun _=>aS.pure A.ok _)
theorem mX {σ:Type} (C:lX σ) (D:List Int) (F:List (List Int)) (k:Nat) (ms:List Int) (E:List (List Int)) (s:σ):bq C D F (k+1) ms E s=match (aR C 4 (F.getD E.length []) (bO C (D.getD ms.length 0) s).2).1 with
  | .error e=>(Except.error e,(aR C 4 (F.getD E.length []) (bO C (D.getD ms.length 0) s).2).2)
  | .ok l=>bq C D F k (ms ++ [((bO C (D.getD ms.length 0) s).1:Int)]) (E ++ [l]) (aR C 4 (F.getD E.length []) (bO C (D.getD ms.length 0) s).2).2:=rfl
theorem uw (J F:List Int) (I D:List (List Int)):∀ (k:Nat) (ms:List Int) (E:List (List Int)) {m:i9},cj m->aS (bq i6 J I k ms E m) m (bq j5 F D k ms E)
 | 0,ms,E,m,h=>aS.pure h _
 | k+1,ms,E,m,h=>by
  have A:=xe (J.getD ms.length 0) (F.getD ms.length 0) h;refine aS.seq A (h:=fun (mo:Nat) d=>match (aR j5 4 (D.getD E.length []) d).1 with
   | .error e=>(Except.error e,(aR j5 4 (D.getD E.length []) d).2)
   | .ok l=>bq j5 F D k (ms ++ [(mo:Int)]) (E ++ [l]) (aR j5 4 (D.getD E.length []) d).2) ?_
  rw [mX];generalize bO i6 (J.getD ms.length 0) m=M at *
  have B:=qR (side:=4) (I.getD E.length []) (D.getD E.length []) A.ok;refine aS.seq B (h:=fun r d=>match r with
   | .error e=>(Except.error e,d)
   | .ok l=>bq j5 F D k (ms ++ [(M.1:Int)]) (E ++ [l]) d) ?_
  generalize aR i6 4 (I.getD E.length []) M.2=K at *
  obtain ⟨L,N⟩:=K;cases L with
  | error e=>exact aS.pure B.ok _
  | ok l=>exact uw J F I D k _ _ B.ok
theorem DM (key:Bool) (k k':Int) (h:cj m):aS (bL i6 key k m) m (bL j5 key k'):=by
 unfold bL;cases key with
 | true=>exact (kQ h (decide (k=3))).map (fun b:Bool=>if b then 3 else 2)
 | false=>exact nS (f:=fun n=>min n 63) (fun i=>Qa) _ _ 3 0 h
theorem DO (q D:rN) (k:Nat) (h:cj m):aS (cz i6 q k m) m (cz j5 D k):=by
 unfold cz;by_cases F:k=3
 ·simp only [if_pos F]
  have A:=uw q.modes D.modes q.small D.small 4 [] [] h;refine aS.seq A (h:=fun r d=>match r with
   | .error e=>(Except.error e,d)
   | .ok x=>(Except.ok (⟨3,0,x.1,0,0,[],x.2⟩:j4),d)) ?_
  generalize bq i6 q.modes q.small 4 [] [] m=K at *
  obtain ⟨E,I⟩:=K;cases E <;> exact aS.pure A.ok _
 simp only [if_neg F];by_cases h0:k=0
 ·simp only [if_pos h0]
  exact aS.pure h _
 simp only [if_neg h0];by_cases h1:k=1
 ·simp only [if_pos h1]
  have A:=xf q.vx D.vx h;refine aS.seq A (h:=fun vx d=>match (aR j5 8 D.large (bT j5 D.vy d).2).1 with
   | .error e=>(Except.error e,(aR j5 8 D.large (bT j5 D.vy d).2).2)
   | .ok l=>(Except.ok (⟨1,0,[0,0,0,0],vx,(bT j5 D.vy d).1,l,[[],[],[],[]]⟩:j4),(aR j5 8 D.large (bT j5 D.vy d).2).2)) ?_
  generalize bT i6 q.vx m=X at *
  have B:=xf q.vy D.vy A.ok;refine aS.seq B (h:=fun vy d=>match (aR j5 8 D.large d).1 with
   | .error e=>(Except.error e,(aR j5 8 D.large d).2)
   | .ok l=>(Except.ok (⟨1,0,[0,0,0,0],X.1,vy,l,[[],[],[],[]]⟩:j4),(aR j5 8 D.large d).2)) ?_
  generalize bT i6 q.vy X.2=Y at *
  have L:=qR (side:=8) q.large D.large B.ok;refine aS.seq L (h:=fun r d=>match r with
   | .error e=>(Except.error e,d)
   | .ok l=>(Except.ok (⟨1,0,[0,0,0,0],X.1,Y.1,l,[[],[],[],[]]⟩:j4),d)) ?_
  generalize aR i6 8 q.large Y.2=K at *
  obtain ⟨E,I⟩:=K;cases E <;> exact aS.pure L.ok _
 simp only [if_neg h1];have A:=xe q.mode D.mode h;refine aS.seq A (h:=fun (mo:Nat) d=>match (aR j5 8 D.large d).1 with
  | .error e=>(Except.error e,(aR j5 8 D.large d).2)
  | .ok l=>(Except.ok (⟨2,mo,[0,0,0,0],0,0,l,[[],[],[],[]]⟩:j4),(aR j5 8 D.large d).2)) ?_
 generalize bO i6 q.mode m=M at *
 have L:=qR (side:=8) q.large D.large A.ok;refine aS.seq L (h:=fun r d=>match r with
  | .error e=>(Except.error e,d)
  | .ok l=>(Except.ok (⟨2,M.1,[0,0,0,0],0,0,l,[[],[],[],[]]⟩:j4),d)) ?_
 generalize aR i6 8 q.large M.2=K at *
 obtain ⟨E,I⟩:=K;cases E <;> exact aS.pure L.ok _
theorem Bq (key:Bool) (q:rN) (h:cj m):aS (dE i6 key q m) m (lJ key):=by
 have E:aS (dE i6 key q m) m (dE j5 key q):=by
  have A:=DM key q.kind q.kind h;refine aS.seq A (h:=fun (k:Nat) d=>match (cz j5 q k d).1 with
   | .error e=>(Except.error (C6 nR k e),(cz j5 q k d).2)
   | .ok s=>(Except.ok s,(cz j5 q k d).2)) ?_
  unfold dE;generalize bL i6 key q.kind m=K at *
  have B:=DO q q K.1 A.ok;refine aS.seq B (h:=fun r d=>match r with
   | .error e=>(Except.error (C6 nR K.1 e),d)
   | .ok s=>(Except.ok s,d)) ?_
  generalize cz i6 q K.1 K.2=P at *
  obtain ⟨F,I⟩:=P;cases F <;> exact aS.pure B.ok _
 refine ⟨E.ok,E.inn,fun {D z d} t i r=>?_⟩;have:=E.same t i r;rw [DW] at this;exact this
end
theorem jC (c:Nat) (b:Bool) (m:i9):(i6.bit c b m).1=b:=rfl
theorem nt (b:Bool) (m:i9):(i6.flat b m).1=b:=rfl
theorem pR {f:Nat->Nat} {v:Int}:∀ (k n:Nat) (m:i9),(n:Int)<=v->v<=n+k->((aW i6 f v k n m).1:Int)=v
 | 0,n,m,h1,h2=>by show (n:Int)=v;omega
 | k+1,n,m,h1,h2=>by
  unfold aW;rw [jC];by_cases h:(n:Int)<v
  ·rw [if_pos Qp]
   exact pR k (n+1) _ Qa Qa
  ·rw [if_neg Qp]
   show (n:Int)=v;omega
theorem Az {f:Nat->Nat} {v:Int}:∀ (k n:Nat) (m:i9),(n:Int)+k<=v->(aW i6 f v k n m).1=n+k
 | 0,n,m,h=>rfl
 | k+1,n,m,h=>by
  unfold aW;rw [jC,if_pos Qm,Az k (n+1) _ Qa];omega
theorem vV {u:Int}:∀ (k n:Nat) (m:i9),(2:Int) ^ n<=u->u<2 ^ (n+k+1)->(2:Int) ^ (bF i6 u k n m).1<=u/\u<2 ^ ((bF i6 u k n m).1+1)
 | 0,n,m,h1,h2=>⟨h1,h2⟩
 | k+1,n,m,h1,h2=>by
  unfold bF;rw [nt];by_cases h:(2:Int) ^ (n+1)<=u
  ·rw [if_pos Qp]
   exact vV k (n+1) _ h (by rw [show n+1+k+1=n+(k+1)+1 by omega];exact h2)
  ·rw [if_neg Qp]
   exact ⟨h1,Int.not_le.1 h⟩
theorem yO {u:Int} (hu:0<=u):∀ (k n:Nat) (m:i9),(n:Int)=u / 2 ^ k->((cB i6 u k n m).1:Int)=u
 | 0,n,m,h=>by show (n:Int)=u;rw [h];simp
 | k+1,n,m,h=>by
  unfold cB;rw [nt];refine yO hu k _ _ ?_;have E:(2:Int) ^ (k+1)=2 ^ k*2:=Int.pow_succ 2 k;rw [E,<- Int.ediv_ediv_of_nonneg (Int.le_of_lt (Int.pow_pos Ql))] at h;generalize u / 2 ^ k=q at *
  by_cases D:q % 2=1
  ·rw [if_pos (by simpa using D)];omega
  ·rw [if_neg (by simpa using D)];omega
theorem Gp {u:Int} (h1:1<=u) (E:u<16384) (m:i9):((cH i6 u m).1:Int)=u:=by
 obtain ⟨a,b⟩:=vV (u:=u) 13 0 m (by simpa using h1) (by simpa using E);unfold cH;generalize bF i6 u 13 0 m=F at *
 refine yO Qa _ _ _ ?_;rw [Int.pow_succ] at b;have D:(0:Int)<2 ^ F.1:=Int.pow_pos Ql;generalize (2:Int) ^ F.1=P at *
 have I:1<=u / P:=(Int.le_ediv_iff_mul_le D).2 Qa;have e2:u / P<2:=(Int.ediv_lt_iff_lt_mul D).2 Qa;show (1:Int)=u / P;omega
theorem LK {base:Nat} {v:Int} (h1:0<=v) (D:v<=16320) (m:i9):((dz i6 base v m).1:Int)=v:=by
 unfold dz;by_cases h:v<14
 ·have e:=pR (f:=fun n=>base+17+min n 7) (v:=v) 14 0 m Qa Qa
  rw [if_neg Qa];exact e
 ·have e:=Az (f:=fun n=>base+17+min n 7) (v:=v) 14 0 m Qa
  rw [if_pos Qa];have g:=Gp (u:=v-13) Qa Qa (aW i6 (fun n=>base+17+min n 7) v 14 0 m).2;show ((13+(cH i6 (v-13) _).1:Nat):Int)=v;omega
theorem wD {base:Nat} {v:Int} (h0:v≠0) (h1:-16320<=v) (D:v<=16320) (m:i9):(aV i6 base v m).1=v:=by
 unfold aV;have e:=LK (base:=base) (v:=max v (-v)-1) Qa Qa (i6.flat (decide (v<0)) m).2;rw [nt];show dW (decide (v<0)) (dz i6 base (max v (-v)-1) (i6.flat (decide (v<0)) m).2).1=v;generalize dz i6 base (max v (-v)-1) (i6.flat (decide (v<0)) m).2=S at *
 unfold dW;by_cases h:v<0
 ·rw [if_pos Qp];omega
 ·rw [if_neg Qp];omega
theorem pN {v:Int} (h1:0<=v) (D:v<=3) (m:i9):((bO i6 v m).1:Int)=v:=by
 unfold bO lB;rw [show min (max v 0) 3=v by omega,jC];by_cases h:1<v
 ·rw [if_pos Qp]
  show ((if decide (v % 2=1)=true then 3 else 2:Nat):Int)=v;by_cases hv:v % 2=1
  ·rw [if_pos Qy];omega
  ·rw [if_neg Qy];omega
 ·rw [if_neg Qp]
  show ((if decide (v % 2=1)=true then 1 else 0:Nat):Int)=v;by_cases hv:v % 2=1
  ·rw [if_pos Qy];omega
  ·rw [if_neg Qy];omega
theorem AF {v:Int} (h1:-15<=v) (E:v<=15) (m:i9):(bT i6 v m).1=v:=by
 unfold bT ib;rw [show min (max v (-15)) 15=v by omega,jC];by_cases h:v=0
 ·rw [if_neg Qp];exact h.symm
 ·rw [if_pos Qp]
  unfold ie;have e:=pR (f:=fun n=>7+min n 6) (v:=max v (-v)-1) 14 0 (i6.flat (decide (v<0)) (i6.bit 6 (decide (v≠0)) m).2).2 Qa Qa;rw [nt];show dW (decide (v<0)) (aW i6 (fun n=>7+min n 6) (max v (-v)-1) 14 0 (i6.flat (decide (v<0)) (i6.bit 6 (decide (v≠0)) m).2).2).1=v;generalize aW i6 (fun n=>7+min n 6) (max v (-v)-1) 14 0 (i6.flat (decide (v<0)) (i6.bit 6 (decide (v≠0)) m).2).2=S at *
  unfold dW;by_cases D:v<0
  ·rw [if_pos (by simpa using D)];omega
  ·rw [if_neg (by simpa using D)];omega
theorem nC {key:Bool} {k:Int} (h1:0<=k) (E:k<=3) (D:key=true->2<=k) (m:i9):((bL i6 key k m).1:Int)=k:=by
 unfold bL;cases key with
 | true =>
  rw [if_pos rfl];show ((if decide (k=3)=true then 3 else 2:Nat):Int)=k;have:=D rfl;by_cases h:k=3
  ·rw [if_pos Qp];omega
  ·rw [if_neg Qp];omega
 | false =>
  rw [if_neg Qb];exact pR (f:=fun n=>min n 63) 3 0 m Qa Qa
structure xB (l:List Int) (rest:List Nat) (out:List Int):Prop where
 len:out.length=l.length
 at_:∀ j,j<l.length->out.getD j 0=if j∈rest then 0 else l.getD j 0
theorem uV {l:List Int} {a:Nat} {x:Int} (h:a<l.length):(l.set a x).getD a 0=x:=by
 rw [Pd,PT h];rfl
theorem td {l:List Int} {a j:Nat} {x:Int} (h:j≠a):(l.set a x).getD j 0=l.getD j 0:=by
 rw [Pd,PS (Ne.symm h),<- Pd]
theorem xB.next {l out:List Int} {a:Nat} {rest:List Nat} (h:xB l (a :: rest) out) (I:a<l.length) (F:a∉rest):xB l rest (out.set a (l.getD a 0)):=by
 refine ⟨by rw [PF];exact h.len,fun j D=>?_⟩;by_cases e:j=a
 ·subst e
  rw [uV (by rw [h.len];exact D),if_neg F]
 ·rw [td e,h.at_ j D]
  by_cases hr:j∈rest
  ·rw [if_pos (Pv _ hr),if_pos hr]
  ·rw [if_neg (fun E=>(Zb.1 E).elim e hr),if_neg hr]
theorem xB.skip {l out:List Int} {a:Nat} {rest:List Nat} (h:xB l (a :: rest) out) (h0:l.getD a 0=0):xB l rest out:=by
 refine ⟨h.len,fun j D=>?_⟩;rw [h.at_ j D];by_cases hr:j∈rest
 ·rw [if_pos (Pv _ hr),if_pos hr]
 ·rw [if_neg hr]
  by_cases e:j=a
  ·subst e;rw [if_pos (VY ..),h0]
  ·rw [if_neg (fun E=>(Zb.1 E).elim e hr)]
theorem xB.done {l out:List Int} {rest:List Nat} (h:xB l rest out) (E:bR l rest=true):out=l:=by
 refine List.ext_getElem h.len (fun j h1 D=>?_);have e:=h.at_ j D;rw [Pd,Pe h1,Pd,Pe D] at e;simp only [Option.getD_some] at e;by_cases hr:j∈rest
 ·rw [if_pos hr] at e
  unfold bR at E;rw [t6] at E;have:=E j hr;rw [Pd,Pe D] at this;simp only [Option.getD_some,beq_iff_eq] at this;rw [e,this]
 ·rw [if_neg hr] at e;exact e
theorem oG {base last:Nat} {l:List Int} (L:cE l):∀ (o:List Nat) (i:Nat) (out:List Int) (m:i9),(∀ a∈o,a<l.length)->o.Nodup->i+o.length=last+1->bR l o=false->xB l o out ->
  (aH i6 base last l o i out m).1=.ok l
 | [],i,out,m,ho,hn,hi,hz,ht=>by simp [bR] at hz
 | a :: rest,i,out,m,ho,hn,hi,hz,ht=>by
  have J:=ho a (VY ..);have D:=List.nodup_cons.1 hn;have F:∀ b∈rest,b<l.length:=fun b N=>ho b (Pv _ N)
  have I:-16320<=l.getD a 0/\l.getD a 0<=16320:=L _ (by rw [Pd,Pe J];exact PG _);have M:bR l (a :: rest)=(l.getD a 0 == 0 && bR l rest):=rfl;rw [M] at hz;rw [Pq] at hi;rw [iu];by_cases E:i<last
  ·rw [if_pos E,jC]
   by_cases h0:l.getD a 0=0
   ·rw [if_neg QD]
    rw [h0] at hz;simp only [beq_self_eq_true,Bool.true_and] at hz;exact oG L rest (i+1) out _ F D.2 Qa hz (ht.skip h0)
   ·rw [if_pos QD,wD h0 I.1 I.2]
    unfold dU;rw [if_neg Qa,if_pos rfl,jC];cases hr:bR l rest with
    | true =>
     rw [if_pos rfl];show Except.ok (out.set a (l.getD a 0))=.ok l;rw [(ht.next J D.1).done hr]
    | false =>
     rw [if_neg Qb];exact oG L rest (i+1) _ _ F D.2 Qa hr (ht.next J D.1)
  ·have hr:rest=[]:=List.eq_nil_of_length_eq_zero Qa
   subst hr;have h0:l.getD a 0≠0:=by intro e;rw [e] at hz;simp [bR] at hz
   rw [if_neg E,wD h0 I.1 I.2];unfold dU;rw [if_neg Qa,if_neg Qb];show Except.ok (out.set a (l.getD a 0))=.ok l;rw [(ht.next J D.1).done rfl]
theorem Mb {l:List Int} (h:cN l=false) {o:List Nat} (F:∀ j,j<l.length->j∈o):bR l o=false:=by
 cases hz:bR l o with
 | false=>rfl
 | true =>
  exfalso;unfold cN at h;rw [List.all_eq_false] at h;obtain ⟨x,hx,E⟩:=h;obtain ⟨j,D,rfl⟩:=List.mem_iff_getElem.1 hx;unfold bR at hz;rw [t6] at hz;have:=hz j (F j D);rw [Pd,Pe D] at this;exact E this
theorem Mc {l:List Int} (h:cN l=true):l=List.replicate l.length 0:=by
 unfold cN at h;rw [t6] at h;exact List.eq_replicate_iff.2 ⟨rfl,fun x hx=>by simpa using h x hx⟩
theorem tV:(aD 4).Nodup/\∀ j,j<16->j∈aD 4:=by rw [jL];decide
theorem tW:(aD 8).Nodup/\∀ j,j<64->j∈aD 8:=by rw [jM];decide
theorem jF {side:Nat} (F:side=4\/side=8) {l:List Int} (E:l.length=side*side) (L:cE l) (m:i9):(aR i6 side l m).1=.ok l:=by
 have D:(aD side).Nodup/\(∀ j,j<side*side->j∈aD side)/\(∀ j∈aD side,j<side*side)/\(aD side).length=side*side:=by
  rcases F with rfl | rfl
  ·exact ⟨tV.1,tV.2,oT,gP⟩
  ·exact ⟨tW.1,tW.2,oU,gQ⟩
 unfold aR;rw [jC];cases hz:cN l with
 | true =>
  rw [if_neg Qb];show Except.ok (List.replicate (side*side) 0)=.ok l;rw [<- E,<- Mc hz]
 | false =>
  simp only [Bool.not_false,if_true];have M:0<side*side:=by rcases F with rfl | rfl <;> decide
  refine oG L (aD side) 0 _ _ (fun a I=>by rw [E];exact D.2.2.1 a I) D.1 (by rw [D.2.2.2];omega) (Mb hz (fun j J=>D.2.1 j Qa)) ⟨by simp [E],fun j J=>?_⟩;rw [if_pos (D.2.1 j Qa),Pd,List.getElem?_replicate]
  split <;> rfl
def dB (s:j4):rN:=⟨s.kind,s.mode,s.modes,s.vx,s.vy,s.large,s.small⟩
def mO (s:j4):j4 :=
 if s.kind=3 then ⟨3,0,s.modes,0,0,[],s.small⟩ else if s.kind=0 then r6 else if s.kind=1 then ⟨1,0,[0,0,0,0],s.vx,s.vy,s.large,[[],[],[],[]]⟩ else ⟨2,s.mode,[0,0,0,0],0,0,s.large,[[],[],[],[]]⟩
structure iH (key:Bool) (s:j4):Prop where
 kind:s.kind<=3
 key_:key=true->2<=s.kind
 mode:s.kind=2->s.mode<=3
 large:s.kind=1\/s.kind=2->s.large.length=64/\cE s.large
 vec:s.kind=1->-15<=s.vx/\s.vx<=15/\-15<=s.vy/\s.vy<=15
 small:s.kind=3->s.modes.length=4/\s.small.length=4/\(∀ x∈s.modes,0<=x/\x<=3)/\∀ l∈s.small,l.length=16/\cE l
theorem Lk {p:Prop} (h:p:=by
 rw [show 4-k=4-(k+1)+1 by omega,UJ Qa,Pd,Pe Qa];rfl):p:=h
theorem xh {E:List Int} {D:List (List Int)} (Z:E.length=4) (Y:D.length=4) (I:∀ x∈E,0<=x/\x<=3) (F:∀ l∈D,l.length=16/\cE l):∀ (k:Nat) (m:i9),k<=4 ->
  (bq i6 E D k (E.take (4-k)) (D.take (4-k)) m).1=.ok (E,D)
 | 0,m,hk=>by
  show Except.ok (E.take 4,D.take 4)=.ok (E,D);rw [YN Qa,YN Qa]
 | k+1,m,hk=>by
  have hj:4-(k+1)<4:=Qa;have V:(E.take (4-(k+1))).length=4-(k+1):=Qs;have e2:(D.take (4-(k+1))).length=4-(k+1):=Qs;rw [mX,V,e2];have N:E.getD (4-(k+1)) 0∈E:=by rw [Pd,Pe Qa];exact PG _
  have O:D.getD (4-(k+1)) []∈D:=by rw [Pd,Pe Qa];exact PG _
  have L:=pN (I _ N).1 (I _ N).2 m;generalize bO i6 (E.getD (4-(k+1)) 0) m=M at *
  have J:=jF (side:=4) (.inl rfl) (F _ O).1 (F _ O).2 M.2;generalize aR i6 4 (D.getD (4-(k+1)) []) M.2=K at *
  rw [J,L];have t1:E.take (4-(k+1)) ++ [E.getD (4-(k+1)) 0]=E.take (4-k):=by
   exact Lk
  have t2:D.take (4-(k+1)) ++ [D.getD (4-(k+1)) []]=D.take (4-k):=by
   exact Lk
  show (bq i6 E D k (E.take (4-(k+1)) ++ [E.getD (4-(k+1)) 0]) (D.take (4-(k+1)) ++ [D.getD (4-(k+1)) []]) K.2).1=_;rw [t1,t2];exact xh Z Y I F k _ Qa
theorem DX {key:Bool} {s:j4} (h:iH key s) (m:i9):(dE i6 key (dB s) m).1=.ok (mO s):=by
 have Y:=nC (key:=key) (k:=(s.kind:Int)) Qa (j0 h.kind) (fun e=>by have:=h.key_ e;omega) m;unfold dE;show (match (cz i6 (dB s) (bL i6 key (s.kind:Int) m).1 (bL i6 key (s.kind:Int) m).2).1 with
  | .error e=>(Except.error (C6 nR (bL i6 key (s.kind:Int) m).1 e),(cz i6 (dB s) (bL i6 key (s.kind:Int) m).1 (bL i6 key (s.kind:Int) m).2).2)
  | .ok s'=>(Except.ok s',(cz i6 (dB s) (bL i6 key (s.kind:Int) m).1 (bL i6 key (s.kind:Int) m).2).2)).1=_
 generalize bL i6 key (s.kind:Int) m=K at *
 have F:K.1=s.kind:=Qa;rw [F];have E:(cz i6 (dB s) s.kind K.2).1=.ok (mO s):=by
  unfold cz mO;by_cases D:s.kind=3
  ·rw [if_pos D,if_pos D]
   obtain ⟨a,b,c,d⟩:=h.small D;have e:=xh a b c d 4 K.2 Qa;simp only [Nat.sub_self,List.take_zero] at e;show (match (bq i6 s.modes s.small 4 [] [] K.2).1 with
    | .error e=>(Except.error e,(bq i6 s.modes s.small 4 [] [] K.2).2)
    | .ok x=>(Except.ok (⟨3,0,x.1,0,0,[],x.2⟩:j4),(bq i6 s.modes s.small 4 [] [] K.2).2)).1=_
   rw [e]
  rw [if_neg D,if_neg D];by_cases h0:s.kind=0
  ·rw [if_pos h0,if_pos h0]
  rw [if_neg h0,if_neg h0];by_cases h1:s.kind=1
  ·rw [if_pos h1,if_pos h1]
   obtain ⟨a,b⟩:=h.large (.inl h1);obtain ⟨L,N,O,V⟩:=h.vec h1;have J:=AF L N K.2;show (match (aR i6 8 s.large (bT i6 s.vy (bT i6 s.vx K.2).2).2).1 with
    | .error e=>(Except.error e,(aR i6 8 s.large (bT i6 s.vy (bT i6 s.vx K.2).2).2).2)
    | .ok l=>(Except.ok (⟨1,0,[0,0,0,0],(bT i6 s.vx K.2).1,(bT i6 s.vy (bT i6 s.vx K.2).2).1,l,[[],[],[],[]]⟩:j4),(aR i6 8 s.large (bT i6 s.vy (bT i6 s.vx K.2).2).2).2)).1=_
   rw [J];generalize bT i6 s.vx K.2=X at *
   rw [AF O V X.2,jF (side:=8) (.inr rfl) a b]
  rw [if_neg h1,if_neg h1];have I:s.kind=2:=by have:=h.kind;omega
  obtain ⟨a,b⟩:=h.large (.inr I);have J:=pN (v:=(s.mode:Int)) Qa (j0 (h.mode I)) K.2;show (match (aR i6 8 s.large (bO i6 (s.mode:Int) K.2).2).1 with
   | .error e=>(Except.error e,(aR i6 8 s.large (bO i6 (s.mode:Int) K.2).2).2)
   | .ok l=>(Except.ok (⟨2,(bO i6 (s.mode:Int) K.2).1,[0,0,0,0],0,0,l,[[],[],[],[]]⟩:j4),(aR i6 8 s.large (bO i6 (s.mode:Int) K.2).2).2)).1=_
  generalize bO i6 (s.mode:Int) K.2=M at *
  rw [jF (side:=8) (.inr rfl) a b,show M.1=s.mode by omega]
 generalize cz i6 (dB s) s.kind K.2=P at *
 rw [E]
theorem tN {f prev:ah} {x y qp:Int} {s:j4} (h:s.kind<=3):bk f prev x y qp (mO s)=bk f prev x y qp s:=by
 unfold mO;by_cases D:s.kind=3
 ·rw [if_pos D];unfold bk
  rw [if_neg Qb,if_neg Qb,if_neg Qb,if_neg Qa,if_neg Qa,if_neg Qa]
  rfl
 by_cases h0:s.kind=0
 ·rw [if_neg D,if_pos h0];unfold bk
  rw [if_pos (by rfl),if_pos h0]
 by_cases h1:s.kind=1
 ·rw [if_neg D,if_neg h0,if_pos h1];unfold bk
  rw [if_neg Qb,if_pos (by rfl),if_neg h0,if_pos h1]
 ·rw [if_neg D,if_neg h0,if_neg h1];unfold bk
  rw [if_neg Qb,if_neg Qb,if_pos (by rfl),if_neg h0,if_neg h1,if_pos Qa]
def aN (n:Nat) (v:Int):List Int:=(List.range n).map fun i=>v / 256 ^ (n-1-i) % 256
def cO (l:List Int):List Int:=(l.reverse.dropWhile (· == 0)).reverse
def jk (m:i9):List Int:=cO (aN m.n m.lo)
theorem Kg {p:Int->Bool}:∀ {l:List Int} {x:Int},x∈l.takeWhile p->p x=true
 | [],x,h=>by simp at h
 | a :: l,x,h=>by
  rw [List.takeWhile_cons] at h
  split at h
  ·rename_i hp
   rcases Zb.1 h with rfl | h
   ·exact hp
   ·exact Kg h
  ·cases h
theorem pk (l:List Int):∃ k,l=cO l ++ List.replicate k 0:=by
 unfold cO;have h:=List.takeWhile_append_dropWhile (p:=(· == (0:Int))) (l:=l.reverse);refine ⟨(l.reverse.takeWhile (· == 0)).length,?_⟩;have e:(l.reverse.takeWhile (· == 0))=List.replicate (l.reverse.takeWhile (· == 0)).length 0:=by
  refine List.eq_replicate_iff.2 ⟨rfl,fun x hx=>?_⟩;have:=Kg hx;simpa using this
 have D:=congrArg List.reverse h;rw [List.reverse_append,List.reverse_reverse,e,List.reverse_replicate] at D;exact D.symm
theorem BG (l:List Int) (i:Nat):(cO l).getD i 0=l.getD i 0:=by
 obtain ⟨k,h⟩:=pk l;have e:l.getD i 0=(cO l ++ List.replicate k 0).getD i 0:=by rw [<- h]
 rw [e,Pd,Pd];by_cases hi:i<(cO l).length
 ·rw [Pu hi]
 ·rw [Pt Qa,C3 Qa,List.getElem?_replicate]
  split <;> rfl
theorem DZ (l:List Int):(cO l).length<=l.length:=by
 obtain ⟨k,h⟩:=pk l;have:=congrArg List.length h;rw [Pn] at this;omega
theorem Ea {l:List Int} {x:Int} (h:x∈cO l):x∈l:=by
 obtain ⟨k,e⟩:=pk l;rw [e];exact List.mem_append_left _ h
theorem Ce (n:Nat) (v:Int):∀ x∈aN n v,i7 .u8 x:=by
 intro x hx;obtain ⟨i,_,rfl⟩:=x8.1 hx;simp only [i7];omega
theorem Er (m:i9):∀ x∈jk m,i7 .u8 x:=fun x hx=>Ce _ _ x (Ea hx)
theorem Jl (m:i9):(jk m).length<=m.n:=Pw (DZ _) (by simp [aN])
theorem tS {D E:List Int} (h:∀ i,D.getD i 0=E.getD i 0):∀ k,lC D k=lC E k
 | 0=>rfl
 | k+1=>by show lC D k*256+D.getD k 0=lC E k*256+E.getD k 0;rw [tS h k,h k]
theorem EG {n:Nat} {v:Int} (h0:0<=v) (h1:v<256 ^ n):∀ k,k<=n->lC (aN n v) k=v / 256 ^ (n-k)
 | 0,_=>by
  show (0:Int)=v / 256 ^ n;rw [Int.ediv_eq_zero_of_lt h0 h1]
 | k+1,hk=>by
  show lC (aN n v) k*256+(aN n v).getD k 0=_;rw [EG h0 h1 k Qa];have e:(aN n v).getD k 0=v / 256 ^ (n-(k+1)) % 256:=by
   unfold aN;rw [Pd,Pz,List.getElem?_range Qa];show v / 256 ^ (n-1-k) % 256=_;rw [show n-1-k=n-(k+1) by omega]
  rw [e,show n-k=(n-(k+1))+1 by omega,Int.pow_succ,<- Int.ediv_ediv_of_nonneg (Int.le_of_lt (oX _))];generalize v / 256 ^ (n-(k+1))=q;omega
theorem Cx {z:i9} (h:cj z):qY (jk z) z:=by
 have hr:=h.r0;have E:=h.top;refine ⟨Er z,fun k D=>?_,Qa⟩;rw [show lC (jk z) k=lC (aN z.n z.lo) k from tS (BG (aN z.n z.lo)) k];exact EG h.lo0 Qa k D
theorem Ii {D:List Int} (h:∀ x∈D,i7 .u8 x):gj D gy (Kh D):=by
 refine ⟨rfl,rfl,rfl,rfl,?_⟩;show ((D.getD 0 0*256+D.getD 1 0)*256+D.getD 2 0)*256+D.getD 3 0=lC D 4-0;simp only [lC];omega
def encGo (key:Bool) (prev:ah) (qp:Int) (ch:ah->Int->Int->j4):Nat->Nat->ah->i9->ah×i9
 | 0,_,f,m=>(f,m)
 | k+1,i,f,m =>
  encGo key prev qp ch k (i+1) (bk f prev ((i:Int)*8 % f.W) ((i:Int)*8 / f.W*8) qp (ch f ((i:Int)*8 % f.W) ((i:Int)*8 / f.W*8))) (dE i6 key (dB (ch f ((i:Int)*8 % f.W) ((i:Int)*8 / f.W*8))) m).2
theorem Ep {key:Bool} {prev:ah} {qp:Int} {ch:ah->Int->Int->j4} {P:ah->Prop} (I:∀ f x y,P f->iH key (ch f x y)) (F:∀ f x y,P f->P (bk f prev x y qp (ch f x y))) :
  ∀ (k i:Nat) {f:ah} {m:i9},P f->cj m->cj (encGo key prev qp ch k i f m).2/\n9 (encGo key prev qp ch k i f m).2 m /\
   ∀ {D:List Int} {z:i9} {d:j7},qY D z->n9 z (encGo key prev qp ch k i f m).2->gj D m d->jv key prev qp k i f d=.ok (encGo key prev qp ch k i f m).1
 | 0,i,f,m,hf,hm=>⟨hm,n9.refl m,fun t w r=>rfl⟩
 | k+1,i,f,m,hf,hm=>by
  have J:=I f ((i:Int)*8 % f.W) ((i:Int)*8 / f.W*8) hf;have L:=F f ((i:Int)*8 % f.W) ((i:Int)*8 / f.W*8) hf;have E:∀ (d:j7) (s:j4),(lJ key d).1=.ok s->jv key prev qp (k+1) i f d=jv key prev qp k (i+1) (bk f prev ((i:Int)*8 % f.W) ((i:Int)*8 / f.W*8) qp s) (lJ key d).2:=fun d s h=>by rw [jv,h]
  unfold encGo;generalize (i:Int)*8 / f.W*8=y at *
  generalize (i:Int)*8 % f.W=x at *
  have S:=Bq key (dB (ch f x y)) hm;have V:=DX J m;generalize M:dE i6 key (dB (ch f x y)) m=q at *
  obtain ⟨a,b,c⟩:=Ep I F k (i+1) L S.ok;refine ⟨a,b.trans S.inn,fun {D z d} t w r=>?_⟩;obtain ⟨u,v⟩:=S.same t (w.trans b) r;rw [V] at u;rw [E d _ u,tN J.kind];exact c t w v
theorem cX (n:Nat) (v:Int):(aN n v).length=n:=by simp [aN]
theorem cD (n:Nat) (v:Int):aN (n+1) v=aN n (v / 256) ++ [v % 256]:=by
 unfold aN;rw [Zh,PN]
 congr 1
 ·refine List.map_congr_left (fun i hi=>?_)
  rw [PY] at hi;rw [show n+1-1-i=(n-1-i)+1 by omega,Int.pow_succ,Int.mul_comm,<- Int.ediv_ediv_of_nonneg Qa]
 ·simp
def jW:Nat->List Int->List Int
 | 0,l=>l
 | i+1,l=>if (l.getD i 0+1) % 256=0 then jW i (l.set i 0) else l.set i ((l.getD i 0+1) % 256)
theorem zM:∀ (n:Nat) (v:Int) (t:List Int),jW n (aN n v ++ t)=aN n (v+1) ++ t
 | 0,v,t=>rfl
 | n+1,v,t=>by
  unfold jW;have E:(aN n (v / 256)).length=n:=cX _ _;have I:(aN (n+1) v ++ t).getD n 0=v % 256:=by
   rw [cD,PM,Pd,Pt Qa,E,Nat.sub_self]
   rfl
  have F:∀ x:Int,(aN (n+1) v ++ t).set n x=aN n (v / 256) ++ (x :: t):=by
   intro x;rw [cD,PM,List.set_append_right _ _ Qa,E,Nat.sub_self]
   rfl
  rw [I];by_cases h:(v % 256+1) % 256=0
  ·rw [if_pos h,F,zM n (v / 256) (0 :: t),cD n (v+1),PM]
   have D:(v+1) / 256=v / 256+1:=Qa;have e2:(v+1) % 256=0:=Qa;rw [D,e2]
   rfl
  ·rw [if_neg h,F,cD n (v+1),PM]
   have D:(v+1) / 256=v / 256:=Qa;have e2:(v+1) % 256=(v % 256+1) % 256:=Qa;rw [D,e2]
   rfl
theorem yT (n:Nat) (v:Int):aN (n+4) v=aN n (v / 4294967296) ++ [v / 16777216 % 256,v / 65536 % 256,v / 256 % 256,v % 256]:=by
 rw [cD,cD,cD,cD];have D:v / 256 / 256=v / 65536:=Qa;have e2:v / 256 / 256 / 256=v / 16777216:=Qa;have E:v / 256 / 256 / 256 / 256=v / 4294967296:=Qa;rw [E,e2,D];simp
theorem uN (n:Nat) (v:Int):aN (n+1) (v*256 / 4294967296)=aN n (v / 4294967296) ++ [v / 16777216 % 256]:=by
 rw [cD];have D:v*256 / 4294967296 / 256=v / 4294967296:=Qa;have e2:v*256 / 4294967296 % 256=v / 16777216 % 256:=Qa;rw [D,e2]
theorem sD (n:Nat) (v:Int):aN (n+1) (v*256)=aN n v ++ [0]:=by
 rw [cD];have D:v*256 / 256=v:=Qa;have e2:v*256 % 256=0:=Qa;rw [D,e2]
def jA:Nat->List Int->Int->List Int
 | 0,l,v=>l
 | i+1,l,v=>if 0<v then jA i (l.set i ((v+l.getD i 0) % 256)) ((v+l.getD i 0) / 256) else l
theorem yL:∀ (n:Nat) (u v:Int) (t:List Int),0<=v->jA n (aN n u ++ t) v=aN n (u+v) ++ t
 | 0,u,v,t,hv=>rfl
 | n+1,u,v,t,hv=>by
  unfold jA;have D:(aN n (u / 256)).length=n:=cX _ _;have F:(aN (n+1) u ++ t).getD n 0=u % 256:=by
   rw [cD,PM,Pd,Pt Qa,D,Nat.sub_self]
   rfl
  have I:∀ x:Int,(aN (n+1) u ++ t).set n x=aN n (u / 256) ++ (x :: t):=by
   intro x;rw [cD,PM,List.set_append_right _ _ Qa,D,Nat.sub_self]
   rfl
  rw [F];by_cases h:0<v
  ·rw [if_pos h,I,yL n (u / 256) _ _ Qa,cD n (u+v),PM]
   have E:(u+v) / 256=u / 256+(v+u % 256) / 256:=Qa;have e2:(u+v) % 256=(v+u % 256) % 256:=Qa;rw [E,e2]
   rfl
  ·rw [if_neg h,show u+v=u by omega]
theorem gI {w:World} {g:Nat} {D E F:Value} {t:TypeId} (h:w.heap[g]?=some (.cells #[D,E,F] t)) :
  w.cell? ⟨g,0,none⟩=some D/\w.cell? ⟨g,1,none⟩=some E/\w.cell? ⟨g,2,none⟩=some F:=by
 refine ⟨?_,?_,?_⟩ <;> (rw [RG h];rfl)
def lI (m:i9):List Int:=aN (m.n-4) (m.lo / 4294967296)
theorem qu (m:i9):(lI m).length=m.n-4:=cX _ _
structure gi (base E:Nat) (w:World) (ov:Value) (m:i9):Prop where
 row:w.heap[E]?=some (.cells #[ov,.int .u64 (m.lo % 4294967296),.int .u64 m.r] 205)
 own:f9 .u8 5 base w ov (lI m)
 hE:base<=E
 ne:∀ g,ov.ownBlock=some g->g≠E
section
variable {base E:Nat} {w w':World} {ov:Value} {m:i9} {S:List Nat}
abbrev fk (E:Nat) (ov:Value):List Nat:=E :: ov.ownBlock.toList
theorem gi.lt (h:gi base E w ov m):∀ g∈fk E ov,base<=g/\g<w.heap.size:=by
 intro g hg;rcases Zb.1 hg with rfl | hg
 ·exact ⟨h.hE,(l8.1 h.row).1⟩
 ·exact h.own.at g Qn
theorem gi.only (h:gi base E w ov m) (o:ae S w w') (D:∀ g∈S,g∉fk E ov):gi base E w' ov m :=
 ⟨o.rowAt h.row (fun I=>D E I (VY ..)),h.own.only o (fun g F e=>D g F (Pv _ (by rw [e];simp))),h.hE,h.ne⟩
theorem gi.quiet (h:gi base E w ov m) (o:ae [] w w'):gi base E w' ov m:=h.only o Qb
theorem f9.nilOr {k:IntKind} {e:TypeId} {l:List Int} (h:f9 k e base w ov l):(ov=.slice none 0 0/\l=[])\/∃ g cap,ov=.slice (some ⟨g,0,none⟩) l.length cap:=by
 rcases h.1.2 with ⟨rfl,h2⟩ | ⟨g,cap,cur,rfl,_⟩
 ·exact .inl ⟨rfl,by have:=h.1.1;rw [h2] at this;simpa using this⟩
 ·exact .inr ⟨g,cap,rfl⟩
abbrev gH (E:Nat) (w:World) (ov:Value) (a b:Int):Prop:=w.heap[E]?=some (.cells #[ov,.int .u64 a,.int .u64 b] 205)
theorem gH.set0 {a b:Int} (h:gH E w ov a b) (v:Value):gH E (w.setCell ⟨E,0,none⟩ v) v a b/\ae [E] w (w.setCell ⟨E,0,none⟩ v):=⟨WG w E 0 _ _ _ h,(AY).setCell Qb _⟩
theorem gH.set1 {a b:Int} (h:gH E w ov a b) (x:Int):gH E (w.setCell ⟨E,1,none⟩ (.int .u64 x)) ov x b/\ae [E] w (w.setCell ⟨E,1,none⟩ (.int .u64 x)):=⟨WG w E 1 _ _ _ h,(AY).setCell Qb _⟩
theorem gH.set2 {a b:Int} (h:gH E w ov a b) (x:Int):gH E (w.setCell ⟨E,2,none⟩ (.int .u64 x)) ov a x/\ae [E] w (w.setCell ⟨E,2,none⟩ (.int .u64 x)):=⟨WG w E 2 _ _ _ h,(AY).setCell Qb _⟩
end
theorem DT {m:i9} (h:4<=m.n):lI m.shift=lI m ++ [m.lo / 16777216 % 256]:=by
 unfold lI;show aN (m.n+1-4) (m.lo*256 / 4294967296)=_;rw [show m.n+1-4=(m.n-4)+1 by omega];exact uN _ _
theorem DS (m:i9) {x:Int} (h0:0<=x) (h1:x<4294967296):lI ⟨m.p,m.lo+x,m.n,m.r-x⟩=if 4294967295<m.lo % 4294967296+x then jW (lI m).length (lI m) else lI m:=by
 split
 ·rw [qu]
  have:=zM (m.n-4) (m.lo / 4294967296) [];rw [Px,Px] at this;show aN (m.n-4) ((m.lo+x) / 4294967296)=jW (m.n-4) (aN (m.n-4) (m.lo / 4294967296));rw [this]
  congr 1;omega
 ·show aN (m.n-4) ((m.lo+x) / 4294967296)=_
  unfold lI
  congr 1;omega
theorem Jm (m:i9) (h:4<=m.n):jk m=cO (lI m ++ [m.lo / 16777216 % 256,m.lo / 65536 % 256,m.lo / 256 % 256,m.lo % 256]):=by
 unfold jk lI;rw [show m.n=(m.n-4)+4 by omega,yT,show m.n-4+4-4=m.n-4 by omega]
theorem rL {l:List Int} {k:Nat} (D:k<l.length) (h:l.getD k 0=0):cO (l.take (k+1))=cO (l.take k):=by
 unfold cO;rw [UJ D,List.reverse_append];have:l[k]=0:=by rw [Pd,Pe D] at h;exact h
 simp [this]
theorem rK {l:List Int} {k:Nat} (D:k<l.length) (h:l.getD k 0≠0):cO (l.take (k+1))=l.take (k+1):=by
 unfold cO;rw [UJ D,List.reverse_append];have:l[k]≠0:=by rw [Pd,Pe D] at h;exact h
 simp [this]
theorem vC {a:Int} (h0:0<=a) (h1:a<18446744073709551616):bits BinOp.and IntKind.u64 a 4294967295=a % 4294967296:=by
 obtain ⟨x,rfl⟩:=A0 h0;have h:=bits_and_u64_nat x 4294967295 Qa Qa;rw [show (4294967295:Nat)=2 ^ 32-1 from rfl,Nat.and_two_pow_sub_one_eq_mod] at h;rw [show (4294967295:Int)=((2 ^ 32-1:Nat):Int) from rfl,h];omega
end Go.Proofs.YthcafdfdglfabaaGreatDoor
