/- Joined texts: EWr, EWrS, EWrV, EEnd, ERac, EEnc. Conditions: each part names its own. -/
import Derived.Test.YthcafdfdglfabaaGreatDoorR2
namespace Go.Proofs.YthcafdfdglfabaaGreatDoor
open Go.RowKit
set_option linter.unusedVariables false
set_option linter.unusedSimpArgs false
set_option maxRecDepth 100000
set_option maxHeartbeats 16000000
structure Wrt where
 p:List Int
 lo:Int
 n:Nat
 r:Int
def Wrt.shift (m:Wrt):Wrt:=⟨m.p,m.lo*256,m.n+1,m.r*256⟩
def Wrt.fix:Nat->Wrt->Wrt
 | 0,m=>m
 | k+1,m=>if m.r<16777216 then Wrt.fix k m.shift else m
def Wrt.narrow (m:Wrt) (w:Int) (b:Bool):Wrt:=if b then Wrt.fix 2 ⟨m.p,m.lo+w,m.n,m.r-w⟩ else Wrt.fix 2 ⟨m.p,m.lo,m.n,w⟩
def kM (c:Nat) (b:Bool) (m:Wrt):Bool×Wrt:=(b,Wrt.narrow ⟨m.p.set c (eO (m.p.getD c 0) b),m.lo,m.n,m.r⟩ (m.r / 2048*m.p.getD c 0) b)
def mJ (b:Bool) (m:Wrt):Bool×Wrt:=(b,m.narrow (m.r / 2) b)
def wrC:kC Wrt:=⟨kM,mJ⟩
def fB:Wrt:=⟨List.replicate 64 1024,0,4,4294967295⟩
structure cd (m:Wrt):Prop where
 len:m.p.length=64
 ch:∀ x∈m.p,31<=x/\x<=2017
 lo0:0<=m.lo
 r0:16777216<=m.r
 r1:m.r<=4294967295
 n4:4<=m.n
 top:m.lo+m.r<=256 ^ m.n
structure iF (k:Nat) (m:Wrt):Prop where
 len:m.p.length=64
 ch:∀ x∈m.p,31<=x/\x<=2017
 lo0:0<=m.lo
 r0:16777216<=m.r*256 ^ k
 rp:1<=m.r
 r1:m.r<=4294967295
 n4:4<=m.n
 top:m.lo+m.r<=256 ^ m.n
def WIn (z m:Wrt):Prop:=m.n<=z.n/\m.lo*256 ^ (z.n-m.n)<=z.lo/\z.lo+z.r<=(m.lo+m.r)*256 ^ (z.n-m.n)
theorem nl (k:Nat):(0:Int)<256 ^ k:=Int.pow_pos Mn
theorem WIn.refl (m:Wrt):WIn m m:=⟨Lm _,by rw [Nat.sub_self];simp,by rw [Nat.sub_self];simp⟩
theorem WIn.trans {a b c:Wrt} (h:WIn a b) (g:WIn b c):WIn a c:=by
 obtain ⟨h1,h2,h3⟩:=h;obtain ⟨g1,g2,g3⟩:=g;have e:a.n-c.n=(b.n-c.n)+(a.n-b.n):=Mf;have hp:=nl (a.n-b.n);refine ⟨Mf,?_,?_⟩
 ·rw [e,Int.pow_add,<- Int.mul_assoc]
  exact Int.le_trans (Int.mul_le_mul_of_nonneg_right g2 (Int.le_of_lt hp)) h2
 ·rw [e,Int.pow_add,<- Int.mul_assoc]
  exact Int.le_trans h3 (Int.mul_le_mul_of_nonneg_right g3 (Int.le_of_lt hp))
theorem WIn.shift (m:Wrt):WIn m.shift m:=by
 have e:m.shift.n-m.n=1:=by show m.n+1-m.n=1;omega
 refine ⟨by show m.n<=m.n+1;omega,?_,?_⟩
 ·rw [e,Int.pow_one];show m.lo*256<=m.lo*256;omega
 ·rw [e,Int.pow_one];show m.lo*256+m.r*256<=(m.lo+m.r)*256;omega
theorem WIn.fix:∀ (k:Nat) (m:Wrt),WIn (Wrt.fix k m) m
 | 0,m=>WIn.refl m
 | k+1,m=>by
  unfold Wrt.fix
  split
  ·exact (WIn.fix k m.shift).trans (WIn.shift m)
  ·exact WIn.refl m
theorem iF.shift {k:Nat} {m:Wrt} (h:iF (k+1) m) (hr:m.r<16777216):iF k m.shift:=by
 obtain ⟨h1,h2,h3,h4,h5,h6,h7,h8⟩:=h;refine ⟨h1,h2,?_,?_,?_,?_,?_,?_⟩
 ·show 0<=m.lo*256;omega
 ·show 16777216<=m.r*256*256 ^ k
  rw [Int.pow_succ,Int.mul_comm (256 ^ k) 256,<- Int.mul_assoc] at h4;exact h4
 ·show 1<=m.r*256;omega
 ·show m.r*256<=_;omega
 ·show 4<=m.n+1;omega
 ·show m.lo*256+m.r*256<=256 ^ (m.n+1)
  rw [Int.pow_succ];omega
theorem iF.fix:∀ {k:Nat} {m:Wrt},iF k m->cd (Wrt.fix k m)/\(Wrt.fix k m).n<=m.n+k/\(Wrt.fix k m).p=m.p
 | 0,m,h=>⟨⟨h.len,h.ch,h.lo0,by have:=h.r0;rw [Int.pow_zero,Int.mul_one] at this;exact this,h.r1,h.n4,h.top⟩,Lm _,rfl⟩
 | k+1,m,h=>by
  unfold Wrt.fix
  split
  ·rename_i hr
   obtain ⟨a,b,c⟩:=(h.shift hr).fix;exact ⟨a,by have:m.shift.n=m.n+1:=rfl;omega,c⟩
  ·rename_i hr
   exact ⟨⟨h.len,h.ch,h.lo0,Mf,h.r1,h.n4,h.top⟩,Mf,rfl⟩
theorem cd.mid {m:Wrt} (h:cd m) {w:Int} (h1:8192<=w) (h2:w<=m.r-8192):iF 2 ⟨m.p,m.lo+w,m.n,m.r-w⟩/\iF 2 ⟨m.p,m.lo,m.n,w⟩/\WIn ⟨m.p,m.lo+w,m.n,m.r-w⟩ m/\WIn ⟨m.p,m.lo,m.n,w⟩ m:=by
 obtain ⟨a,b,c,d,e,f,g⟩:=h;refine ⟨⟨a,b,?_,?_,?_,?_,f,?_⟩,⟨a,b,c,?_,?_,?_,f,?_⟩,⟨Lm _,?_,?_⟩,⟨Lm _,?_,?_⟩⟩
 all_goals try simp only [Nat.sub_self,Int.pow_zero,Int.mul_one]
 all_goals first | omega | (show m.lo+w+(m.r-w)<=256 ^ m.n;omega) | (show m.lo+w<=256 ^ m.n;omega)
theorem cd.narrow {m:Wrt} (h:cd m) {w:Int} (h1:8192<=w) (h2:w<=m.r-8192) (b:Bool):cd (m.narrow w b)/\WIn (m.narrow w b) m/\(m.narrow w b).n<=m.n+2/\(m.narrow w b).p=m.p:=by
 obtain ⟨m1,m2,i1,i2⟩:=h.mid h1 h2;unfold Wrt.narrow;cases b with
 | true =>
  obtain ⟨x,y,z⟩:=m1.fix;exact ⟨x,(WIn.fix _ _).trans i1,y,z⟩
 | false =>
  obtain ⟨x,y,z⟩:=m2.fix;exact ⟨x,(WIn.fix _ _).trans i2,y,z⟩
theorem qG {m:Wrt} (h:cd m) {c:Nat} (hc:c<64):31<=m.p.getD c 0/\m.p.getD c 0<=2017:=h.ch _ (by
 have:=h.len;rw [Le,Lf Mf];exact LM _)
theorem cd.set {m:Wrt} (h:cd m) {c:Nat} (hc:c<64) (b:Bool):cd ⟨m.p.set c (eO (m.p.getD c 0) b),m.lo,m.n,m.r⟩:=by
 refine ⟨by show (m.p.set _ _).length=64;rw [LK];exact h.len,fun x hx=>?_,h.lo0,h.r0,h.r1,h.n4,h.top⟩;rcases List.mem_or_eq_of_mem_set hx with hx | rfl
 ·exact h.ch x hx
 ·exact FP _ (qG h hc)
theorem iW {m:Wrt} (h:cd m) {c:Nat} (hc:c<64) (b:Bool):cd (kM c b m).2/\WIn (kM c b m).2 m/\(kM c b m).2.n<=m.n+2:=by
 have hx:=qG h hc;obtain ⟨w1,w2⟩:=nE h.r0 h.r1 (p:=m.p.getD c 0) Mf Mf;obtain ⟨a,i,n,_⟩:=(h.set hc b).narrow w1 w2 b;exact ⟨a,i,n⟩
theorem iL {m:Wrt} (h:cd m) (b:Bool):cd (mJ b m).2/\WIn (mJ b m).2 m/\(mJ b m).2.n<=m.n+2:=by
 have:=h.r0;have:=h.r1;obtain ⟨a,i,n,_⟩:=h.narrow (w:=m.r / 2) Mf Mf b;exact ⟨a,i,n⟩
theorem iD:cd fB:=⟨by simp [fB],fun x hx=>by have:=(List.mem_replicate.1 hx).2;omega,Mn,Mn,Mn,Mn,Mn⟩
def kh (D:List Int):Nat->Int
 | 0=>0
 | k+1=>kh D k*256+D.getD k 0
structure pz (D:List Int) (z:Wrt):Prop where
 u8:∀ x∈D,InK .u8 x
 num:∀ k,k<=z.n->kh D k=z.lo / 256 ^ (z.n-k)
 r0:1<=z.r
structure fu (D:List Int) (m:Wrt) (d:Mod):Prop where
 p:d.p=m.p
 b:d.d.b=D
 pos:d.d.pos=m.n
 r:d.d.r=m.r
 off:d.d.off=kh D m.n-m.lo
theorem pz.at {D:List Int} {z m:Wrt} (h:pz D z) (i:WIn z m):m.lo<=kh D m.n/\kh D m.n<m.lo+m.r:=by
 have hp:=nl (z.n-m.n);rw [h.num m.n i.1];refine ⟨(Int.le_ediv_iff_mul_le hp).2 i.2.1,(Int.ediv_lt_iff_lt_mul hp).2 ?_⟩;have:=i.2.2;have:=h.r0;omega
theorem fu.shift {D:List Int} {z m:Wrt} {d:Rac} {p:List Int} (h:pz D z) (i:WIn z m.shift) (g:fu D m ⟨p,d⟩):fu D m.shift ⟨p,d.shift⟩:=by
 obtain ⟨g1,g2,g3,g4,g5⟩:=g;simp only at g1 g2 g3 g4 g5;have ha:=h.at i;have hn:kh D m.shift.n=kh D m.n*256+d.byte:=by
  show kh D (m.n+1)=_;unfold Rac.byte;rw [g2,g3]
  rfl
 rw [hn] at ha;have h1:m.shift.lo=m.lo*256:=rfl;have h2:m.shift.r=m.r*256:=rfl;rw [h1,h2] at ha;refine ⟨g1,g2,by show d.pos+1=m.n+1;omega,by show d.r*256=m.r*256;rw [g4],?_⟩;show min (d.off*256+d.byte) (d.r*256)=kh D m.shift.n-m.lo*256;rw [hn,g4,g5];omega
theorem fu.fix {D:List Int} {z:Wrt} (h:pz D z):∀ (k:Nat) {m:Wrt} {d:Rac} {p:List Int},WIn z (Wrt.fix k m)->fu D m ⟨p,d⟩->fu D (Wrt.fix k m) ⟨p,Rac.fix k d⟩
 | 0,m,d,p,i,g=>g
 | k+1,m,d,p,i,g=>by
  have hr:d.r=m.r:=g.r;unfold Wrt.fix at i |-
  unfold Rac.fix;rw [hr]
  split
  ·rename_i MO
   rw [if_pos MO] at i;exact fu.fix h k i (fu.shift h (i.trans (WIn.fix k _)) g)
  ·exact g
theorem fu.narrow {D:List Int} {z m:Wrt} {d:Mod} {w:Int} {b:Bool} (h:pz D z) (i:WIn z (m.narrow w b)) (g:fu D m d):(d.d.narrow w).1=b/\fu D (m.narrow w b) ⟨d.p,(d.d.narrow w).2⟩:=by
 obtain ⟨p,dd⟩:=d;obtain ⟨g1,g2,g3,g4,g5⟩:=g;simp only at g1 g2 g3 g4 g5;unfold Wrt.narrow at i |-
 cases b with
 | true =>
  rw [if_pos rfl] at i;have ha:=(h.at (i.trans (WIn.fix 2 _))).1;simp only at ha;have hw:w<=dd.off:=Mf;have e:Rac.narrow dd w=(true,Rac.fix 2 ⟨dd.b,dd.pos,dd.off-w,dd.r-w⟩):=if_pos hw;show (Rac.narrow dd w).1=true/\fu D (if true=true then _ else _) ⟨p,(Rac.narrow dd w).2⟩;rw [e,if_pos rfl];refine ⟨rfl,?_⟩;exact fu.fix h 2 i ⟨g1,g2,g3,by simp only;omega,by simp only;omega⟩
 | false =>
  rw [if_neg Mg] at i;have ha:=(h.at (i.trans (WIn.fix 2 _))).2;simp only at ha;have hw:¬ w<=dd.off:=Mf;have e:Rac.narrow dd w=(false,Rac.fix 2 ⟨dd.b,dd.pos,dd.off,w⟩):=if_neg hw;show (Rac.narrow dd w).1=false/\fu D (if false=true then _ else _) ⟨p,(Rac.narrow dd w).2⟩;rw [e,if_neg Mg];refine ⟨rfl,?_⟩;exact fu.fix h 2 i ⟨g1,g2,g3,rfl,by simp only;omega⟩
structure aU {α:Type} (x:α×Wrt) (m:Wrt) (g:Mod->α×Mod):Prop where
 ok:cd x.2
 inn:WIn x.2 m
 same:∀ {D:List Int} {z:Wrt} {d:Mod},pz D z->WIn z x.2->fu D m d->(g d).1=x.1/\fu D x.2 (g d).2
section
variable {α β:Type} {m:Wrt}
theorem aU.pure (h:cd m) (a:α):aU (a,m) m (fun d=>(a,d)):=⟨h,WIn.refl m,fun _ _ g=>⟨rfl,g⟩⟩
theorem aU.seq {x:α×Wrt} {g:Mod->α×Mod} {y:β×Wrt} {h:α->Mod->β×Mod} (H1:aU x m g) (H2:aU y x.2 (h x.1)):aU y m (fun d=>h (g d).1 (g d).2):=by
 refine ⟨H2.ok,H2.inn.trans H1.inn,fun t i r=>?_⟩;obtain ⟨a,b⟩:=H1.same t (i.trans H2.inn) r;rw [a];exact H2.same t i b
theorem aU.map {x:α×Wrt} {g:Mod->α×Mod} (H:aU x m g) (f:α->β):aU (f x.1,x.2) m (fun d=>(f (g d).1,(g d).2)) :=
 ⟨H.ok,H.inn,fun t i r=>by obtain ⟨a,b⟩:=H.same t i r;exact ⟨by rw [a],b⟩⟩
theorem aU.ite {b:Bool} {y1 y2:β×Wrt} {h1 h2:Mod->β×Mod} (H1:b=true->aU y1 m h1) (H2:b=false->aU y2 m h2):aU (if b then y1 else y2) m (fun d=>if b then h1 d else h2 d):=by
 cases b with
 | true=>exact H1 rfl
 | false=>exact H2 rfl
theorem gZ (h:cd m) {c:Nat} (hc:c<64) (b:Bool):aU (kM c b m) m (dF c):=by
 obtain ⟨a,i,_⟩:=iW h hc b;refine ⟨a,i,fun {D z d} t j r=>?_⟩;have r':fu D ⟨m.p.set c (eO (m.p.getD c 0) b),m.lo,m.n,m.r⟩ ⟨m.p.set c (eO (m.p.getD c 0) b),d.d⟩:=⟨rfl,r.b,r.pos,r.r,r.off⟩
 obtain ⟨x,y⟩:=fu.narrow (m:=⟨m.p.set c (eO (m.p.getD c 0) b),m.lo,m.n,m.r⟩) (w:=m.r / 2048*m.p.getD c 0) (b:=b) t j r';simp only at x y;unfold dF;rw [r.p,r.r,x];exact ⟨rfl,y⟩
theorem jK (h:cd m) (b:Bool):aU (mJ b m) m fM:=by
 obtain ⟨a,i,_⟩:=iL h b;refine ⟨a,i,fun {D z d} t j r=>?_⟩;obtain ⟨x,y⟩:=fu.narrow (w:=m.r / 2) (b:=b) t j r;unfold fM;rw [r.r];exact ⟨x,y⟩
end
section
variable {m:Wrt}
theorem lX {f:Nat->Nat} (hf:∀ i,f i<64) (v v':Int):∀ (k n:Nat) {m:Wrt},cd m->aU (aW wrC f v k n m) m (aW rdC f v' k n)
 | 0,n,m,h=>aU.pure h n
 | k+1,n,m,h=>by
  have B:=gZ h (hf n) (decide ((n:Int)<v));refine aU.seq B (h:=fun b d=>if b then aW rdC f v' k (n+1) d else (n,d)) ?_;exact aU.ite (fun _=>lX hf v v' k (n+1) B.ok) (fun _=>aU.pure B.ok n)
theorem rZ (u u':Int):∀ (k n:Nat) {m:Wrt},cd m->aU (bF wrC u k n m) m (bF rdC u' k n)
 | 0,n,m,h=>aU.pure h n
 | k+1,n,m,h=>by
  have B:=jK h (decide ((2:Int) ^ (n+1)<=u));refine aU.seq B (h:=fun b d=>if b then bF rdC u' k (n+1) d else (n,d)) ?_;exact aU.ite (fun _=>rZ u u' k (n+1) B.ok) (fun _=>aU.pure B.ok n)
theorem ur (u u':Int):∀ (k n:Nat) {m:Wrt},cd m->aU (ck wrC u k n m) m (ck rdC u' k n)
 | 0,n,m,h=>aU.pure h n
 | k+1,n,m,h=>by
  have B:=jK h (decide (u / (2:Int) ^ k % 2=1));exact aU.seq B (h:=fun b d=>ck rdC u' k (if b then 2*n+1 else 2*n) d) (ur u u' k _ B.ok)
theorem Az (u u':Int) (h:cd m):aU (cw wrC u m) m (cw rdC u'):=by
 have A:=rZ u u' 13 0 h;exact aU.seq A (h:=fun z d=>ck rdC u' z 1 d) (ur u u' _ 1 A.ok)
theorem Ea {base:Nat} (hb:base<=39) (v v':Int) (h:cd m):aU (cY wrC base v m) m (cY rdC base v'):=by
 have A:=lX (f:=fun n=>base+17+min n 7) (fun i=>Mf) v v' 14 0 h;refine aU.seq A (h:=fun z d=>if z=14 then (13+(cw rdC (v'-13) d).1,(cw rdC (v'-13) d).2) else (z,d)) ?_;unfold cY
 split
 ·exact (Az (v-13) (v'-13) A.ok).map (fun z=>13+z)
 ·exact aU.pure A.ok _
theorem AC {base:Nat} (hb:base<=39) (v v':Int) (h:cd m):aU (aV wrC base v m) m (aV rdC base v'):=by
 have A:=jK h (decide (v<0));exact aU.seq A (h:=fun s d=>(dG s (cY rdC base (max v' (-v')-1) d).1,(cY rdC base (max v' (-v')-1) d).2)) ((Ea hb _ _ A.ok).map (dG _))
theorem uu (v v':Int) (h:cd m):aU (bN wrC v m) m (bN rdC v'):=by
 have A:=gZ h (c:=3) Mf (decide (1<min (max v 0) 3));refine aU.seq A (h:=fun b d=>if b then (if (dF 5 d).1 then 3 else 2,(dF 5 d).2) else (if (dF 4 d).1 then 1 else 0,(dF 4 d).2)) ?_;unfold bN kg;exact aU.ite (fun _=>(gZ A.ok (c:=5) Mf _).map (fun b:Bool=>if b then 3 else 2)) (fun _=>(gZ A.ok (c:=4) Mf _).map (fun b:Bool=>if b then 1 else 0))
theorem uv (v v':Int) (h:cd m):aU (bR wrC v m) m (bR rdC v'):=by
 unfold bR;generalize min (max v (-15)) 15=u;generalize min (max v' (-15)) 15=u';have A:=gZ h (c:=6) Mf (decide (u≠0));refine aU.seq A (h:=fun b d=>if b then fZ rdC u' (fM d).1 (fM d).2 else (0,d)) ?_;unfold fY;refine aU.ite (fun _=>?_) (fun _=>aU.pure A.ok _);have B:=jK A.ok (decide (u<0));exact aU.seq B (h:=fun s d=>fZ rdC u' s d) ((lX (f:=fun n=>7+min n 6) (fun i=>Mf) _ _ 14 0 B.ok).map (dG _))
def dC {σ:Type} (C:kC σ) (base last:Nat) (l:List Int) (a:Nat) (rest:List Nat) (i:Nat) (out:List Int) (br:Bool) (x:Int) (s:σ):Except Err (List Int)×σ :=
 if x < -16320\/16320<x then (.error ⟨[(jJ,(i:Int))],3⟩,s)
 else if br then (if (C.bit (base+9+min i 7) (bO l rest) s).1 then (.ok (out.set a x),(C.bit (base+9+min i 7) (bO l rest) s).2) else aF C base last l rest (i+1) (out.set a x) (C.bit (base+9+min i 7) (bO l rest) s).2)
 else aF C base last l rest (i+1) (out.set a x) s
theorem gF {σ:Type} (C:kC σ) (base last:Nat) (l:List Int) (a:Nat) (rest:List Nat) (i:Nat) (out:List Int) (s:σ):aF C base last l (a :: rest) i out s =
  if i<last then (if (C.bit (base+1+min i 7) (decide (l.getD a 0≠0)) s).1 then dC C base last l a rest i out true (aV C base (l.getD a 0) (C.bit (base+1+min i 7) (decide (l.getD a 0≠0)) s).2).1 (aV C base (l.getD a 0) (C.bit (base+1+min i 7) (decide (l.getD a 0≠0)) s).2).2
   else aF C base last l rest (i+1) out (C.bit (base+1+min i 7) (decide (l.getD a 0≠0)) s).2)
  else dC C base last l a rest i out false (aV C base (l.getD a 0) s).1 (aV C base (l.getD a 0) s).2:=by
 rw [aF];unfold dC;simp only [if_true,Bool.false_eq_true,if_false]
theorem je {base last:Nat} (hb:base<=39) (l l':List Int):∀ (o:List Nat) (i:Nat) (out:List Int) {m:Wrt},cd m->aU (aF wrC base last l o i out m) m (aF rdC base last l' o i out)
 | [],i,out,m,h=>aU.pure h _
 | a :: rest,i,out,m,h=>by
  have fin:∀ {m:Wrt},cd m->∀ (br:Bool) (x:Int),aU (dC wrC base last l a rest i out br x m) m (dC rdC base last l' a rest i out br x):=by
   intro m h br x;unfold dC;by_cases hx:x < -16320\/16320<x
   ·simp only [if_pos hx]
    exact aU.pure h _
   ·simp only [if_neg hx]
    refine aU.ite (fun _=>?_) (fun _=>je hb l l' rest (i+1) _ h);have B:=gZ h (c:=base+9+min i 7) Mf (bO l rest);refine aU.seq B (h:=fun b d=>if b then (.ok (out.set a x),d) else aF rdC base last l' rest (i+1) (out.set a x) d) ?_;exact aU.ite (fun _=>aU.pure B.ok _) (fun _=>je hb l l' rest (i+1) _ B.ok)
  have lev:∀ {m:Wrt},cd m->∀ (br:Bool),aU (dC wrC base last l a rest i out br (aV wrC base (l.getD a 0) m).1 (aV wrC base (l.getD a 0) m).2) m (fun d=>dC rdC base last l' a rest i out br (aV rdC base (l'.getD a 0) d).1 (aV rdC base (l'.getD a 0) d).2):=by
   intro m h br;have L:=AC hb (l.getD a 0) (l'.getD a 0) h;exact aU.seq L (h:=fun x d=>dC rdC base last l' a rest i out br x d) (fin L.ok br _)
  by_cases hi:i<last
  ·have e1:aF wrC base last l (a :: rest) i out m=(if (kM (base+1+min i 7) (decide (l.getD a 0≠0)) m).1 then dC wrC base last l a rest i out true (aV wrC base (l.getD a 0) (kM (base+1+min i 7) (decide (l.getD a 0≠0)) m).2).1 (aV wrC base (l.getD a 0) (kM (base+1+min i 7) (decide (l.getD a 0≠0)) m).2).2 else aF wrC base last l rest (i+1) out (kM (base+1+min i 7) (decide (l.getD a 0≠0)) m).2):=by
    rw [gF,if_pos hi];rfl
   have e2:aF rdC base last l' (a :: rest) i out=fun d=>if (dF (base+1+min i 7) d).1 then dC rdC base last l' a rest i out true (aV rdC base (l'.getD a 0) (dF (base+1+min i 7) d).2).1 (aV rdC base (l'.getD a 0) (dF (base+1+min i 7) d).2).2 else aF rdC base last l' rest (i+1) out (dF (base+1+min i 7) d).2:=funext fun d=>by
    rw [gF,if_pos hi];rfl
   rw [e1,e2];have A:=gZ h (c:=base+1+min i 7) Mf (decide (l.getD a 0≠0));refine aU.seq A (h:=fun b d=>if b then dC rdC base last l' a rest i out true (aV rdC base (l'.getD a 0) d).1 (aV rdC base (l'.getD a 0) d).2 else aF rdC base last l' rest (i+1) out d) ?_;exact aU.ite (fun _=>lev A.ok true) (fun _=>je hb l l' rest (i+1) _ A.ok)
  ·have e1:aF wrC base last l (a :: rest) i out m=dC wrC base last l a rest i out false (aV wrC base (l.getD a 0) m).1 (aV wrC base (l.getD a 0) m).2:=by rw [gF,if_neg hi]
   have e2:aF rdC base last l' (a :: rest) i out=fun d=>dC rdC base last l' a rest i out false (aV rdC base (l'.getD a 0) d).1 (aV rdC base (l'.getD a 0) d).2:=funext fun d=>by rw [gF,if_neg hi]
   rw [e1,e2];exact lev h false
theorem pk {side:Nat} (l l':List Int) (h:cd m):aU (aT wrC side l m) m (aT rdC side l'):=by
 have hb:iH side<=39:=by unfold iH;split <;> omega
 have A:=gZ h (c:=iH side) Mf (!cB l);refine aU.seq A (h:=fun b d=>if b then aF rdC (iH side) (side*side-1) l' (aC side) 0 (List.replicate (side*side) 0) d else (.ok (List.replicate (side*side) 0),d)) ?_;unfold aT;exact aU.ite (fun _=>je hb l l' _ _ _ A.ok) (fun _=>aU.pure A.ok _)
theorem li {σ:Type} (C:kC σ) (qm:List Int) (ql:List (List Int)) (k:Nat) (ms:List Int) (ls:List (List Int)) (s:σ):bn C qm ql (k+1) ms ls s=match (aT C 4 (ql.getD ls.length []) (bN C (qm.getD ms.length 0) s).2).1 with
  | .error e=>(Except.error e,(aT C 4 (ql.getD ls.length []) (bN C (qm.getD ms.length 0) s).2).2)
  | .ok l=>bn C qm ql k (ms ++ [((bN C (qm.getD ms.length 0) s).1:Int)]) (ls ++ [l]) (aT C 4 (ql.getD ls.length []) (bN C (qm.getD ms.length 0) s).2).2:=rfl
theorem se (qm qm':List Int) (ql ql':List (List Int)):∀ (k:Nat) (ms:List Int) (ls:List (List Int)) {m:Wrt},cd m->aU (bn wrC qm ql k ms ls m) m (bn rdC qm' ql' k ms ls)
 | 0,ms,ls,m,h=>aU.pure h _
 | k+1,ms,ls,m,h=>by
  have A:=uu (qm.getD ms.length 0) (qm'.getD ms.length 0) h;refine aU.seq A (h:=fun (mo:Nat) d=>match (aT rdC 4 (ql'.getD ls.length []) d).1 with
   | .error e=>(Except.error e,(aT rdC 4 (ql'.getD ls.length []) d).2)
   | .ok l=>bn rdC qm' ql' k (ms ++ [(mo:Int)]) (ls ++ [l]) (aT rdC 4 (ql'.getD ls.length []) d).2) ?_
  rw [li];generalize bN wrC (qm.getD ms.length 0) m=M at *
  have B:=pk (side:=4) (ql.getD ls.length []) (ql'.getD ls.length []) A.ok;refine aU.seq B (h:=fun r d=>match r with
   | .error e=>(Except.error e,d)
   | .ok l=>bn rdC qm' ql' k (ms ++ [(M.1:Int)]) (ls ++ [l]) d) ?_
  generalize aT wrC 4 (ql.getD ls.length []) M.2=K at *
  obtain ⟨kr,k2⟩:=K;cases kr with
  | error e=>exact aU.pure B.ok _
  | ok l=>exact se qm qm' ql ql' k _ _ B.ok
theorem AA (key:Bool) (k k':Int) (h:cd m):aU (bK wrC key k m) m (bK rdC key k'):=by
 unfold bK;cases key with
 | true=>exact (jK h (decide (k=3))).map (fun b:Bool=>if b then 3 else 2)
 | false=>exact lX (f:=fun n=>min n 63) (fun i=>Mf) _ _ 3 0 h
theorem AD (q q':pZ) (k:Nat) (h:cd m):aU (cf wrC q k m) m (cf rdC q' k):=by
 unfold cf;by_cases h3:k=3
 ·simp only [if_pos h3]
  have A:=se q.modes q'.modes q.small q'.small 4 [] [] h;refine aU.seq A (h:=fun r d=>match r with
   | .error e=>(Except.error e,d)
   | .ok x=>(Except.ok (⟨3,0,x.1,0,0,[],x.2⟩:SqD),d)) ?_
  generalize bn wrC q.modes q.small 4 [] [] m=K at *
  obtain ⟨kr,k2⟩:=K;cases kr <;> exact aU.pure A.ok _
 simp only [if_neg h3];by_cases h0:k=0
 ·simp only [if_pos h0]
  exact aU.pure h _
 simp only [if_neg h0];by_cases h1:k=1
 ·simp only [if_pos h1]
  have A:=uv q.vx q'.vx h;refine aU.seq A (h:=fun vx d=>match (aT rdC 8 q'.large (bR rdC q'.vy d).2).1 with
   | .error e=>(Except.error e,(aT rdC 8 q'.large (bR rdC q'.vy d).2).2)
   | .ok l=>(Except.ok (⟨1,0,[0,0,0,0],vx,(bR rdC q'.vy d).1,l,[[],[],[],[]]⟩:SqD),(aT rdC 8 q'.large (bR rdC q'.vy d).2).2)) ?_
  generalize bR wrC q.vx m=X at *
  have B:=uv q.vy q'.vy A.ok;refine aU.seq B (h:=fun vy d=>match (aT rdC 8 q'.large d).1 with
   | .error e=>(Except.error e,(aT rdC 8 q'.large d).2)
   | .ok l=>(Except.ok (⟨1,0,[0,0,0,0],X.1,vy,l,[[],[],[],[]]⟩:SqD),(aT rdC 8 q'.large d).2)) ?_
  generalize bR wrC q.vy X.2=Y at *
  have L:=pk (side:=8) q.large q'.large B.ok;refine aU.seq L (h:=fun r d=>match r with
   | .error e=>(Except.error e,d)
   | .ok l=>(Except.ok (⟨1,0,[0,0,0,0],X.1,Y.1,l,[[],[],[],[]]⟩:SqD),d)) ?_
  generalize aT wrC 8 q.large Y.2=K at *
  obtain ⟨kr,k2⟩:=K;cases kr <;> exact aU.pure L.ok _
 simp only [if_neg h1];have A:=uu q.mode q'.mode h;refine aU.seq A (h:=fun (mo:Nat) d=>match (aT rdC 8 q'.large d).1 with
  | .error e=>(Except.error e,(aT rdC 8 q'.large d).2)
  | .ok l=>(Except.ok (⟨2,mo,[0,0,0,0],0,0,l,[[],[],[],[]]⟩:SqD),(aT rdC 8 q'.large d).2)) ?_
 generalize bN wrC q.mode m=M at *
 have L:=pk (side:=8) q.large q'.large A.ok;refine aU.seq L (h:=fun r d=>match r with
  | .error e=>(Except.error e,d)
  | .ok l=>(Except.ok (⟨2,M.1,[0,0,0,0],0,0,l,[[],[],[],[]]⟩:SqD),d)) ?_
 generalize aT wrC 8 q.large M.2=K at *
 obtain ⟨kr,k2⟩:=K;cases kr <;> exact aU.pure L.ok _
theorem yx (key:Bool) (q:pZ) (h:cd m):aU (di wrC key q m) m (ko key):=by
 have JkP:aU (di wrC key q m) m (di rdC key q):=by
  have A:=AA key q.kind q.kind h;refine aU.seq A (h:=fun (k:Nat) d=>match (cf rdC q k d).1 with
   | .error e=>(Except.error (inD lW k e),(cf rdC q k d).2)
   | .ok s=>(Except.ok s,(cf rdC q k d).2)) ?_
  unfold di;generalize bK wrC key q.kind m=K at *
  have B:=AD q q K.1 A.ok;refine aU.seq B (h:=fun r d=>match r with
   | .error e=>(Except.error (inD lW K.1 e),d)
   | .ok s=>(Except.ok s,d)) ?_
  generalize cf wrC q K.1 K.2=P at *
  obtain ⟨kr,k2⟩:=P;cases kr <;> exact aU.pure B.ok _
 refine ⟨JkP.ok,JkP.inn,fun {D z d} t i r=>?_⟩;have:=JkP.same t i r;rw [AK] at this;exact this
end
theorem iI (c:Nat) (b:Bool) (m:Wrt):(wrC.bit c b m).1=b:=rfl
theorem lA (b:Bool) (m:Wrt):(wrC.flat b m).1=b:=rfl
theorem og {f:Nat->Nat} {v:Int}:∀ (k n:Nat) (m:Wrt),(n:Int)<=v->v<=n+k->((aW wrC f v k n m).1:Int)=v
 | 0,n,m,h1,h2=>by show (n:Int)=v;omega
 | k+1,n,m,h1,h2=>by
  unfold aW;rw [iI];by_cases h:(n:Int)<v
  ·rw [if_pos Ms]
   exact og k (n+1) _ Mf Mf
  ·rw [if_neg Ms]
   show (n:Int)=v;omega
theorem xL {f:Nat->Nat} {v:Int}:∀ (k n:Nat) (m:Wrt),(n:Int)+k<=v->(aW wrC f v k n m).1=n+k
 | 0,n,m,h=>rfl
 | k+1,n,m,h=>by
  unfold aW;rw [iI,if_pos Mq,xL k (n+1) _ Mf];omega
theorem tF {u:Int}:∀ (k n:Nat) (m:Wrt),(2:Int) ^ n<=u->u<2 ^ (n+k+1)->(2:Int) ^ (bF wrC u k n m).1<=u/\u<2 ^ ((bF wrC u k n m).1+1)
 | 0,n,m,h1,h2=>⟨h1,h2⟩
 | k+1,n,m,h1,h2=>by
  unfold bF;rw [lA];by_cases h:(2:Int) ^ (n+1)<=u
  ·rw [if_pos Ms]
   exact tF k (n+1) _ h (by rw [show n+1+k+1=n+(k+1)+1 by omega];exact h2)
  ·rw [if_neg Ms]
   exact ⟨h1,Int.not_le.1 h⟩
theorem wd {u:Int} (hu:0<=u):∀ (k n:Nat) (m:Wrt),(n:Int)=u / 2 ^ k->((ck wrC u k n m).1:Int)=u
 | 0,n,m,h=>by show (n:Int)=u;rw [h];simp
 | k+1,n,m,h=>by
  unfold ck;rw [lA];refine wd hu k _ _ ?_;have hp:(2:Int) ^ (k+1)=2 ^ k*2:=Int.pow_succ 2 k;rw [hp,<- Int.ediv_ediv_of_nonneg (Int.le_of_lt (Int.pow_pos Mn))] at h;generalize u / 2 ^ k=q at *
  by_cases hb:q % 2=1
  ·rw [if_pos (by simpa using hb)];omega
  ·rw [if_neg (by simpa using hb)];omega
theorem Dm {u:Int} (h1:1<=u) (h2:u<16384) (m:Wrt):((cw wrC u m).1:Int)=u:=by
 obtain ⟨a,b⟩:=tF (u:=u) 13 0 m (by simpa using h1) (by simpa using h2);unfold cw;generalize bF wrC u 13 0 m=F at *
 refine wd Mf _ _ _ ?_;rw [Int.pow_succ] at b;have hp:(0:Int)<2 ^ F.1:=Int.pow_pos Mn;generalize (2:Int) ^ F.1=P at *
 have e1:1<=u / P:=(Int.le_ediv_iff_mul_le hp).2 Mf;have e2:u / P<2:=(Int.ediv_lt_iff_lt_mul hp).2 Mf;show (1:Int)=u / P;omega
theorem IC {base:Nat} {v:Int} (h1:0<=v) (h2:v<=16320) (m:Wrt):((cY wrC base v m).1:Int)=v:=by
 unfold cY;by_cases h:v<14
 ·have e:=og (f:=fun n=>base+17+min n 7) (v:=v) 14 0 m Mf Mf
  rw [if_neg Mf];exact e
 ·have e:=xL (f:=fun n=>base+17+min n 7) (v:=v) 14 0 m Mf
  rw [if_pos Mf];have g:=Dm (u:=v-13) Mf Mf (aW wrC (fun n=>base+17+min n 7) v 14 0 m).2;show ((13+(cw wrC (v-13) _).1:Nat):Int)=v;omega
theorem tU {base:Nat} {v:Int} (h0:v≠0) (h1:-16320<=v) (h2:v<=16320) (m:Wrt):(aV wrC base v m).1=v:=by
 unfold aV;have e:=IC (base:=base) (v:=max v (-v)-1) Mf Mf (wrC.flat (decide (v<0)) m).2;rw [lA];show dG (decide (v<0)) (cY wrC base (max v (-v)-1) (wrC.flat (decide (v<0)) m).2).1=v;generalize cY wrC base (max v (-v)-1) (wrC.flat (decide (v<0)) m).2=S at *
 unfold dG;by_cases h:v<0
 ·rw [if_pos Ms];omega
 ·rw [if_neg Ms];omega
theorem nZ {v:Int} (h1:0<=v) (h2:v<=3) (m:Wrt):((bN wrC v m).1:Int)=v:=by
 unfold bN kg;rw [show min (max v 0) 3=v by omega,iI];by_cases h:1<v
 ·rw [if_pos Ms]
  show ((if decide (v % 2=1)=true then 3 else 2:Nat):Int)=v;by_cases hv:v % 2=1
  ·rw [if_pos MH];omega
  ·rw [if_neg MH];omega
 ·rw [if_neg Ms]
  show ((if decide (v % 2=1)=true then 1 else 0:Nat):Int)=v;by_cases hv:v % 2=1
  ·rw [if_pos MH];omega
  ·rw [if_neg MH];omega
theorem xO {v:Int} (h1:-15<=v) (h2:v<=15) (m:Wrt):(bR wrC v m).1=v:=by
 unfold bR fY;rw [show min (max v (-15)) 15=v by omega,iI];by_cases h:v=0
 ·rw [if_neg Ms];exact h.symm
 ·rw [if_pos Ms]
  unfold fZ;have e:=og (f:=fun n=>7+min n 6) (v:=max v (-v)-1) 14 0 (wrC.flat (decide (v<0)) (wrC.bit 6 (decide (v≠0)) m).2).2 Mf Mf;rw [lA];show dG (decide (v<0)) (aW wrC (fun n=>7+min n 6) (max v (-v)-1) 14 0 (wrC.flat (decide (v<0)) (wrC.bit 6 (decide (v≠0)) m).2).2).1=v;generalize aW wrC (fun n=>7+min n 6) (max v (-v)-1) 14 0 (wrC.flat (decide (v<0)) (wrC.bit 6 (decide (v≠0)) m).2).2=S at *
  unfold dG;by_cases hn:v<0
  ·rw [if_pos (by simpa using hn)];omega
  ·rw [if_neg (by simpa using hn)];omega
theorem lG {key:Bool} {k:Int} (h1:0<=k) (h2:k<=3) (hk:key=true->2<=k) (m:Wrt):((bK wrC key k m).1:Int)=k:=by
 unfold bK;cases key with
 | true =>
  rw [if_pos rfl];show ((if decide (k=3)=true then 3 else 2:Nat):Int)=k;have:=hk rfl;by_cases h:k=3
  ·rw [if_pos Ms];omega
  ·rw [if_neg Ms];omega
 | false =>
  rw [if_neg Mg];exact og (f:=fun n=>min n 63) 3 0 m Mf Mf
structure uL (l:List Int) (rest:List Nat) (out:List Int):Prop where
 len:out.length=l.length
 at_:∀ j,j<l.length->out.getD j 0=if j∈rest then 0 else l.getD j 0
theorem sM {l:List Int} {a:Nat} {x:Int} (h:a<l.length):(l.set a x).getD a 0=x:=by
 rw [Le,LZ h];rfl
theorem qZ {l:List Int} {a j:Nat} {x:Int} (h:j≠a):(l.set a x).getD j 0=l.getD j 0:=by
 rw [Le,LY (Ne.symm h),<- Le]
theorem uL.next {l out:List Int} {a:Nat} {rest:List Nat} (h:uL l (a :: rest) out) (ha:a<l.length) (hn:a∉rest):uL l rest (out.set a (l.getD a 0)):=by
 refine ⟨by rw [LK];exact h.len,fun j hj=>?_⟩;by_cases e:j=a
 ·subst e
  rw [sM (by rw [h.len];exact hj),if_neg hn]
 ·rw [qZ e,h.at_ j hj]
  by_cases hr:j∈rest
  ·rw [if_pos (Lx _ hr),if_pos hr]
  ·rw [if_neg (fun hm=>(List.mem_cons.1 hm).elim e hr),if_neg hr]
theorem uL.skip {l out:List Int} {a:Nat} {rest:List Nat} (h:uL l (a :: rest) out) (h0:l.getD a 0=0):uL l rest out:=by
 refine ⟨h.len,fun j hj=>?_⟩;rw [h.at_ j hj];by_cases hr:j∈rest
 ·rw [if_pos (Lx _ hr),if_pos hr]
 ·rw [if_neg hr]
  by_cases e:j=a
  ·subst e;rw [if_pos (List.mem_cons_self ..),h0]
  ·rw [if_neg (fun hm=>(List.mem_cons.1 hm).elim e hr)]
theorem uL.done {l out:List Int} {rest:List Nat} (h:uL l rest out) (hz:bO l rest=true):out=l:=by
 refine List.ext_getElem h.len (fun j h1 h2=>?_);have e:=h.at_ j h2;rw [Le,Lf h1,Le,Lf h2] at e;simp only [Option.getD_some] at e;by_cases hr:j∈rest
 ·rw [if_pos hr] at e
  unfold bO at hz;rw [List.all_eq_true] at hz;have:=hz j hr;rw [Le,Lf h2] at this;simp only [Option.getD_some,beq_iff_eq] at this;rw [e,this]
 ·rw [if_neg hr] at e;exact e
theorem mU {base last:Nat} {l:List Int} (hl:cu l):∀ (o:List Nat) (i:Nat) (out:List Int) (m:Wrt),(∀ a∈o,a<l.length)->o.Nodup->i+o.length=last+1->bO l o=false->uL l o out ->
  (aF wrC base last l o i out m).1=.ok l
 | [],i,out,m,ho,hn,hi,hz,ht=>by simp [bO] at hz
 | a :: rest,i,out,m,ho,hn,hi,hz,ht=>by
  have ha:=ho a (List.mem_cons_self ..);have hn':=List.nodup_cons.1 hn;have ho':∀ b∈rest,b<l.length:=fun b hb=>ho b (Lx _ hb)
  have Nj:-16320<=l.getD a 0/\l.getD a 0<=16320:=hl _ (by rw [Le,Lf ha];exact LM _);have hz':bO l (a :: rest)=(l.getD a 0 == 0 && bO l rest):=rfl;rw [hz'] at hz;rw [Lr] at hi;rw [gF];by_cases hil:i<last
  ·rw [if_pos hil,iI]
   by_cases h0:l.getD a 0=0
   ·rw [if_neg (by simpa using h0)]
    rw [h0] at hz;simp only [beq_self_eq_true,Bool.true_and] at hz;exact mU hl rest (i+1) out _ ho' hn'.2 Mf hz (ht.skip h0)
   ·rw [if_pos (by simpa using h0),tU h0 Nj.1 Nj.2]
    unfold dC;rw [if_neg Mf,if_pos rfl,iI];cases hr:bO l rest with
    | true =>
     rw [if_pos rfl];show Except.ok (out.set a (l.getD a 0))=.ok l;rw [(ht.next ha hn'.1).done hr]
    | false =>
     rw [if_neg Mg];exact mU hl rest (i+1) _ _ ho' hn'.2 Mf hr (ht.next ha hn'.1)
  ·have hr:rest=[]:=List.eq_nil_of_length_eq_zero Mf
   subst hr;have h0:l.getD a 0≠0:=by intro e;rw [e] at hz;simp [bO] at hz
   rw [if_neg hil,tU h0 Nj.1 Nj.2];unfold dC;rw [if_neg Mf,if_neg Mg];show Except.ok (out.set a (l.getD a 0))=.ok l;rw [(ht.next ha hn'.1).done rfl]
theorem IP {l:List Int} (h:cB l=false) {o:List Nat} (ho:∀ j,j<l.length->j∈o):bO l o=false:=by
 cases hz:bO l o with
 | false=>rfl
 | true =>
  exfalso;unfold cB at h;rw [List.all_eq_false] at h;obtain ⟨x,hx,OT⟩:=h;obtain ⟨j,hj,rfl⟩:=List.mem_iff_getElem.1 hx;unfold bO at hz;rw [List.all_eq_true] at hz;have:=hz j (ho j hj);rw [Le,Lf hj] at this;exact OT this
theorem IQ {l:List Int} (h:cB l=true):l=List.replicate l.length 0:=by
 unfold cB at h;rw [List.all_eq_true] at h;exact List.eq_replicate_iff.2 ⟨rfl,fun x hx=>by simpa using h x hx⟩
theorem rI:(aC 4).Nodup/\∀ j,j<16->j∈aC 4:=by rw [iQ];decide
theorem rJ:(aC 8).Nodup/\∀ j,j<64->j∈aC 8:=by rw [iR];decide
theorem iK {side:Nat} (hs:side=4\/side=8) {l:List Int} (MR:l.length=side*side) (hl:cu l) (m:Wrt):(aT wrC side l m).1=.ok l:=by
 have Qs:(aC side).Nodup/\(∀ j,j<side*side->j∈aC side)/\(∀ j∈aC side,j<side*side)/\(aC side).length=side*side:=by
  rcases hs with rfl | rfl
  ·exact ⟨rI.1,rI.2,nh,fN⟩
  ·exact ⟨rJ.1,rJ.2,ni,fO⟩
 unfold aT;rw [iI];cases hz:cB l with
 | true =>
  rw [if_neg Mg];show Except.ok (List.replicate (side*side) 0)=.ok l;rw [<- MR,<- IQ hz]
 | false =>
  simp only [Bool.not_false,if_true];have JdX:0<side*side:=by rcases hs with rfl | rfl <;> decide
  refine mU hl (aC side) 0 _ _ (fun a ha=>by rw [MR];exact Qs.2.2.1 a ha) Qs.1 (by rw [Qs.2.2.2];omega) (IP hz (fun j hj=>Qs.2.1 j Mf)) ⟨by simp [MR],fun j hj=>?_⟩;rw [if_pos (Qs.2.1 j Mf),Le,List.getElem?_replicate]
  split <;> rfl
def df (s:SqD):pZ:=⟨s.kind,s.mode,s.modes,s.vx,s.vy,s.large,s.small⟩
def kV (s:SqD):SqD :=
 if s.kind=3 then ⟨3,0,s.modes,0,0,[],s.small⟩ else if s.kind=0 then sq0 else if s.kind=1 then ⟨1,0,[0,0,0,0],s.vx,s.vy,s.large,[[],[],[],[]]⟩ else ⟨2,s.mode,[0,0,0,0],0,0,s.large,[[],[],[],[]]⟩
structure gC (key:Bool) (s:SqD):Prop where
 kind:s.kind<=3
 key_:key=true->2<=s.kind
 mode:s.kind=2->s.mode<=3
 large:s.kind=1\/s.kind=2->s.large.length=64/\cu s.large
 vec:s.kind=1->-15<=s.vx/\s.vx<=15/\-15<=s.vy/\s.vy<=15
 small:s.kind=3->s.modes.length=4/\s.small.length=4/\(∀ x∈s.modes,0<=x/\x<=3)/\∀ l∈s.small,l.length=16/\cu l
theorem Ir {p:Prop} (h:p:=by
 rw [show 4-k=4-(k+1)+1 by omega,List.take_succ_eq_append_getElem Mf,Le,Lf Mf];rfl):p:=h
theorem ux {qm:List Int} {ql:List (List Int)} (hm:qm.length=4) (hl:ql.length=4) (QU:∀ x∈qm,0<=x/\x<=3) (PQ:∀ l∈ql,l.length=16/\cu l):∀ (k:Nat) (m:Wrt),k<=4 ->
  (bn wrC qm ql k (qm.take (4-k)) (ql.take (4-k)) m).1=.ok (qm,ql)
 | 0,m,hk=>by
  show Except.ok (qm.take 4,ql.take 4)=.ok (qm,ql);rw [List.take_of_length_le Mf,List.take_of_length_le Mf]
 | k+1,m,hk=>by
  have hj:4-(k+1)<4:=Mf;have e1:(qm.take (4-(k+1))).length=4-(k+1):=Mw;have e2:(ql.take (4-(k+1))).length=4-(k+1):=Mw;rw [li,e1,e2];have g1:qm.getD (4-(k+1)) 0∈qm:=by rw [Le,Lf Mf];exact LM _
  have g2:ql.getD (4-(k+1)) []∈ql:=by rw [Le,Lf Mf];exact LM _
  have hmv:=nZ (QU _ g1).1 (QU _ g1).2 m;generalize bN wrC (qm.getD (4-(k+1)) 0) m=M at *
  have hcv:=iK (side:=4) (.inl rfl) (PQ _ g2).1 (PQ _ g2).2 M.2;generalize aT wrC 4 (ql.getD (4-(k+1)) []) M.2=K at *
  rw [hcv,hmv];have t1:qm.take (4-(k+1)) ++ [qm.getD (4-(k+1)) 0]=qm.take (4-k):=by
   exact Ir
  have t2:ql.take (4-(k+1)) ++ [ql.getD (4-(k+1)) []]=ql.take (4-k):=by
   exact Ir
  show (bn wrC qm ql k (qm.take (4-(k+1)) ++ [qm.getD (4-(k+1)) 0]) (ql.take (4-(k+1)) ++ [ql.getD (4-(k+1)) []]) K.2).1=_;rw [t1,t2];exact ux hm hl QU PQ k _ Mf
theorem AL {key:Bool} {s:SqD} (h:gC key s) (m:Wrt):(di wrC key (df s) m).1=.ok (kV s):=by
 have hk:=lG (key:=key) (k:=(s.kind:Int)) Mf (by have:=h.kind;omega) (fun e=>by have:=h.key_ e;omega) m;unfold di;show (match (cf wrC (df s) (bK wrC key (s.kind:Int) m).1 (bK wrC key (s.kind:Int) m).2).1 with
  | .error e=>(Except.error (inD lW (bK wrC key (s.kind:Int) m).1 e),(cf wrC (df s) (bK wrC key (s.kind:Int) m).1 (bK wrC key (s.kind:Int) m).2).2)
  | .ok s'=>(Except.ok s',(cf wrC (df s) (bK wrC key (s.kind:Int) m).1 (bK wrC key (s.kind:Int) m).2).2)).1=_
 generalize bK wrC key (s.kind:Int) m=K at *
 have Zq:K.1=s.kind:=Mf;rw [Zq];have JuW:(cf wrC (df s) s.kind K.2).1=.ok (kV s):=by
  unfold cf kV;by_cases h3:s.kind=3
  ·rw [if_pos h3,if_pos h3]
   obtain ⟨a,b,c,d⟩:=h.small h3;have e:=ux a b c d 4 K.2 Mf;simp only [Nat.sub_self,List.take_zero] at e;show (match (bn wrC s.modes s.small 4 [] [] K.2).1 with
    | .error e=>(Except.error e,(bn wrC s.modes s.small 4 [] [] K.2).2)
    | .ok x=>(Except.ok (⟨3,0,x.1,0,0,[],x.2⟩:SqD),(bn wrC s.modes s.small 4 [] [] K.2).2)).1=_
   rw [e]
  rw [if_neg h3,if_neg h3];by_cases h0:s.kind=0
  ·rw [if_pos h0,if_pos h0]
  rw [if_neg h0,if_neg h0];by_cases h1:s.kind=1
  ·rw [if_pos h1,if_pos h1]
   obtain ⟨a,b⟩:=h.large (.inl h1);obtain ⟨v1,v2,v3,v4⟩:=h.vec h1;have x1:=xO v1 v2 K.2;show (match (aT wrC 8 s.large (bR wrC s.vy (bR wrC s.vx K.2).2).2).1 with
    | .error e=>(Except.error e,(aT wrC 8 s.large (bR wrC s.vy (bR wrC s.vx K.2).2).2).2)
    | .ok l=>(Except.ok (⟨1,0,[0,0,0,0],(bR wrC s.vx K.2).1,(bR wrC s.vy (bR wrC s.vx K.2).2).1,l,[[],[],[],[]]⟩:SqD),(aT wrC 8 s.large (bR wrC s.vy (bR wrC s.vx K.2).2).2).2)).1=_
   rw [x1];generalize bR wrC s.vx K.2=X at *
   rw [xO v3 v4 X.2,iK (side:=8) (.inr rfl) a b]
  rw [if_neg h1,if_neg h1];have h2:s.kind=2:=by have:=h.kind;omega
  obtain ⟨a,b⟩:=h.large (.inr h2);have x1:=nZ (v:=(s.mode:Int)) Mf (by have:=h.mode h2;omega) K.2;show (match (aT wrC 8 s.large (bN wrC (s.mode:Int) K.2).2).1 with
   | .error e=>(Except.error e,(aT wrC 8 s.large (bN wrC (s.mode:Int) K.2).2).2)
   | .ok l=>(Except.ok (⟨2,(bN wrC (s.mode:Int) K.2).1,[0,0,0,0],0,0,l,[[],[],[],[]]⟩:SqD),(aT wrC 8 s.large (bN wrC (s.mode:Int) K.2).2).2)).1=_
  generalize bN wrC (s.mode:Int) K.2=M at *
  rw [iK (side:=8) (.inr rfl) a b,show M.1=s.mode by omega]
 generalize cf wrC (df s) s.kind K.2=P at *
 rw [JuW]
theorem rC {f prev:ai} {x y qp:Int} {s:SqD} (h:s.kind<=3):bf f prev x y qp (kV s)=bf f prev x y qp s:=by
 unfold kV;by_cases h3:s.kind=3
 ·rw [if_pos h3];unfold bf
  rw [if_neg Mg,if_neg Mg,if_neg Mg,if_neg Mf,if_neg Mf,if_neg Mf]
  rfl
 by_cases h0:s.kind=0
 ·rw [if_neg h3,if_pos h0];unfold bf
  rw [if_pos (by rfl),if_pos h0]
 by_cases h1:s.kind=1
 ·rw [if_neg h3,if_neg h0,if_pos h1];unfold bf
  rw [if_neg Mg,if_pos (by rfl),if_neg h0,if_pos h1]
 ·rw [if_neg h3,if_neg h0,if_neg h1];unfold bf
  rw [if_neg Mg,if_neg Mg,if_pos (by rfl),if_neg h0,if_neg h1,if_pos Mf]
def aM (n:Nat) (v:Int):List Int:=(List.range n).map fun i=>v / 256 ^ (n-1-i) % 256
def cz (l:List Int):List Int:=(l.reverse.dropWhile (· == 0)).reverse
def gS (m:Wrt):List Int:=cz (aM m.n m.lo)
theorem FY {p:Int->Bool}:∀ {l:List Int} {x:Int},x∈l.takeWhile p->p x=true
 | [],x,h=>by simp at h
 | a :: l,x,h=>by
  rw [List.takeWhile_cons] at h
  split at h
  ·rename_i hp
   rcases List.mem_cons.1 h with rfl | h
   ·exact hp
   ·exact FY h
  ·cases h
theorem nz (l:List Int):∃ k,l=cz l ++ List.replicate k 0:=by
 unfold cz;have h:=List.takeWhile_append_dropWhile (p:=(· == (0:Int))) (l:=l.reverse);refine ⟨(l.reverse.takeWhile (· == 0)).length,?_⟩;have e:(l.reverse.takeWhile (· == 0))=List.replicate (l.reverse.takeWhile (· == 0)).length 0:=by
  refine List.eq_replicate_iff.2 ⟨rfl,fun x hx=>?_⟩;have:=FY hx;simpa using this
 have h2:=congrArg List.reverse h;rw [List.reverse_append,List.reverse_reverse,e,List.reverse_replicate] at h2;exact h2.symm
theorem yJ (l:List Int) (i:Nat):(cz l).getD i 0=l.getD i 0:=by
 obtain ⟨k,h⟩:=nz l;have e:l.getD i 0=(cz l ++ List.replicate k 0).getD i 0:=by rw [<- h]
 rw [e,Le,Le];by_cases hi:i<(cz l).length
 ·rw [Lv hi]
 ·rw [Lu Mf,List.getElem?_eq_none Mf,List.getElem?_replicate]
  split <;> rfl
theorem AP (l:List Int):(cz l).length<=l.length:=by
 obtain ⟨k,h⟩:=nz l;have:=congrArg List.length h;rw [Ln] at this;omega
theorem AQ {l:List Int} {x:Int} (h:x∈cz l):x∈l:=by
 obtain ⟨k,e⟩:=nz l;rw [e];exact List.mem_append_left _ h
theorem za (n:Nat) (v:Int):∀ x∈aM n v,InK .u8 x:=by
 intro x hx;obtain ⟨i,_,rfl⟩:=List.mem_map.1 hx;simp only [InK];omega
theorem Bh (m:Wrt):∀ x∈gS m,InK .u8 x:=fun x hx=>za _ _ x (AQ hx)
theorem EJ (m:Wrt):(gS m).length<=m.n:=Lz (AP _) (by simp [aM])
theorem rG {D E:List Int} (h:∀ i,D.getD i 0=E.getD i 0):∀ k,kh D k=kh E k
 | 0=>rfl
 | k+1=>by show kh D k*256+D.getD k 0=kh E k*256+E.getD k 0;rw [rG h k,h k]
theorem Br {n:Nat} {v:Int} (h0:0<=v) (h1:v<256 ^ n):∀ k,k<=n->kh (aM n v) k=v / 256 ^ (n-k)
 | 0,_=>by
  show (0:Int)=v / 256 ^ n;rw [Int.ediv_eq_zero_of_lt h0 h1]
 | k+1,hk=>by
  show kh (aM n v) k*256+(aM n v).getD k 0=_;rw [Br h0 h1 k Mf];have e:(aM n v).getD k 0=v / 256 ^ (n-(k+1)) % 256:=by
   unfold aM;rw [Le,LG,List.getElem?_range Mf];show v / 256 ^ (n-1-k) % 256=_;rw [show n-1-k=n-(k+1) by omega]
  rw [e,show n-k=(n-(k+1))+1 by omega,Int.pow_succ,<- Int.ediv_ediv_of_nonneg (Int.le_of_lt (nl _))];generalize v / 256 ^ (n-(k+1))=q;omega
theorem zy {z:Wrt} (h:cd z):pz (gS z) z:=by
 have hr:=h.r0;have ht:=h.top;refine ⟨Bh z,fun k hk=>?_,Mf⟩;rw [show kh (gS z) k=kh (aM z.n z.lo) k from rG (yJ (aM z.n z.lo)) k];exact Br h.lo0 Mf k hk
theorem DZ {D:List Int} (h:∀ x∈D,InK .u8 x):fu D fB (FZ D):=by
 refine ⟨rfl,rfl,rfl,rfl,?_⟩;show ((D.getD 0 0*256+D.getD 1 0)*256+D.getD 2 0)*256+D.getD 3 0=kh D 4-0;simp only [kh];omega
def encGo (key:Bool) (prev:ai) (qp:Int) (ch:ai->Int->Int->SqD):Nat->Nat->ai->Wrt->ai×Wrt
 | 0,_,f,m=>(f,m)
 | k+1,i,f,m =>
  encGo key prev qp ch k (i+1) (bf f prev ((i:Int)*8 % f.W) ((i:Int)*8 / f.W*8) qp (ch f ((i:Int)*8 % f.W) ((i:Int)*8 / f.W*8))) (di wrC key (df (ch f ((i:Int)*8 % f.W) ((i:Int)*8 / f.W*8))) m).2
theorem Bg {key:Bool} {prev:ai} {qp:Int} {ch:ai->Int->Int->SqD} {P:ai->Prop} (hP:∀ f x y,P f->gC key (ch f x y)) (hN:∀ f x y,P f->P (bf f prev x y qp (ch f x y))) :
  ∀ (k i:Nat) {f:ai} {m:Wrt},P f->cd m->cd (encGo key prev qp ch k i f m).2/\WIn (encGo key prev qp ch k i f m).2 m /\
   ∀ {D:List Int} {z:Wrt} {d:Mod},pz D z->WIn z (encGo key prev qp ch k i f m).2->fu D m d->iC key prev qp k i f d=.ok (encGo key prev qp ch k i f m).1
 | 0,i,f,m,hf,hm=>⟨hm,WIn.refl m,fun t w r=>rfl⟩
 | k+1,i,f,m,hf,hm=>by
  have hs:=hP f ((i:Int)*8 % f.W) ((i:Int)*8 / f.W*8) hf;have hn:=hN f ((i:Int)*8 % f.W) ((i:Int)*8 / f.W*8) hf;have hsg:∀ (d:Mod) (s:SqD),(ko key d).1=.ok s->iC key prev qp (k+1) i f d=iC key prev qp k (i+1) (bf f prev ((i:Int)*8 % f.W) ((i:Int)*8 / f.W*8) qp s) (ko key d).2:=fun d s h=>by rw [iC,h]
  unfold encGo;generalize (i:Int)*8 / f.W*8=y at *
  generalize (i:Int)*8 % f.W=x at *
  have S:=yx key (df (ch f x y)) hm;have V:=AL hs m;generalize hq:di wrC key (df (ch f x y)) m=q at *
  obtain ⟨a,b,c⟩:=Bg hP hN k (i+1) hn S.ok;refine ⟨a,b.trans S.inn,fun {D z d} t w r=>?_⟩;obtain ⟨u,v⟩:=S.same t (w.trans b) r;rw [V] at u;rw [hsg d _ u,rC hs.kind];exact c t w v
theorem cI (n:Nat) (v:Int):(aM n v).length=n:=by simp [aM]
theorem cm (n:Nat) (v:Int):aM (n+1) v=aM n (v / 256) ++ [v % 256]:=by
 unfold aM;rw [List.range_succ,LS]
 congr 1
 ·refine List.map_congr_left (fun i hi=>?_)
  rw [Md] at hi;rw [show n+1-1-i=(n-1-i)+1 by omega,Int.pow_succ,Int.mul_comm,<- Int.ediv_ediv_of_nonneg Mf]
 ·simp
def jb:Nat->List Int->List Int
 | 0,l=>l
 | i+1,l=>if (l.getD i 0+1) % 256=0 then jb i (l.set i 0) else l.set i ((l.getD i 0+1) % 256)
theorem wW:∀ (n:Nat) (v:Int) (t:List Int),jb n (aM n v ++ t)=aM n (v+1) ++ t
 | 0,v,t=>rfl
 | n+1,v,t=>by
  unfold jb;have hl:(aM n (v / 256)).length=n:=cI _ _;have hg:(aM (n+1) v ++ t).getD n 0=v % 256:=by
   rw [cm,LR,Le,Lu Mf,hl,Nat.sub_self]
   rfl
  have hs:∀ x:Int,(aM (n+1) v ++ t).set n x=aM n (v / 256) ++ (x :: t):=by
   intro x;rw [cm,LR,List.set_append_right _ _ Mf,hl,Nat.sub_self]
   rfl
  rw [hg];by_cases h:(v % 256+1) % 256=0
  ·rw [if_pos h,hs,wW n (v / 256) (0 :: t),cm n (v+1),LR]
   have e1:(v+1) / 256=v / 256+1:=Mf;have e2:(v+1) % 256=0:=Mf;rw [e1,e2]
   rfl
  ·rw [if_neg h,hs,cm n (v+1),LR]
   have e1:(v+1) / 256=v / 256:=Mf;have e2:(v+1) % 256=(v % 256+1) % 256:=Mf;rw [e1,e2]
   rfl
theorem wn (n:Nat) (v:Int):aM (n+4) v=aM n (v / 4294967296) ++ [v / 16777216 % 256,v / 65536 % 256,v / 256 % 256,v % 256]:=by
 rw [cm,cm,cm,cm];have e1:v / 256 / 256=v / 65536:=Mf;have e2:v / 256 / 256 / 256=v / 16777216:=Mf;have e3:v / 256 / 256 / 256 / 256=v / 4294967296:=Mf;rw [e3,e2,e1];simp
theorem sH (n:Nat) (v:Int):aM (n+1) (v*256 / 4294967296)=aM n (v / 4294967296) ++ [v / 16777216 % 256]:=by
 rw [cm];have e1:v*256 / 4294967296 / 256=v / 4294967296:=Mf;have e2:v*256 / 4294967296 % 256=v / 16777216 % 256:=Mf;rw [e1,e2]
theorem qF (n:Nat) (v:Int):aM (n+1) (v*256)=aM n v ++ [0]:=by
 rw [cm];have e1:v*256 / 256=v:=Mf;have e2:v*256 % 256=0:=Mf;rw [e1,e2]
def iG:Nat->List Int->Int->List Int
 | 0,l,v=>l
 | i+1,l,v=>if 0<v then iG i (l.set i ((v+l.getD i 0) % 256)) ((v+l.getD i 0) / 256) else l
theorem wa:∀ (n:Nat) (u v:Int) (t:List Int),0<=v->iG n (aM n u ++ t) v=aM n (u+v) ++ t
 | 0,u,v,t,hv=>rfl
 | n+1,u,v,t,hv=>by
  unfold iG;have hl:(aM n (u / 256)).length=n:=cI _ _;have hg:(aM (n+1) u ++ t).getD n 0=u % 256:=by
   rw [cm,LR,Le,Lu Mf,hl,Nat.sub_self]
   rfl
  have hs:∀ x:Int,(aM (n+1) u ++ t).set n x=aM n (u / 256) ++ (x :: t):=by
   intro x;rw [cm,LR,List.set_append_right _ _ Mf,hl,Nat.sub_self]
   rfl
  rw [hg];by_cases h:0<v
  ·rw [if_pos h,hs,wa n (u / 256) _ _ Mf,cm n (u+v),LR]
   have e1:(u+v) / 256=u / 256+(v+u % 256) / 256:=Mf;have e2:(u+v) % 256=(v+u % 256) % 256:=Mf;rw [e1,e2]
   rfl
  ·rw [if_neg h,show u+v=u by omega]
theorem fG {w:World} {g:Nat} {v0 v1 v2:Value} {t:TypeId} (h:w.heap[g]?=some (.cells #[v0,v1,v2] t (0,0))) :
  w.cell? ⟨g,0,none⟩=some v0/\w.cell? ⟨g,1,none⟩=some v1/\w.cell? ⟨g,2,none⟩=some v2:=by
 refine ⟨?_,?_,?_⟩ <;> (rw [cell_of_row _ _ _ _ _ _ h];rfl)
def kn (m:Wrt):List Int:=aM (m.n-4) (m.lo / 4294967296)
theorem oF (m:Wrt):(kn m).length=m.n-4:=cI _ _
structure ft (base E:Nat) (w:World) (ov:Value) (m:Wrt):Prop where
 row:w.heap[E]?=some (.cells #[ov,.int .u64 (m.lo % 4294967296),.int .u64 m.r] 205 (0,0))
 own:Own .u8 5 base w ov (kn m)
 hE:base<=E
 ne:∀ g,ov.ownBlock=some g->g≠E
section
variable {base E:Nat} {w w':World} {ov:Value} {m:Wrt} {S:List Nat}
abbrev et (E:Nat) (ov:Value):List Nat:=E :: ov.ownBlock.toList
theorem ft.lt (h:ft base E w ov m):∀ g∈et E ov,base<=g/\g<w.heap.size:=by
 intro g hg;rcases List.mem_cons.1 hg with rfl | hg
 ·exact ⟨h.hE,(Array.getElem?_eq_some_iff.1 h.row).1⟩
 ·exact h.own.at g Mt
theorem ft.only (h:ft base E w ov m) (o:ae S w w') (hS:∀ g∈S,g∉et E ov):ft base E w' ov m :=
 ⟨o.rowAt h.row (fun hm=>hS E hm (List.mem_cons_self ..)),h.own.only o (fun g hg e=>hS g hg (Lx _ (by rw [e];simp))),h.hE,h.ne⟩
theorem ft.quiet (h:ft base E w ov m) (o:ae [] w w'):ft base E w' ov m:=h.only o Mg
theorem Own.nilOr {k:IntKind} {e:TypeId} {l:List Int} (h:Own k e base w ov l):(ov=.slice none 0 0/\l=[])\/∃ g cap,ov=.slice (some ⟨g,0,none⟩) l.length cap:=by
 rcases h.1.2 with ⟨rfl,h2⟩ | ⟨g,cap,cur,rfl,_⟩
 ·exact .inl ⟨rfl,by have:=h.1.1;rw [h2] at this;simpa using this⟩
 ·exact .inr ⟨g,cap,rfl⟩
abbrev fF (E:Nat) (w:World) (ov:Value) (a b:Int):Prop:=w.heap[E]?=some (.cells #[ov,.int .u64 a,.int .u64 b] 205 (0,0))
theorem fF.set0 {a b:Int} (h:fF E w ov a b) (v:Value):fF E (w.setCell ⟨E,0,none⟩ v) v a b/\ae [E] w (w.setCell ⟨E,0,none⟩ v):=⟨heap_setCell_same w E 0 _ _ _ h,(ae.refl _ _).setCell Mg _⟩
theorem fF.set1 {a b:Int} (h:fF E w ov a b) (x:Int):fF E (w.setCell ⟨E,1,none⟩ (.int .u64 x)) ov x b/\ae [E] w (w.setCell ⟨E,1,none⟩ (.int .u64 x)):=⟨heap_setCell_same w E 1 _ _ _ h,(ae.refl _ _).setCell Mg _⟩
theorem fF.set2 {a b:Int} (h:fF E w ov a b) (x:Int):fF E (w.setCell ⟨E,2,none⟩ (.int .u64 x)) ov a x/\ae [E] w (w.setCell ⟨E,2,none⟩ (.int .u64 x)):=⟨heap_setCell_same w E 2 _ _ _ h,(ae.refl _ _).setCell Mg _⟩
end
theorem AG {m:Wrt} (h:4<=m.n):kn m.shift=kn m ++ [m.lo / 16777216 % 256]:=by
 unfold kn;show aM (m.n+1-4) (m.lo*256 / 4294967296)=_;rw [show m.n+1-4=(m.n-4)+1 by omega];exact sH _ _
theorem AF (m:Wrt) {x:Int} (h0:0<=x) (h1:x<4294967296):kn ⟨m.p,m.lo+x,m.n,m.r-x⟩=if 4294967295<m.lo % 4294967296+x then jb (kn m).length (kn m) else kn m:=by
 split
 ·rw [oF]
  have:=wW (m.n-4) (m.lo / 4294967296) [];rw [LA,LA] at this;show aM (m.n-4) ((m.lo+x) / 4294967296)=jb (m.n-4) (aM (m.n-4) (m.lo / 4294967296));rw [this]
  congr 1;omega
 ·show aM (m.n-4) ((m.lo+x) / 4294967296)=_
  unfold kn
  congr 1;omega
theorem EL (m:Wrt) (h:4<=m.n):gS m=cz (kn m ++ [m.lo / 16777216 % 256,m.lo / 65536 % 256,m.lo / 256 % 256,m.lo % 256]):=by
 unfold gS kn;rw [show m.n=(m.n-4)+4 by omega,wn,show m.n-4+4-4=m.n-4 by omega]
theorem pX {l:List Int} {k:Nat} (hk:k<l.length) (h:l.getD k 0=0):cz (l.take (k+1))=cz (l.take k):=by
 unfold cz;rw [List.take_succ_eq_append_getElem hk,List.reverse_append];have:l[k]=0:=by rw [Le,Lf hk] at h;exact h
 simp [this]
theorem pW {l:List Int} {k:Nat} (hk:k<l.length) (h:l.getD k 0≠0):cz (l.take (k+1))=l.take (k+1):=by
 unfold cz;rw [List.take_succ_eq_append_getElem hk,List.reverse_append];have:l[k]≠0:=by rw [Le,Lf hk] at h;exact h
 simp [this]
theorem sX {a:Int} (h0:0<=a) (h1:a<18446744073709551616):bits BinOp.and IntKind.u64 a 4294967295=a % 4294967296:=by
 obtain ⟨x,rfl⟩:=Int.eq_ofNat_of_zero_le h0;have h:=bits_and_u64_nat x 4294967295 Mf Mf;rw [show (4294967295:Nat)=2 ^ 32-1 from rfl,Nat.and_two_pow_sub_one_eq_mod] at h;rw [show (4294967295:Int)=((2 ^ 32-1:Nat):Int) from rfl,h];omega
end Go.Proofs.YthcafdfdglfabaaGreatDoor
