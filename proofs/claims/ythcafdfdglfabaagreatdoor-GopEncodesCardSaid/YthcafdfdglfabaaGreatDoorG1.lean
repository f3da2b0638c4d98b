/- Joined texts: DOwnF, DOwnK, DOwnC, GOwn, OwnC, Next, Rd, RdN, RdP, RdG. Conditions: each part names its own. -/
import Derived.Test.YthcafdfdglfabaaGreatDoorF1
namespace Go.Proofs.YthcafdfdglfabaaGreatDoor
open Go.Proofs.Tryz
open Go.RowKit
set_option linter.unusedVariables false
set_option linter.unusedSimpArgs false
set_option maxRecDepth 100000
set_option maxHeartbeats 16000000
def D4 (B:Nat->Prop) (w:World) (xs:List Value) (l:List ah):Prop :=
 (∀ u∈xs,u.oneCell'=true)/\∀ i f,l[i]?=some f->xs[i*3]?=some (.int .i64 f.W)/\xs[i*3+1]?=some (.int .i64 f.H)/\∃ pv b,xs[i*3+2]?=some pv/\aj .i64 b (b+1) w pv f.pix/\B b
def IL (base:Nat) (w:World) (v:Value) (l:List ah):Prop:=∃ xs,w.ownsRow base 24 3 v l.length xs/\D4 (fun b=>base<=b/\b<w.heap.size/\v.ownBlock≠some b) w xs l
section
variable {base:Nat} {w w':World} {v v':Value} {l m:List ah} {S:List Nat}
theorem IL.at (h:IL base w v l):∀ g,v.ownBlock=some g->base<=g/\g<w.heap.size:=by obtain ⟨xs,h1,_⟩:=h;exact h1.lt
theorem IL.frames (h:IL base w v l):aZ base w.heap.size w v l:=by
 obtain ⟨xs,h1,_,I⟩:=h;have J:=h1.1;refine ⟨fun i j=>xs.getD (i*3+j) undef,ir.of_own h1 (fun i j hi L=>?_),fun i hi=>?_⟩
 ·have:i*3+j<xs.length:=Qa
  simp [this]
 ·obtain ⟨a,b,pv,c,D,E,F⟩:=I i (l.getD i default) (by simp [hi])
  refine ⟨?_,?_,?_⟩
  ·show xs.getD (i*3+0) undef=_
   rw [Nat.add_zero,Pd,a];rfl
  ·show xs.getD (i*3+1) undef=_
   rw [Pd,b];rfl
  ·show aj .i64 base w.heap.size w (xs.getD (i*3+2) undef) _
   rw [Pd,D];exact E.mono F.1 Qa
end
section
variable {P:Program}
end
theorem D7:iF prog 27 24 (.agg #[(),(),d8]) 3 40:=iF.mk' underlying27 Qc rfl Qa Qa
def qD (lo hi:Nat) (w:World) (xs:List Value) (l:List bw):Prop :=
 (∀ u∈xs,u.oneCell'=true)/\∀ i c,l[i]?=some c->xs[i*2]?=some (.int .i64 c.kind)/\i7 .i64 c.kind/\∃ dv,xs[i*2+1]?=some dv/\aj .u8 lo hi w dv c.data
def ew (lo hi base:Nat) (w:World) (v:Value) (l:List bw):Prop:=hi<=base/\∃ xs,w.ownsRow base 31 2 v l.length xs/\qD lo hi w xs l
section
variable {lo hi base:Nat} {w w':World} {v v':Value} {l m:List bw} {S:List Nat}
theorem qD.only {xs:List Value} (h:qD lo hi w xs l) (o:ae S w w') (I:∀ g∈S,hi<=g):qD lo hi w' xs l :=
 ⟨h.1,fun i c J=>by obtain ⟨a,b,F,D,E⟩:=h.2 i c J;exact ⟨a,b,F,D,E.only o (fun g L=>.inr (I g L))⟩⟩
theorem ew.only (h:ew lo hi base w v l) (o:ae S w w') (E:∀ g∈S,hi<=g/\v.ownBlock≠some g):ew lo hi base w' v l:=by
 obtain ⟨h0,xs,h1,F⟩:=h;exact ⟨h0,xs,dN h1 o (fun g D=>(E g D).2),F.only o (fun g D=>(E g D).1)⟩
theorem ew.quiet (h:ew lo hi base w v l) (o:ae [] w w'):ew lo hi base w' v l:=h.only o Qb
theorem ew.nil (h:hi<=base) (w:World):ew lo hi base w (.slice none 0 0) []:=⟨h,[],World.ownsRow_nil _ _ _ _,Qb,Qb⟩
theorem ew.at (h:ew lo hi base w v l):∀ g,v.ownBlock=some g->base<=g/\g<w.heap.size:=by obtain ⟨_,xs,h1,_⟩:=h;exact h1.lt
theorem ew.isSlice (h:ew lo hi base w v l):∃ a cap,v=.slice a l.length cap:=by
 obtain ⟨_,xs,h1,_⟩:=h;obtain ⟨_,a,cap,rfl,_⟩:=cf.of_own h1;exact ⟨a,cap,rfl⟩
theorem ew.codeds (h:ew lo hi base w v l) (L:lo<=hi) (I:base<=w.heap.size):cm lo w.heap.size w v l:=by
 obtain ⟨h0,xs,h1,_,D⟩:=h;have E:=h1.1;refine ⟨fun i j=>xs.getD (i*2+j) undef,(ir.of_own h1 (fun i j hi J=>?_)).mono Qa (Pm _),fun i hi=>?_⟩
 ·have:i*2+j<xs.length:=Qa
  simp [this]
 ·obtain ⟨a,b,F,c,d⟩:=D i (l.getD i default) (by simp [hi])
  refine ⟨?_,b,?_⟩
  ·show xs.getD (i*2+0) undef=_
   rw [Nat.add_zero,Pd,a];rfl
  ·show aj .u8 lo w.heap.size w (xs.getD (i*2+1) undef) _
   rw [Pd,c];exact d.mono (Pm _) Qa
theorem qD.one {k:Int} {D:Value} {data:List Int} (L:i7 .i64 k) (I:aj .u8 lo hi w D data):qD lo hi w [.int .i64 k,D] [⟨k,data⟩]:=by
 have F:D.oneCell'=true:=by obtain ⟨a,cap,rfl,_⟩:=I.open;rfl
 refine ⟨?_,fun i c E=>?_⟩
 ·intro u hu
  rcases Zb.1 hu with rfl | hu
  ·rfl
  ·rw [i5.1 hu];exact F
 ·have J:=(List.getElem?_eq_some_iff.1 E).1
  obtain rfl:i=0:=by simp at J;omega
  simp at E;subst E;exact ⟨rfl,L,D,rfl,I⟩
theorem qD.append {xs D:List Value} (N:xs.length=l.length*2) (h1:qD lo hi w xs l) (L:qD lo hi w D m):qD lo hi w (xs ++ D) (l ++ m):=by
 refine ⟨fun u hu=>(B0.1 hu).elim (h1.1 u) (L.1 u),fun i c E=>?_⟩;by_cases hi:i<l.length
 ·rw [Pu hi] at E
  obtain ⟨a,b,J,F,I⟩:=h1.2 i c E;exact ⟨by rw [Pu Qa];exact a,b,J,by rw [Pu Qa];exact F,I⟩
 ·rw [Pt Qa] at E
  obtain ⟨a,b,J,F,I⟩:=L.2 _ c E;have M:(xs ++ D)[i*2]?=D[(i-l.length)*2]?:=by rw [Pt Qa];congr 1;omega
  have e2:(xs ++ D)[i*2+1]?=D[(i-l.length)*2+1]?:=by rw [Pt Qa];congr 1;omega
  exact ⟨by rw [M];exact a,b,J,by rw [e2];exact F,I⟩
end
section
variable {P:Program}
end
theorem D6:iF prog 55 31 (.agg #[(),d8]) 2 32:=iF.mk' underlying55 Qc rfl Qa Qa
theorem qK {k:IntKind} {lo hi lo' hi':Nat} {w w':World} {v:Value} {l:List Int} (h:aj k lo hi w v l) (I:l=[]):aj k lo' hi' w' v l:=by
 subst I;obtain ⟨⟨h1,a,c,e,D,E,L⟩,F⟩:=h;exact ⟨⟨h1,a,c,e,D,E,fun J=>absurd J Qb⟩,F⟩
def IG (B:Nat->Prop) (w:World) (xs:List Value) (l:List bw):Prop :=
 (∀ u∈xs,u.oneCell'=true)/\∀ i c,l[i]?=some c->xs[i*2]?=some (.int .i64 c.kind)/\i7 .i64 c.kind/\∃ dv b,xs[i*2+1]?=some dv/\aj .u8 b (b+1) w dv c.data/\(c.data=[]\/B b)
def su (base:Nat) (w:World) (v:Value) (l:List bw):Prop:=∃ xs,w.ownsRow base 31 2 v l.length xs/\IG (fun b=>base<=b/\b<w.heap.size/\v.ownBlock≠some b) w xs l
section
variable {base:Nat} {w w':World} {v v':Value} {l m:List bw} {S:List Nat}
theorem su.at (h:su base w v l):∀ g,v.ownBlock=some g->base<=g/\g<w.heap.size:=by obtain ⟨xs,h1,_⟩:=h;exact h1.lt
theorem su.isSlice (h:su base w v l):∃ a cap,v=.slice a l.length cap:=by
 obtain ⟨xs,h1,_⟩:=h;obtain ⟨_,a,cap,rfl,_⟩:=cf.of_own h1;exact ⟨a,cap,rfl⟩
theorem su.codeds (h:su base w v l):cm base w.heap.size w v l:=by
 obtain ⟨xs,h1,_,E⟩:=h;have F:=h1.1;refine ⟨fun i j=>xs.getD (i*2+j) undef,ir.of_own h1 (fun i j hi J=>?_),fun i hi=>?_⟩
 ·have:i*2+j<xs.length:=Qa
  simp [this]
 ·obtain ⟨a,b,I,z,c,d,D⟩:=E i (l.getD i default) (by simp [hi])
  refine ⟨?_,b,?_⟩
  ·show xs.getD (i*2+0) undef=_
   rw [Nat.add_zero,Pd,a];rfl
  ·show aj .u8 base w.heap.size w (xs.getD (i*2+1) undef) _
   rw [Pd,c];rcases D with D | D
   ·exact qK d D
   ·exact d.mono D.1 Qa
end
section
variable {P:Program}
end
def ji (base:Nat) (w:World) (va vb:Value) (b:Nat):Prop:=base<=b/\b<w.heap.size/\va.ownBlock≠some b/\vb.ownBlock≠some b
def il (base:Nat) (w:World) (va:Value) (A:List bw) (vb:Value) (B:List ah):Prop :=
 ∃ xs ys,w.ownsRow base 31 2 va A.length xs/\w.ownsRow base 24 3 vb B.length ys/\(∀ g,va.ownBlock=some g->vb.ownBlock≠some g) /\
  IG (ji base w va vb) w xs A/\D4 (ji base w va vb) w ys B
section
variable {base:Nat} {w w':World} {va vb:Value} {A:List bw} {B:List ah} {S:List Nat}
theorem IG.step {P R:Nat->Prop} {xs:List Value} (h:IG P w xs A) (o:ae S w w') (M:∀ g∈S,¬ P g) (hi:∀ b,P b->R b):IG R w' xs A:=by
 obtain ⟨J,L⟩:=h;refine ⟨J,fun i c N=>?_⟩;obtain ⟨a,b,I,z,E,F,D⟩:=L i c N;rcases D with D | D
 ·exact ⟨a,b,I,z,E,qK F D,.inl D⟩
 ·exact ⟨a,b,I,z,E,F.only o (fun g O=>by have V:g≠z:=fun e=>M g O (e ▸ D);omega),.inr (hi z D)⟩
theorem D4.step {P R:Nat->Prop} {xs:List Value} (h:D4 P w xs B) (o:ae S w w') (L:∀ g∈S,¬ P g) (hi:∀ b,P b->R b):D4 R w' xs B:=by
 obtain ⟨I,J⟩:=h;refine ⟨I,fun i f M=>?_⟩;obtain ⟨a,b,pv,c,E,F,D⟩:=J i f M;exact ⟨a,b,pv,c,E,F.only o (fun g N=>by have O:g≠c:=fun e=>L g N (e ▸ D);omega),hi c D⟩
theorem il.only (h:il base w va A vb B) (o:ae S w w') (E:∀ g∈S,g<base):il base w' va A vb B:=by
 obtain ⟨xs,V,h1,F,L,M,N⟩:=h;have O:=o.size;have I:∀ b,ji base w va vb b->ji base w' va vb b:=fun b h=>⟨h.1,PH h.2.1 O,h.2.2⟩
 have J:∀ g∈S,¬ ji base w va vb g:=fun g D h=>by have:=E g D;have:=h.1;omega
 exact ⟨xs,V,dN h1 o (fun g D e=>by have:=(h1.lt g e).1;have:=E g D;omega),dN F o (fun g D e=>by have:=(F.lt g e).1;have:=E g D;omega),L,M.step o J I,N.step o J I⟩
theorem il.quiet (h:il base w va A vb B) (o:ae [] w w'):il base w' va A vb B:=h.only o Qb
theorem il.nil (base:Nat) (w:World):il base w (.slice none 0 0) [] (.slice none 0 0) [] :=
 ⟨[],[],World.ownsRow_nil _ _ _ _,World.ownsRow_nil _ _ _ _,(fun g e=>by cases e),⟨Qb,Qb⟩,⟨Qb,Qb⟩⟩
theorem il.left (h:il base w va A vb B):su base w va A:=by
 obtain ⟨xs,J,h1,E,F,D,I⟩:=h;exact ⟨xs,h1,D.step (ae.refl [] w) Qb (fun b h=>⟨h.1,h.2.1,h.2.2.1⟩)⟩
theorem il.slices (h:il base w va A vb B):∃ a c b d,va=.slice a A.length c/\vb=.slice b B.length d:=by
 obtain ⟨a,c,e⟩:=h.left.isSlice;obtain ⟨xs,E,h1,D,-⟩:=h;obtain ⟨_,b,d,f,_⟩:=cf.of_own D;exact ⟨a,c,b,d,e,f⟩
theorem il.right (h:il base w va A vb B):IL base w vb B:=by
 obtain ⟨xs,F,h1,D,I,J,E⟩:=h;exact ⟨F,D,E.step (ae.refl [] w) Qb (fun b h=>⟨h.1,h.2.1,h.2.2.2⟩)⟩
end
section
variable {P:Program}
theorem kX {w:World} {ops:Array Oper} {rest:List Oper} {o:Oper} {a:Act} {Q:Exit->Act->World->Prop} (Yr:o.guard=none) (s x:Operand) (t:TypeId)
  (ho:o.op=.call { callee:=.builtin .append,args:=#[s,x],argTypes:=#[t,t] })
  {z:Value} {bytes base Wi Uq b:Nat} {va vb sv J:Value} {A:List bw} {B:List ah} {c:bw} (E:iF P t 31 z 2 bytes)
  (QL:il base w va A vb B) (hv:a.eval s=va) (hs:cf 2 Wi Uq w sv 1 [.int .i64 c.kind,J]) (hk:i7 .i64 c.kind) (V:aj .u8 b (b+1) w J c.data) (I:c.data=[]\/ji base w va vb b) (hx:a.eval x=sv)
  (Z:(A.length+1)*bytes<=140737488355328) (Sn:base<=w.heap.size)
  (h:∀ v' w',il base w' v' (A ++ [c]) vb B->p9 va w v' w'->wpList P ops Q rest (a.put o.dst v') w'):wpList P ops Q (o :: rest) a w:=by
 have hle:A.length+1<=140737488355328:=Pw (Nat.le_mul_of_pos_right _ E.bp) Z;obtain ⟨xs,ys,h1,h2,h3,h4,h5⟩:=QL;have Y:J.oneCell'=true:=by obtain ⟨a,cap,rfl,_⟩:=V.open;rfl
 have Vm:∀ u∈[Value.int .i64 c.kind,J],u.oneCell'=true:=by
  intro u hu;simp only [Pg,Ph,l7] at hu;rcases hu with rfl | rfl
  ·rfl
  ·exact Y
 refine dH Yr s x t ho E h1 hv hs hx Vm (by simp only [maxLen];omega) Z Sn fun v' w' M D F=>?_
 have ha:p9 va w v' w':=⟨D,F.imp id fun e g hg=>by rw [e] at hg;injection hg with hg;omega⟩
 have Zg:=D.size;have N:∀ y,ji base w va vb y->ji base w' v' vb y:=fun y L=>⟨L.1,by have:=L.2.1;omega,fun e=>by
  rcases F with e' | e'
  ·exact L.2.2.1 (e'.symm.trans e)
  ·rw [e'] at e;injection e with e;have:=L.2.1;omega,L.2.2.2⟩
 have hn:∀ g∈va.ownBlock.toList,¬ ji base w va vb g:=fun g hg h=>h.2.2.1 Qn
 have hlx:=h1.1;obtain ⟨k1,k2⟩:=h4.step D hn N;refine h v' w' ⟨xs ++ [.int .i64 c.kind,J],ys,by rw [Pn];exact M,dN h2 D (fun g hg e=>h3 g Qn e),fun g e e2=>?_,⟨fun u hu=>(B0.1 hu).elim (k1 u) (Vm u),fun i g hg=>?_⟩,h5.step D hn N⟩ ha
 ·rcases F with e' | e'
  ·exact h3 g (e'.symm.trans e) e2
  ·rw [e'] at e;injection e with e;have:=(h2.lt g e2).2;omega
 by_cases hi:i<A.length
 ·rw [Pu hi] at hg
  obtain ⟨e0,e1,q,y,d1,d2⟩:=k2 i g hg;exact ⟨by rw [Pu Qa];exact e0,e1,q,y,by rw [Pu Qa];exact d1,d2⟩
 ·rw [Pt Qa] at hg
  have QH:=(List.getElem?_eq_some_iff.1 hg).1;have O:i=A.length:=by simp at QH;omega
  subst O;simp at hg;subst hg;refine ⟨?_,hk,J,b,?_,?_⟩
  ·rw [Pt Qa,show A.length*2-xs.length=0 by omega];rfl
  ·rw [Pt Qa,show A.length*2+1-xs.length=1 by omega];rfl
  ·rcases I with I | I
   ·exact ⟨qK V I,.inl I⟩
   ·exact ⟨V.only D (fun x hx=>by have RX:x≠b:=fun e=>I.2.2.1 (by rw [<- e];simpa using hx);omega),.inr (N b I)⟩
theorem iA {w:World} {ops:Array Oper} {rest:List Oper} {o:Oper} {a:Act} {Q:Exit->Act->World->Prop} (Yr:o.guard=none) (s x:Operand) (t:TypeId)
  (ho:o.op=.call { callee:=.builtin .append,args:=#[s,x],argTypes:=#[t,t] })
  {z:Value} {bytes base Wi Uq b:Nat} {va vb sv pv:Value} {A:List bw} {B:List ah} {f:ah} (E:iF P t 24 z 3 bytes)
  (QL:il base w va A vb B) (hv:a.eval s=vb) (hs:cf 3 Wi Uq w sv 1 [.int .i64 f.W,.int .i64 f.H,pv]) (hp:aj .i64 b (b+1) w pv f.pix) (hb:ji base w va vb b) (hx:a.eval x=sv)
  (V:(B.length+1)*bytes<=140737488355328) (Sn:base<=w.heap.size)
  (h:∀ v' w',il base w' va A v' (B ++ [f])->p9 vb w v' w'->wpList P ops Q rest (a.put o.dst v') w'):wpList P ops Q (o :: rest) a w:=by
 have hle:B.length+1<=140737488355328:=Pw (Nat.le_mul_of_pos_right _ E.bp) V;obtain ⟨xs,J,h1,Z,h3,h4,h5⟩:=QL;have O:pv.oneCell'=true:=by obtain ⟨a,cap,rfl,_⟩:=hp.open;rfl
 have Y:∀ u∈[Value.int .i64 f.W,.int .i64 f.H,pv],u.oneCell'=true:=by
  intro u hu;simp only [Pg,Ph,l7] at hu;rcases hu with rfl | rfl | rfl
  ·rfl
  ·rfl
  ·exact O
 refine dH Yr s x t ho E Z hv hs hx Y (by simp only [maxLen];omega) V Sn fun v' w' L D F=>?_
 have ha:p9 vb w v' w':=⟨D,F.imp id fun e g hg=>by rw [e] at hg;injection hg with hg;omega⟩
 have Zg:=D.size;have M:∀ y,ji base w va vb y->ji base w' va v' y:=fun y I=>⟨I.1,by have:=I.2.1;omega,I.2.2.1,fun e=>by
  rcases F with e' | e'
  ·exact I.2.2.2 (e'.symm.trans e)
  ·rw [e'] at e;injection e with e;have:=I.2.1;omega⟩
 have hn:∀ g∈vb.ownBlock.toList,¬ ji base w va vb g:=fun g hg h=>h.2.2.2 Qn
 have hlx:=Z.1;obtain ⟨k1,k2⟩:=h5.step D hn M;refine h v' w' ⟨xs,J ++ [.int .i64 f.W,.int .i64 f.H,pv],dN h1 D (fun g hg e=>h3 g e Qn),by rw [Pn];exact L,fun g e e2=>?_,h4.step D hn M,fun u hu=>(B0.1 hu).elim (k1 u) (Y u),fun i g hg=>?_⟩ ha
 ·rcases F with e' | e'
  ·exact h3 g e (e'.symm.trans e2)
  ·rw [e'] at e2;injection e2 with e2;have:=(h1.lt g e).2;omega
 by_cases hi:i<B.length
 ·rw [Pu hi] at hg
  obtain ⟨e0,e1,q,y,d1,d2⟩:=k2 i g hg;exact ⟨by rw [Pu Qa];exact e0,by rw [Pu Qa];exact e1,q,y,by rw [Pu Qa];exact d1,d2⟩
 ·rw [Pt Qa] at hg
  have QH:=(List.getElem?_eq_some_iff.1 hg).1;have N:i=B.length:=by simp at QH;omega
  subst N;simp at hg;subst hg;refine ⟨?_,?_,pv,b,?_,hp.only D (fun x hx=>by have RX:x≠b:=fun e=>hb.2.2.2 (by rw [<- e];simpa using hx);omega),M b hb⟩
  ·rw [Pt Qa,show B.length*3-J.length=0 by omega];rfl
  ·rw [Pt Qa,show B.length*3+1-J.length=1 by omega];rfl
  ·rw [Pt Qa,show B.length*3+2-J.length=2 by omega];rfl
end
theorem aj.empty {k:IntKind} {lo hi lo' hi':Nat} {w w':World} {v:Value} (h:aj k lo hi w v []):aj k lo' hi' w' v []:=by
 obtain ⟨⟨h1,a,c,e,D,E,J⟩,F⟩:=h;exact ⟨⟨h1,a,c,e,D,E,fun I=>absurd I Qb⟩,F⟩
theorem aj.tight {k:IntKind} {lo hi:Nat} {w:World} {v:Value} {l:List Int} (h:aj k lo hi w v l):∃ b,aj k b (b+1) w v l/\(l≠[]->lo<=b/\b<hi):=by
 by_cases D:l=[]
 ·subst D;exact ⟨0,h.empty,fun h=>absurd rfl h⟩
 ·obtain ⟨⟨h1,a,c,e,E,F,I⟩,L⟩:=h
  have M:0<l.length:=List.length_pos_iff.2 D;obtain ⟨b,off,e2,x,y,J⟩:=I M;exact ⟨b,⟨⟨h1,a,c,e,E,F,fun _=>⟨b,off,e2,Pm _,Qa,J⟩⟩,L⟩,fun _=>⟨x,y⟩⟩
section
variable {P:Program}
end
def qr:ByteArray:=⟨#[117,110,105,116]⟩
structure cu where
 kind:Int
 data:List Int
 at_:Nat
 end_:Nat
 deriving DecidableEq,Inhabited
def rP (d:List Int):Int:=d.getD 1 0*65536+d.getD 2 0*256+d.getD 3 0
def LQ (d:List Int) (n:Nat):Int:=d.getD (4+n) 0*16777216+d.getD (5+n) 0*65536+d.getD (6+n) 0*256+d.getD (7+n) 0
def gA (d:List Int) (at_:Nat):Except l4 cu :=
 if d.getD 0 0=0 then .ok ⟨0,[],at_,at_+1⟩
 else if d.length<4 then .error ⟨[(qr,at_)],1⟩
 else if 65536<rP d then .error ⟨[(qr,at_)],5⟩
 else if (d.length:Int)-8<rP d then .error ⟨[(qr,at_)],1⟩
 else if (B9 (d.take (4+(rP d).toNat)):Int)≠LQ d (rP d).toNat then .error ⟨[(qr,at_)],4⟩
 else .ok ⟨d.getD 0 0,(d.drop 4).take (rP d).toNat,at_,at_+(8+(rP d).toNat)⟩
def mt (w:World) (r:Except l4 cu) (e:Ending) (w':World):Prop :=
 ae [] w w'/\match r with
  | .ok u=>∃ dv,e=.returned (.tuple #[.agg #[u.kind,dv,u.at_,u.end_],.nilIface])/\aj .u8 w.heap.size w'.heap.size w' dv u.data
  | .error er=>∃ ev,e=.returned (.tuple #[.agg #[(),d8,(),()],ev])/\eK w.heap.size w'.heap.size w' ev er
theorem qN (c:Int) (p:Addr) (n:Int) (w:World) (h:w.cell? p=some (.int .i64 n)) :
  Calls prog 219 #[c,.pointer (some p)] w fun e w'=>∃ D,e=.returned (.tuple #[.agg #[(),d8,(),()],D])/\eK w.heap.size w'.heap.size w' D ⟨[(qr,n)],c⟩/\ae [] w w':=by
 have h2:=fun o=>(ae.new w o).cell h Qb
 have hh:=lh h;clear h;go_enter func219,ntmps219
 go_wp2_with (first | (go_at_call 80;refine (Mq _ _ _ _).mono ?_;rintro e w1 ⟨D,rfl,F,I⟩;obtain ⟨J,L,rfl⟩:=F.held;have hr:=(I.block w.heap.size Qb Qb).trans (LD);have z0:=Sz w1 w.heap.size 0 _ _ hr;have z1:=Sz w1 w.heap.size 1 _ _ hr;have z2:=Sz w1 w.heap.size 2 _ _ hr;have z3:=Sz w1 w.heap.size 3 _ _ hr;have N:w1.cell? ⟨w.heap.size,0,none⟩=some (.int .i64 0):=(dx hr);have m1:w1.cell? ⟨w.heap.size,1,none⟩=some (.slice none 0 0):=(dx hr);have m2:w1.cell? ⟨w.heap.size,2,none⟩=some (.int .i64 0):=(dx hr);have O:w1.cell? ⟨w.heap.size,3,none⟩=some (.int .i64 0):=(dx hr)) | fail)
 refine TV (v:=.tuple #[.agg #[(),d8,(),()],.iface J L]) (by simp [results,results219,go_sem,N,m1,m2,O,World.cell?_setCell_other]) rfl ?_;have M:ae [] w w1:=(BS).q I;have E:∀ V Y Z u3,ae [w.heap.size] w1 ((((w1.setCell ⟨w.heap.size,0,none⟩ V).setCell ⟨w.heap.size,1,none⟩ Y).setCell ⟨w.heap.size,2,none⟩ Z).setCell ⟨w.heap.size,3,none⟩ u3):=fun _ _ _ _=>((((AY).setCell Qb _).setCell Qb _).setCell Qb _).setCell Qb _
 refine ⟨_,rfl,(eK.only F (E _ _ _ _) Qb).mono Qb (E _ _ _ _).size,M.trans (E _ _ _ _) Qb Qb⟩
theorem kH {l:List Int} {a i:Nat}:(l.drop a).getD i 0=l.getD (a+i) 0:=by simp [Pd]
theorem mt.bad {w w':World} {r:Except l4 cu} {er:l4} {e:Ending} {D:Value} (hr:r=.error er) (o:ae [] w w') (E:e=.returned (.tuple #[.agg #[(),d8,(),()],D])) (h:eK w.heap.size w'.heap.size w' D er):mt w r e w':=by
 unfold mt;rw [hr];exact ⟨o,D,E,h⟩
theorem JE {x y:Int} (h0:0<=x) (h1:x<256) (D:0<=y) (E:y<256):bits .or .i64 (x*65536) (y*256)=x*65536+y*256 :=
 bits_join .i64 63 Ql gh 16 (x*65536) (y*256) Qa Qa Qa Qa Qa Qa
theorem JF {x y z:Int} (h0:0<=x) (h1:x<256) (D:0<=y) (E:y<256) (F:0<=z) (I:z<256):bits .or .i64 (x*65536+y*256) z=x*65536+y*256+z :=
 bits_join .i64 63 Ql gh 8 (x*65536+y*256) z Qa Qa Qa Qa Qa Qa
theorem fA (n:Int) (h₀:0<=n) (h₁:n<2 ^ 32):IntKind.u32.wrap n=n:=by simp [IntKind.wrap,IntKind.bits,IntKind.signed];omega
theorem Oh {x y:Int} (h0:0<=x) (h1:x<256) (D:0<=y) (E:y<256):bits .or .u32 (x*16777216) (y*65536)=x*16777216+y*65536 :=
 bits_join .u32 32 Ql fA 24 _ _ Qa Qa Qa Qa Qa Qa
theorem Oi {x y z:Int} (h0:0<=x) (h1:x<256) (D:0<=y) (E:y<256) (F:0<=z) (I:z<256):bits .or .u32 (x*16777216+y*65536) (z*256)=x*16777216+y*65536+z*256 :=
 bits_join .u32 32 Ql fA 16 _ _ Qa Qa Qa Qa Qa Qa
theorem Oj {x y z t:Int} (h0:0<=x) (h1:x<256) (D:0<=y) (E:y<256) (F:0<=z) (I:z<256) (J:0<=t) (L:t<256):bits .or .u32 (x*16777216+y*65536+z*256) t=x*16777216+y*65536+z*256+t :=
 bits_join .u32 32 Ql fA 8 _ _ Qa Qa Qa Qa Qa Qa
theorem Lz {p:Prop} (h:p:=by
 clear hr;go_enter func176,ntmps176;go_wp2_with fail
 go_quiet (fail)
 generalize Tb:World.drewN _ _=W3;have WK:ae [] ((w.alloc (.cells #[p] 3)).alloc (.cells #[(),d8,(),()] 197)) W3:=by rw [<- Tb];exact (AY).drewN _
 have cP3:=WK.cell cP Qb;have n03:=WK.cell n0 Qb;have n13:=WK.cell n1 Qb;have n23:=WK.cell n2 Qb;have n33:=WK.cell n3 Qb;have z03:=(WK.frozen hzN Qb).trans z0;have z13:=(WK.frozen hzN Qb).trans z1;have z23:=(WK.frozen hzN Qb).trans z2;have z33:=(WK.frozen hzN Qb).trans z3;have XC:w.heap.size+1<W3.heap.size:=by have:=WK.size;omega
 have Jot:=WK.cell cb Qb;have hqE:=HO.q WK;clear Tb cP n0 n1 n2 n3 z0 z1 z2 z3 cb cb1 cb2 cb3
 go_wp2_with (first | (go_at_call 219;refine (qN _ _ p _ cP3).mono ?_;rintro e w3 ⟨ev,rfl,Yh,QQ⟩;obtain ⟨et,eu,rfl⟩:=Yh.held;have m0:=QQ.cell n03 Qb;have m1:=QQ.cell n13 Qb;have m2:=QQ.cell n23 Qb;have m3:=QQ.cell n33 Qb;have k0:=(QQ.frozen XC Qb).trans z03;have k1:=(QQ.frozen XC Qb).trans z13;have k2:=(QQ.frozen XC Qb).trans z23;have k3:=(QQ.frozen XC Qb).trans z33) | fail)
 refine TV (v:=.tuple #[.agg #[(),d8,(),()],.iface et eu]) (by simp [results,results176,go_sem,m0,m1,m2,m3,World.cell?_setCell_other]) rfl ?_;have hS:∀ u0 u1 u2 u3,ae [w.heap.size+1] w3 ((((w3.setCell ⟨w.heap.size+1,0,none⟩ u0).setCell ⟨w.heap.size+1,1,none⟩ u1).setCell ⟨w.heap.size+1,2,none⟩ u2).setCell ⟨w.heap.size+1,3,none⟩ u3):=fun _ _ _ _=>((((AY).setCell Qb _).setCell Qb _).setCell Qb _).setCell Qb _
 exact mt.bad Hr ((hqE.q QQ).trans (hS _ _ _ _) Qb Qb) rfl ((eK.only Yh (hS _ _ _ _) Qm).mono hqE.size (hS _ _ _ _).size)):p:=h
theorem Kl {lo hi:Nat} {v:Value} {l:List Int} (p:Nat) {w:World} (h:aj .u8 lo hi w v l) (hp:p<l.length) :
  Calls prog 176 #[v,p] w (mt w (gA (l.drop p) p)):=by
 have QJ:=h.1.len_le;unfold maxLen at QJ;obtain ⟨a,cap,rfl,Sv,RN,RO,QR⟩:=h.open;obtain ⟨b,off,rfl,XP,hb2⟩:=RO 0 Qa;have I:=lh h;have Rm:=lh (QR b off rfl);have hpi:(p:Int)<(l.length:Int):=Qa;have hp0:(0:Int)<=(p:Int):=Qa;have hbw:b<w.heap.size:=s4 (QR b off rfl 0 Qa);clear RO QR h RN;have c0:=Rm.out p hp;have hO:ae [] w ((w.alloc (.cells #[p] 3)).alloc (.cells #[(),d8,(),()] 197)):=(BS).q (BS);have rB:((w.alloc (.cells #[p] 3)).alloc (.cells #[(),d8,(),()] 197)).heap[w.heap.size+1]?=some (.cells #[(),d8,(),()] 197):=ak Qb;have rA:((w.alloc (.cells #[p] 3)).alloc (.cells #[(),d8,(),()] 197)).heap[w.heap.size]?=some (.cells #[p] 3):=(A6 _ _ _ Qb).trans (LD);have cP:((w.alloc (.cells #[p] 3)).alloc (.cells #[(),d8,(),()] 197)).cell? ⟨w.heap.size,0,none⟩=some (.int .i64 p):=dx rA
 have n0:((w.alloc (.cells #[p] 3)).alloc (.cells #[(),d8,(),()] 197)).cell? ⟨w.heap.size+1,0,none⟩=some (.int .i64 0):=dx rB
 have n1:((w.alloc (.cells #[p] 3)).alloc (.cells #[(),d8,(),()] 197)).cell? ⟨w.heap.size+1,1,none⟩=some (.slice none 0 0):=dx rB
 have n2:((w.alloc (.cells #[p] 3)).alloc (.cells #[(),d8,(),()] 197)).cell? ⟨w.heap.size+1,2,none⟩=some (.int .i64 0):=dx rB
 have n3:((w.alloc (.cells #[p] 3)).alloc (.cells #[(),d8,(),()] 197)).cell? ⟨w.heap.size+1,3,none⟩=some (.int .i64 0):=dx rB
 have z0:=Sz ((w.alloc (.cells #[p] 3)).alloc (.cells #[(),d8,(),()] 197)) (w.heap.size+1) 0 _ _ rB;have z1:=Sz ((w.alloc (.cells #[p] 3)).alloc (.cells #[(),d8,(),()] 197)) (w.heap.size+1) 1 _ _ rB;have z2:=Sz ((w.alloc (.cells #[p] 3)).alloc (.cells #[(),d8,(),()] 197)) (w.heap.size+1) 2 _ _ rB;have z3:=Sz ((w.alloc (.cells #[p] 3)).alloc (.cells #[(),d8,(),()] 197)) (w.heap.size+1) 3 _ _ rB;have hzW:((w.alloc (.cells #[p] 3)).alloc (.cells #[(),d8,(),()] 197)).heap.size=w.heap.size+2:=Qb;have hzN:w.heap.size+1<((w.alloc (.cells #[p] 3)).alloc (.cells #[(),d8,(),()] 197)).heap.size:=Qa;have HO:=lh hO;have cb:=hO.cell c0 Qb;have hpc:p<cap:=Qa;have hcz:¬ cap-p=0:=Qa;have Vd:p<=l.length:=Qa;have hlp:((l.length-p:Nat):Int)=(l.length:Int)-p:=Qa;have Up:(l.drop p).length=l.length-p:=Pp;clear c0 rA rB hO;by_cases hz:l.getD p 0=0
 ·have hr:gA (l.drop p) p=.ok ⟨0,[],p,p+1⟩:=by
   unfold gA;rw [if_pos (by rw [kH];simpa using hz)]
  have Hr:=lh hr;clear hr hlp Up;rw [hz] at cb;go_enter func176,ntmps176;go_wp2_with fail;refine TV (v:=.tuple #[.agg #[(),d8,p,.int .i64 (p+1)],.nilIface]) (by simp [results,results176,go_sem]) rfl ?_;unfold mt;rw [Hr.out];exact ⟨(BS).q (BS),_,rfl,aj.nil _ _ _ _⟩
 ·have hzb:(l.getD p 0 == 0)=false:=by simpa using hz
  have hzd:¬ (l.drop p).getD 0 0=0:=by rw [kH];simpa using hz
  by_cases h4:l.length-p<4
  ·have hr:gA (l.drop p) p=.error ⟨[(qr,p)],1⟩:=by
    unfold gA;rw [if_neg hzd,if_pos (dn Up h4)]
   have h4i:(l.length:Int)-p<4:=Qa;have Hr:=lh hr;clear hr Up hzd;generalize l.getD p 0=x0 at *
   have Hz:=lh hz;clear hz;go_enter func176,ntmps176
   go_wp2_with (first | (go_at_call 219;refine (qN _ _ p _ cP).mono ?_;rintro e w3 ⟨ev,rfl,Yh,QQ⟩;obtain ⟨et,eu,rfl⟩:=Yh.held;have m0:=QQ.cell n0 Qb;have m1:=QQ.cell n1 Qb;have m2:=QQ.cell n2 Qb;have m3:=QQ.cell n3 Qb;have k0:=(QQ.frozen hzN Qb).trans z0;have k1:=(QQ.frozen hzN Qb).trans z1;have k2:=(QQ.frozen hzN Qb).trans z2;have k3:=(QQ.frozen hzN Qb).trans z3) | fail)
   refine TV (v:=.tuple #[.agg #[(),d8,(),()],.iface et eu]) (by simp [results,results176,go_sem,m0,m1,m2,m3,World.cell?_setCell_other]) rfl ?_;have hS:∀ u0 u1 u2 u3,ae [w.heap.size+1] w3 ((((w3.setCell ⟨w.heap.size+1,0,none⟩ u0).setCell ⟨w.heap.size+1,1,none⟩ u1).setCell ⟨w.heap.size+1,2,none⟩ u2).setCell ⟨w.heap.size+1,3,none⟩ u3):=fun _ _ _ _=>((((AY).setCell Qb _).setCell Qb _).setCell Qb _).setCell Qb _
   exact mt.bad Hr ((HO.q QQ).trans (hS _ _ _ _) Qb Qb) rfl ((eK.only Yh (hS _ _ _ _) Qb).mono Qm (hS _ _ _ _).size)
  ·have h4i:¬ (l.length:Int)-p<4:=Qa
   have cb1:((w.alloc (.cells #[p] 3)).alloc (.cells #[(),d8,(),()] 197)).cell? ⟨b,off+p+1,none⟩=some (.int .u8 (l.getD (p+1) 0)):=by rw [Nat.add_assoc];exact HO.cell (Rm.out (p+1) Qa) Qb
   have cb2:((w.alloc (.cells #[p] 3)).alloc (.cells #[(),d8,(),()] 197)).cell? ⟨b,off+p+2,none⟩=some (.int .u8 (l.getD (p+2) 0)):=by rw [Nat.add_assoc];exact HO.cell (Rm.out (p+2) Qa) Qb
   have cb3:((w.alloc (.cells #[p] 3)).alloc (.cells #[(),d8,(),()] 197)).cell? ⟨b,off+p+3,none⟩=some (.int .u8 (l.getD (p+3) 0)):=by rw [Nat.add_assoc];exact HO.cell (Rm.out (p+3) Qa) Qb
   have WL:=I.range (i:=p) Qa;have RZ:=I.range (i:=p+1) Qa;have hx2:=I.range (i:=p+2) Qa;have hx3:=I.range (i:=p+3) Qa;have hN:rP (l.drop p)=l.getD (p+1) 0*65536+l.getD (p+2) 0*256+l.getD (p+3) 0:=by simp only [rP,kH]
   have hK:(l.drop p).getD 0 0=l.getD p 0:=by rw [kH,Nat.add_zero]
   have hd4:¬ (l.drop p).length<4:=dn Up h4
   generalize l.getD p 0=x0 at *
   generalize l.getD (p+1) 0=x1 at *
   generalize l.getD (p+2) 0=x2 at *
   generalize l.getD (p+3) 0=x3 at *
   unfold i7 at WL RZ hx2 hx3;have JJP:=JE RZ.1 (by omega:x1<256) hx2.1 (by omega:x2<256);have JBp:=JF RZ.1 (by omega:x1<256) hx2.1 (by omega:x2<256) hx3.1 (by omega:x3<256);obtain ⟨N,hNN⟩:=A0 (by omega:0<=x1*65536+x2*256+x3);have hNb:N<=16777215:=Qa;rw [hNN] at JBp hN;have hw1:IntKind.i64.wrap x1=x1:=gh _ RZ.1 Qa;have hw2:IntKind.i64.wrap x2=x2:=gh _ hx2.1 Qa;have Zs:IntKind.i64.wrap x3=x3:=gh _ hx3.1 Qa;have M:=lh hN;have Hdl:=lh Up;have Hz:=lh hz;have Z:=lh hzd;have HK:=lh hK;have V:=lh hd4;clear hN hNN Up hz hzd hK hd4;by_cases h5:65536<N
   ·have hr:gA (l.drop p) p=.error ⟨[(qr,p)],5⟩:=by
     unfold gA;rw [if_neg Z.out,if_neg V.out,if_pos (eC M)]
    have Hr:=lh hr;have h5i:(65536:Int)<(N:Int):=Qa;exact Lz
   ·have h5i:¬ (65536:Int)<(N:Int):=Qa
    by_cases h8:(l.length:Int)-p-8<N
    ·have hr:gA (l.drop p) p=.error ⟨[(qr,p)],1⟩:=by
      unfold gA;rw [if_neg Z.out,if_neg V.out,if_neg (eC M),if_pos (by rw [M.out,Hdl.out];omega)]
     have Hr:=lh hr;exact Lz
    ·have JlY:p+(8+N)<=l.length:=Qa
     have JeN:=I.sub (i:=p) (j:=p+(4+N)) Qa Qa (cap-p) Qa Qa;rw [show p+(4+N)-p=4+N by omega,show (l.take (p+(4+N))).drop p=(l.drop p).take (4+N) by rw [List.drop_take];congr 1;omega] at JeN;have Jio:=I.sub (i:=p+4) (j:=p+(4+N)) Qa Qa (cap-p-4) Qa Qa;rw [show p+(4+N)-(p+4)=N by omega,show (l.take (p+(4+N))).drop (p+4)=((l.drop p).drop 4).take N by rw [List.drop_take,List.drop_drop];congr 1;omega] at Jio;have ce0:((w.alloc (.cells #[p] 3)).alloc (.cells #[(),d8,(),()] 197)).cell? ⟨b,off+p+(4+N),none⟩=some (.int .u8 (l.getD (p+(4+N)) 0)):=by rw [Nat.add_assoc];exact HO.cell (Rm.out (p+(4+N)) Qa) Qb
     have ce1:((w.alloc (.cells #[p] 3)).alloc (.cells #[(),d8,(),()] 197)).cell? ⟨b,off+p+(4+N)+1,none⟩=some (.int .u8 (l.getD (p+(5+N)) 0)):=by rw [show off+p+(4+N)+1=off+(p+(5+N)) by omega];exact HO.cell (Rm.out (p+(5+N)) Qa) Qb
     have ce2:((w.alloc (.cells #[p] 3)).alloc (.cells #[(),d8,(),()] 197)).cell? ⟨b,off+p+(4+N)+2,none⟩=some (.int .u8 (l.getD (p+(6+N)) 0)):=by rw [show off+p+(4+N)+2=off+(p+(6+N)) by omega];exact HO.cell (Rm.out (p+(6+N)) Qa) Qb
     have ce3:((w.alloc (.cells #[p] 3)).alloc (.cells #[(),d8,(),()] 197)).cell? ⟨b,off+p+(4+N)+3,none⟩=some (.int .u8 (l.getD (p+(7+N)) 0)):=by rw [show off+p+(4+N)+3=off+(p+(7+N)) by omega];exact HO.cell (Rm.out (p+(7+N)) Qa) Qb
     have Vo:=I.range (i:=p+(4+N)) Qa;have XW:=I.range (i:=p+(5+N)) Qa;have hy2:=I.range (i:=p+(6+N)) Qa;have hy3:=I.range (i:=p+(7+N)) Qa;have JtN:LQ (l.drop p) N=l.getD (p+(4+N)) 0*16777216+l.getD (p+(5+N)) 0*65536+l.getD (p+(6+N)) 0*256+l.getD (p+(7+N)) 0:=by simp only [LQ,kH]
     have hcl:=xK _ JeN.2;generalize l.getD (p+(4+N)) 0=y0 at *
     generalize l.getD (p+(5+N)) 0=y1 at *
     generalize l.getD (p+(6+N)) 0=y2 at *
     generalize l.getD (p+(7+N)) 0=y3 at *
     unfold i7 at Vo XW hy2 hy3;have Uo:((B9 ((l.drop p).take (4+N)):Nat):Int)=B9 ((l.drop p).take (4+N)):=rfl;generalize hcq:B9 ((l.drop p).take (4+N))=C at *
     have O:=lh hcq;have JsE:=lh JtN;have JlK:=lh JeN;have Jtf:=lh Jio;have H8:=lh h8;clear Uo hcq JtN JeN Jio;have hi1:((4+N:Nat):Int)=4+(N:Int):=Qa;have hj1:(0:Int)<=4+(N:Int):=Qa;go_enter func176,ntmps176;go_wp2_with fail
     go_quiet (fail)
     generalize Tb:World.drewN _ _=W3;have WK:ae [] ((w.alloc (.cells #[p] 3)).alloc (.cells #[(),d8,(),()] 197)) W3:=by rw [<- Tb];exact (AY).drewN _
     have cP3:=WK.cell cP Qb;have n03:=WK.cell n0 Qb;have n13:=WK.cell n1 Qb;have n23:=WK.cell n2 Qb;have n33:=WK.cell n3 Qb;have z03:=(WK.frozen hzN Qb).trans z0;have z13:=(WK.frozen hzN Qb).trans z1;have z23:=(WK.frozen hzN Qb).trans z2;have z33:=(WK.frozen hzN Qb).trans z3;have XC:w.heap.size+1<W3.heap.size:=by have:=WK.size;omega
     have Jot:=WK.cell cb Qb;have hqE:=HO.q WK;clear Tb cP n0 n1 n2 n3 z0 z1 z2 z3 cb cb1 cb2 cb3;have e03:=WK.cell ce0 Qb;have e13:=WK.cell ce1 Qb;have e23:=WK.cell ce2 Qb;have e33:=WK.cell ce3 Qb;clear ce0 ce1 ce2 ce3;have hl4:8+N-(4+N)=4:=Qa;have Xf:IntKind.i64.wrap (4+(N:Int))=4+(N:Int):=gh _ Qa Qa;have JJn:(4:Int)+(N:Int)<=((cap-p:Nat):Int):=Qa;have JJo:(4+(N:Int)).toNat=4+N:=Qa;have hl5:4+N-4=N:=Qa;have JJp:¬ cap-p-4=0:=Qa;have JJq:¬ cap-p=4:=Qa;have JJr:(4:Int)<=4+(N:Int):=Qa;have hu0:IntKind.u32.wrap y0=y0:=fA _ Qa Qa;have hu1:IntKind.u32.wrap y1=y1:=fA _ Qa Qa;have hu2:IntKind.u32.wrap y2=y2:=fA _ Qa Qa;have hu3:IntKind.u32.wrap y3=y3:=fA _ Qa Qa;have hs0:IntKind.u32.wrap (y0*16777216)=y0*16777216:=fA _ Qa Qa;have Ru:IntKind.u32.wrap (y1*65536)=y1*65536:=fA _ Qa Qa;have Rz:IntKind.u32.wrap (y2*256)=y2*256:=fA _ Qa Qa;have Rc:=Oh Vo.1 (by omega:y0<256) XW.1 (by omega:y1<256);have Sc:=Oi Vo.1 (by omega:y0<256) XW.1 (by omega:y1<256) hy2.1 (by omega:y2<256);have ZP:=Oj Vo.1 (by omega:y0<256) XW.1 (by omega:y1<256) hy2.1 (by omega:y2<256) hy3.1 (by omega:y3<256);have JlB:=JsE;clear JsE;generalize hY:y0*16777216+y1*65536+y2*256+y3=Y at *
     clear hY;go_wp2_with fail;by_cases hC:(C:Int)=Y
     ·subst hC
      have hr:gA (l.drop p) p=.ok ⟨x0,((l.drop p).drop 4).take N,p,p+(8+N)⟩:=by
       unfold gA;rw [if_neg Z.out,if_neg V.out,if_neg (eC M),if_neg (by rw [M.out,Hdl.out];omega),M.out,if_neg (by simp only [Int.toNat_natCast];rw [O.out,JlB.out];simp),HK.out];simp
      have Hr:=lh hr;clear hr
      go_region_held3 (fun w'=>w'.cell? ⟨b,off+p+(4+N),none⟩=some (.int .u8 y0)/\w'.cell? ⟨b,off+p+(4+N)+1,none⟩=some (.int .u8 y1)/\w'.cell? ⟨b,off+p+(4+N)+2,none⟩=some (.int .u8 y2)/\w'.cell? ⟨b,off+p+(4+N)+3,none⟩=some (.int .u8 y3))
       (first | (simp [*,World.cell?_alloc_some,World.cell?_setCell_far,frozen?_alloc_cells,fJ,PJ]) | fail)
       (first
        | (go_at_call 180;refine (yG (JlK.quiet hqE.drew)).mono ?_;rintro e w' ⟨rfl,rfl⟩;rw [O.out])
        | fail)
      generalize XO:World.drew _=W4;have D:ae [] W3 W4:=by rw [<- XO];exact (AY).drew
      clear XO;go_wp2_with fail;have hcA:=D.cell cP3 Qb;have hcB:=D.cell Jot Qb;have l0:=D.cell n03 Qb;have l1:=D.cell n13 Qb;have l2:=D.cell n23 Qb;have l3:=D.cell n33 Qb;have g0:=(D.frozen XC Qb).trans z03;have g1:=(D.frozen XC Qb).trans z13;have g2:=(D.frozen XC Qb).trans z23;have g3:=(D.frozen XC Qb).trans z33;have E:w.heap.size+1<W4.heap.size:=by have:=D.size;omega
      have hqG:=hqE.q D;clear cP3 Jot n03 n13 n23 n33 z03 z13 z23 z33 e03 e13 e23 e33 D hqE WK;have L:ae [] W4 (W4.alloc (.cells #[] 5)).drew:=(ae.new W4 (.cells #[] 5)).drew;have JcA:f9 .u8 5 W4.heap.size (W4.alloc (.cells #[] 5)).drew (.slice W4.heap.size 0 0) []:=(iQ rfl (PX _) Qb 0 rfl rfl:f9 .u8 5 W4.heap.size (W4.alloc (.cells #[] 5)) (.slice W4.heap.size 0 0) [])
      have Jim:=Jtf.quiet (hqG.q L);have WZ:W4.heap.size<=((W4.alloc (.cells #[] 5)).drew).heap.size:=Qb;have l0:=L.cell l0 Qb;have l1:=L.cell l1 Qb;have l2:=L.cell l2 Qb;have l3:=L.cell l3 Qb;have g0:=(L.frozen E Qb).trans g0;have g1:=(L.frozen E Qb).trans g1;have g2:=(L.frozen E Qb).trans g2;have g3:=(L.frozen E Qb).trans g3;have J:bj W4.heap.size (.slice W4.heap.size 0 0):=bj.lit (Pm _);have Up:(([]:List Int).length+(((l.drop p).drop 4).take N).length)*1<=140737488355328:=by rw [Po];simp only [Pr];omega
      have hz5:w.heap.size<W4.heap.size:=Qa;have hz6:b<W4.heap.size:=Qa;have hwx:IntKind.i64.wrap x0=x0:=gh _ WL.1 Qa;have hbn:¬ b=w.heap.size+1:=Qa;have JAP:¬ w.heap.size+1=b:=Qa;have hwe:IntKind.i64.wrap ((p:Int)+8)=(p:Int)+8:=gh _ Qa Qa;have hwf:IntKind.i64.wrap ((p:Int)+8+(N:Int))=(p:Int)+8+(N:Int):=gh _ Qa Qa
      go_region_held3 (fun w'=>w'.cell? ⟨w.heap.size,0,none⟩=some (.int .i64 p)/\w'.cell? ⟨b,off+p,none⟩=some (.int .u8 x0))
       (first
        | (go_split_ands;refine ⟨F.cell J Qq hz5,F.cell J Qq hz6⟩)
        | (simp [*,World.cell?_alloc_some,World.cell?_setCell_far,frozen?_alloc_cells,fJ,PJ])
        | fail)
       (first | (refine fZ rfl (.tmp 115) (.tmp 119) 29 rfl E8 JcA rfl Jim rfl Up WZ (fun v1 w1 QG F=>?_);obtain ⟨a1,Sb,rfl,_⟩:=QG.ints.open;(have m0:=F.cell J l0 E);(have m1:=F.cell J l1 E);(have m2:=F.cell J l2 E);(have m3:=F.cell J l3 E);(have k0:=(F.frz (p:=⟨w.heap.size+1,0,none⟩) J E WZ).trans g0);(have k1:=(F.frz (p:=⟨w.heap.size+1,1,none⟩) J E WZ).trans g1);(have k2:=(F.frz (p:=⟨w.heap.size+1,2,none⟩) J E WZ).trans g2);(have k3:=(F.frz (p:=⟨w.heap.size+1,3,none⟩) J E WZ).trans g3)) | fail)
      go_wp2_with fail;refine TV (v:=.tuple #[.agg #[x0,.slice a1 (min N (l.length-(p+4))) Sb,p,.int .i64 ((p:Int)+8+(N:Int))],.nilIface]) (by simp [results,results176,go_sem,m0,m1,m2,m3,hwe,hwf,World.cell?_setCell_other]) rfl ?_;have hS:∀ u0 u1 u2 u3,ae [w.heap.size+1] w1 ((((w1.setCell ⟨w.heap.size+1,0,none⟩ u0).setCell ⟨w.heap.size+1,1,none⟩ u1).setCell ⟨w.heap.size+1,2,none⟩ u2).setCell ⟨w.heap.size+1,3,none⟩ u3):=fun _ _ _ _=>((((AY).setCell Qb _).setCell Qb _).setCell Qb _).setCell Qb _
      have hs0:ae [] w w1:=(hqG.q L).acc F (bj.lit Qa);have JBj:min N (l.length-(p+4))=(((l.drop p).drop 4).take N).length:=by rw [Po,Pp,Pp];congr 1
      unfold mt;rw [Hr.out];refine ⟨hs0.trans (hS _ _ _ _) Qb Qb,_,?_,(QG.ints.only (hS _ _ _ _) (fun g hg=>Qd)).mono Qa (hS _ _ _ _).size⟩;have e:((p+(8+N):Nat):Int)=(p:Int)+8+(N:Int):=Qa;rw [e,JBj]
      rfl
     ·have hr:gA (l.drop p) p=.error ⟨[(qr,p)],4⟩:=by
       unfold gA;rw [if_neg Z.out,if_neg V.out,if_neg (eC M),if_neg (by rw [M.out,Hdl.out];omega),M.out,if_pos (by simp only [Int.toNat_natCast];rw [O.out,JlB.out];exact hC)]
      have Hr:=lh hr;clear hr
      go_region_held3 (fun w'=>w'.cell? ⟨b,off+p+(4+N),none⟩=some (.int .u8 y0)/\w'.cell? ⟨b,off+p+(4+N)+1,none⟩=some (.int .u8 y1)/\w'.cell? ⟨b,off+p+(4+N)+2,none⟩=some (.int .u8 y2)/\w'.cell? ⟨b,off+p+(4+N)+3,none⟩=some (.int .u8 y3))
       (first | (simp [*,World.cell?_alloc_some,World.cell?_setCell_far,frozen?_alloc_cells,fJ,PJ]) | fail)
       (first
        | (go_at_call 180;refine (yG (JlK.quiet hqE.drew)).mono ?_;rintro e w' ⟨rfl,rfl⟩;rw [O.out])
        | fail)
      generalize XO:World.drew _=W4;have D:ae [] W3 W4:=by rw [<- XO];exact (AY).drew
      clear XO
      go_wp2_with (first | (go_at_call 219;refine (qN _ _ p _ (D.cell cP3 Qb)).mono ?_;rintro e w3 ⟨ev,rfl,Yh,QQ⟩;obtain ⟨et,eu,rfl⟩:=Yh.held;have QQ:=D.q QQ;have m0:=QQ.cell n03 Qb;have m1:=QQ.cell n13 Qb;have m2:=QQ.cell n23 Qb;have m3:=QQ.cell n33 Qb;have k0:=(QQ.frozen XC Qb).trans z03;have k1:=(QQ.frozen XC Qb).trans z13;have k2:=(QQ.frozen XC Qb).trans z23;have k3:=(QQ.frozen XC Qb).trans z33) | fail)
      refine TV (v:=.tuple #[.agg #[(),d8,(),()],.iface et eu]) (by simp [results,results176,go_sem,m0,m1,m2,m3,World.cell?_setCell_other]) rfl ?_;have hS:∀ u0 u1 u2 u3,ae [w.heap.size+1] w3 ((((w3.setCell ⟨w.heap.size+1,0,none⟩ u0).setCell ⟨w.heap.size+1,1,none⟩ u1).setCell ⟨w.heap.size+1,2,none⟩ u2).setCell ⟨w.heap.size+1,3,none⟩ u3):=fun _ _ _ _=>((((AY).setCell Qb _).setCell Qb _).setCell Qb _).setCell Qb _
      exact mt.bad Hr ((hqE.q QQ).trans (hS _ _ _ _) Qb Qb) rfl ((eK.only Yh (hS _ _ _ _) (by have:=D.size;simp;omega)).mono (l6 hqE.size D.size) (hS _ _ _ _).size)
def pU (l:List Int) (p:Nat):Except l4 cu:=if p=l.length then .error ⟨[],1⟩ else gA (l.drop p) p
theorem aw {w:World} {g:Nat} {D E F I:Value} {t:TypeId} (h:w.heap[g]?=some (.cells #[D,E,F,I] t)) :
  w.cell? ⟨g,0,none⟩=some D/\w.cell? ⟨g,1,none⟩=some E/\w.cell? ⟨g,2,none⟩=some F/\w.cell? ⟨g,3,none⟩=some I :=
 ⟨by rw [RG h];rfl,by rw [RG h];rfl,by rw [RG h];rfl,by rw [RG h];rfl⟩
def OQ:List Int->Nat
 | []=>0
 | x :: l=>if x=0 then OQ l+1 else 0
theorem xQ {d:List Int} (hr:∀ x∈d,i7 .u8 x) (i:Nat):0<=d.getD i 0:=by
 by_cases h:i<d.length
 ·have:i7 .u8 (d.getD i 0):=by refine hr _ ?_;simp [h]
  exact this.1
 ·simp [Pd,C3 (Nat.le_of_not_lt h)]
theorem Mz (d:List Int) (hr:∀ x∈d,i7 .u8 x):0<=rP d:=by
 have:=xQ hr 1;have:=xQ hr 2;have:=xQ hr 3;unfold rP;omega
theorem Ax {d:List Int} {p:Nat} {u:cu} (h:gA d p=.ok u) (D:0<d.length) (hr:∀ x∈d,i7 .u8 x):u.at_=p/\p<u.end_/\u.end_<=p+d.length/\0<=u.kind/\u.kind<=255/\u.data.length+p<=u.end_:=by
 have h0:i7 .u8 (d.getD 0 0):=by refine hr _ ?_;simp [D]
 unfold gA at h
 split at h
 ·cases h;exact ⟨rfl,Qb,Qm,Qb,Qb,Qb⟩
 split at h
 ·cases h
 split at h
 ·cases h
 split at h
 ·cases h
 split at h
 ·cases h
 cases h;unfold i7 at h0;refine ⟨rfl,Qm,by simp;have:=Mz d hr;omega,h0.1,h0.2,?_⟩;simp only [Po];omega
end Go.Proofs.YthcafdfdglfabaaGreatDoor
