/- Joined texts: EQn, EPl, EOk, EAll, EStl, EPeak. Conditions: each part names its own. -/
import Derived.Test.YthcafdfdglfabaaGreatDoorW1
import Derived.Test.YthcafdfdglfabaaGreatDoorR1
namespace Go.Proofs.YthcafdfdglfabaaGreatDoor
open Go.RowKit
set_option linter.unusedVariables false
set_option linter.unusedSimpArgs false
set_option maxRecDepth 100000
set_option maxHeartbeats 16000000
theorem tx:∀ {c a b:List Int},a.length=b.length->dp c (jS a b)=dp c a+dp c b
 | [],a,b,h=>by simp [dp]
 | x :: c,[],[],h=>by simp [dp,jS]
 | x :: c,a :: a2,b :: b2,h=>by
  have ih:=tx (c:=c) (a:=a2) (b:=b2) Ms;simp only [dp,jS,List.zipWith_cons_cons,List.sum_cons] at ih |-
  rw [ih,Int.mul_add];omega
 | _ :: _,[],_ :: _,h=>by cases h
 | _ :: _,_ :: _,[],h=>by cases h
theorem Be {B:Int} (hB:0<=B):∀ (c l:List Int),(∀ x∈c,x=1\/x=-1)->(∀ x∈l,-B<=x/\x<=B)->-(l.length*B)<=dp c l/\dp c l<=l.length*B
 | [],l,_,_=>by
  have:0<=(l.length:Int)*B:=Int.mul_nonneg Mf hB;simp only [dp,List.zipWith_nil_left,List.sum_nil];omega
 | _ :: _,[],_,_=>by simp [dp]
 | x :: c,y :: l,hc,hl=>by
  have ih:=Be hB c l (fun z hz=>hc z (Lx _ hz)) (fun z hz=>hl z (Lx _ hz));have h1:=hl y (List.mem_cons_self ..);have e:((y :: l).length:Int)*B=l.length*B+B:=by rw [Lr];push_cast;rw [Int.add_mul,Int.one_mul]
  simp only [dp,List.zipWith_cons_cons,List.sum_cons] at ih |-
  rw [e];rcases hc x (List.mem_cons_self ..) with rfl | rfl <;> omega
theorem yz (u x:Nat):iU u x=1\/iU u x=-1:=by unfold iU;split <;> simp
theorem AH (n k:Nat):∀ x∈nw n k,x=1\/x=-1:=by
 intro x hx;unfold nw at hx;obtain ⟨i,_,rfl⟩:=List.mem_map.1 hx;rcases yz (k % n) (i % n) with a | a <;> rcases yz (k / n) (i / n) with b | b <;> rw [a,b] <;> simp
section
variable {n:Nat}
theorem Eh (hn:n=4\/n=8) {a b:List Int} (ha:a.length=n*n) (hb:b.length=n*n):bL (jS a b)=jS (bL a) (bL b):=by
 have XC:(jS a b).length=n*n:=by rw [jS,List.length_zipWith,ha,hb,Nat.min_self]
 rw [dS hn XC,dS hn ha,dS hn hb];unfold jS;rw [List.zipWith_map];rw [List.zipWith_self];refine List.map_congr_left (fun k _=>?_);exact tx (by rw [ha,hb])
theorem pp (hn:n=4\/n=8) {l:List Int} (hl:l.length=n*n) {B:Int} (hB:0<=B) (h:∀ x∈l,-B<=x/\x<=B):∀ x∈bL l,-((n*n:Nat)*B)<=x/\x<=(n*n:Nat)*B:=by
 intro x hx;rw [dS hn hl] at hx;obtain ⟨k,_,rfl⟩:=List.mem_map.1 hx;have:=Be hB (nw n k) l (AH n k) h;rw [hl] at this;exact this
theorem Kn:jh 7 1 (qf 4)=(jp 16).map (fun c=>c.map (16 * ·)):=Mh
theorem Ko:jh 7 1 (qf 8)=(jp 64).map (fun c=>c.map (64 * ·)):=Mh
theorem qJ (a:Int):∀ (c l:List Int),dp (c.map (a * ·)) l=a*dp c l
 | [],l=>by simp [dp]
 | _ :: _,[]=>by simp [dp]
 | x :: c,y :: l=>by
  have ih:=qJ a c l;simp only [dp,Ma,List.zipWith_cons_cons,List.sum_cons] at ih |-
  rw [ih,Int.mul_add,Int.mul_assoc]
theorem uw (m:Nat):iE (m*m) (qf m):=⟨by simp [qf],fun c hc=>by
 obtain ⟨i,_,rfl⟩:=List.mem_map.1 hc;simp [nw]⟩
theorem yK (hn:n=4\/n=8) {l:List Int} (hl:l.length=n*n):bL (bL l)=l.map (((n*n:Nat):Int) * ·):=by
 have e1:bL l=eN (qf n) l:=by rw [dS hn hl];simp [eN,qf]
 rw [e1];rcases hn with rfl | rfl
 ·have h:=kP (e:=4) l 7 1 (uw 4)
  show fI 7 1 (eN (qf 4) l)=_;rw [<- h,Kn];have hi:=iX hl;unfold eN at hi |-
  rw [List.map_map]
  conv=>rhs;rw [<- hi]
  rw [List.map_map];exact List.map_congr_left (fun c _=>qJ 16 c l)
 ·have h:=kP (e:=6) l 7 1 (uw 8)
  show fI 7 1 (eN (qf 8) l)=_;rw [<- h,Ko];have hi:=iX hl;unfold eN at hi |-
  rw [List.map_map]
  conv=>rhs;rw [<- hi]
  rw [List.map_map];exact List.map_congr_left (fun c _=>qJ 64 c l)
end
def fz (qp c:Int):Int:=if c<0 then -((bh qp / 2-c) / bh qp) else (c+bh qp / 2) / bh qp
def ez (d:List Int) (qp:Int):List Int:=(bL d).map (fz qp)
theorem yn {q:Nat} (h:q<=15) (P:Int->Prop) (hP:∀ s∈si,P s):P (bh q):=by
 unfold bh;refine hP _ ?_;rw [Le,Lf (by simp [si];omega)];exact LM _
theorem xC {q:Nat} (h:q<=15) (c:Int):-(bh q / 2)<=fz q c*bh q-c/\fz q c*bh q-c<=bh q / 2/\(0<=c->0<=fz q c/\fz q c<=c)/\(c<=0->c<=fz q c/\fz q c<=0)/\(fz q c=0->-(bh q / 2)<=c/\c<=bh q / 2):=by
 unfold fz;refine yn h (fun s=>-(s / 2)<=(if c<0 then -((s / 2-c) / s) else (c+s / 2) / s)*s-c/\(if c<0 then -((s / 2-c) / s) else (c+s / 2) / s)*s-c<=s / 2/\(0<=c->0<=(if c<0 then -((s / 2-c) / s) else (c+s / 2) / s)/\(if c<0 then -((s / 2-c) / s) else (c+s / 2) / s)<=c)/\(c<=0->c<=(if c<0 then -((s / 2-c) / s) else (c+s / 2) / s)/\(if c<0 then -((s / 2-c) / s) else (c+s / 2) / s)<=0)/\((if c<0 then -((s / 2-c) / s) else (c+s / 2) / s)=0->-(s / 2)<=c/\c<=s / 2)) ?_;intro s hs;simp only [si,Lh,Li,or_false] at hs;rcases hs with rfl | rfl | rfl | rfl | rfl | rfl | rfl | rfl | rfl | rfl | rfl | rfl | rfl | rfl | rfl | rfl <;> (by_cases hc:c<0 <;> simp only [if_pos,if_neg,hc,not_false_eq_true] <;> omega)
theorem fo (d:List Int) (qp:Int):(ez d qp).length=d.length:=by simp [ez,eG]
theorem xD {n q:Nat} (hn:n=4\/n=8) {d:List Int} (hl:d.length=n*n) (hd:∀ x∈d,-255<=x/\x<=255) (h:q<=15):cu (ez d q):=by
 intro x hx;unfold ez at hx;obtain ⟨c,hc,rfl⟩:=List.mem_map.1 hx;have hb:=pp hn hl Mf hd c hc;have Vs:((n*n:Nat):Int)*255<=16320:=by rcases hn with rfl | rfl <;> decide
 obtain ⟨_,_,a,b,_⟩:=xC h c;by_cases h0:0<=c
 ·have:=a h0;omega
 ·have:=b Mf;omega
def js (q:Int) (c:List Int):List Int:=c.map fun x=>fz q x*bh q-x
theorem AZ (q:Int) (c:List Int):cA (c.map (fz q)) q=jS c (js q c):=by
 unfold cA js jS;rw [List.map_map,List.zipWith_map_right,List.zipWith_self];refine List.map_congr_left (fun x _=>?_);show fz q x*bh q=x+(fz q x*bh q-x)
 omega
theorem un {n q:Nat} (hn:n=4\/n=8) {d:List Int} (hl:d.length=n*n) (h:q<=15) {k:Nat} (hk:k<n*n) :
  -(bh q / 2)<=(bZ (ez d q) q).getD k 0-d.getD k 0/\(bZ (ez d q) q).getD k 0-d.getD k 0<=bh q / 2:=by
 have hs0:0<=bh q / 2:=yn h (fun s=>0<=s / 2) (fun s hs=>by
  simp only [si,Lh,Li,or_false] at hs;rcases hs with rfl | rfl | rfl | rfl | rfl | rfl | rfl | rfl | rfl | rfl | rfl | rfl | rfl | rfl | rfl | rfl <;> decide)
 have ht:(bL d).length=n*n:=by rw [eG];exact hl
 have hel:(js q (bL d)).length=n*n:=by simp [js,ht]
 have hE:=pp hn hel hs0 (fun x hx=>by
  unfold js at hx;obtain ⟨c,_,rfl⟩:=List.mem_map.1 hx;obtain ⟨a,b,_⟩:=xC h c;exact ⟨a,b⟩)
 have e1:bL (cA (ez d q) q)=jS (d.map (((n*n:Nat):Int) * ·)) (bL (js q (bL d))):=by
  unfold ez;rw [AZ,Eh hn ht hel,yK hn hl]
 have MR:(cA (ez d q) q).length=n*n:=by rw [dP,fo,hl]
 unfold bZ bQ;rw [e1,MR];have Pr:k<d.length:=by rw [hl];exact hk
 have NK:k<(bL (js q (bL d))).length:=by rw [eG,hel];exact hk
 have hm:=hE _ (LM NK);have e2:((jS (d.map (((n*n:Nat):Int) * ·)) (bL (js q (bL d)))).map fun v=>(v+((n*n:Nat):Int) / 2) / ((n*n:Nat):Int)).getD k 0=(((n*n:Nat):Int)*d.getD k 0+(bL (js q (bL d)))[k]+((n*n:Nat):Int) / 2) / ((n*n:Nat):Int):=by
  rw [Le,LG,jS,List.getElem?_zipWith,LG,Lf Pr,Lf NK,Le,Lf Pr]
  rfl
 rw [e2];generalize (bL (js q (bL d)))[k]=t at *
 generalize d.getD k 0=x at *
 generalize bh q / 2=g at *
 rcases hn with rfl | rfl
 ·simp only [show ((4*4:Nat):Int)=16 from rfl] at hm |-
  omega
 ·simp only [show ((8*8:Nat):Int)=64 from rfl] at hm |-
  omega
def aO (f:ai) (x y:Int) (n:Nat):List Int:=(List.range n).flatMap fun j:Nat=>(List.range n).map fun i:Nat=>f.pix.getD ((y+(j:Int))*f.W+x+(i:Int)).toNat 0
def dl (a b:List Int):Int:=(List.zipWith (fun x y=>max (x-y) (y-x)) a b).sum
def bA (b p:List Int) (qp:Int):List Int:=ez (dH b p) qp
def dX (a b:List Int) (vx vy:Int):Int:=4*dl a b+max vx (-vx)+max vy (-vy)
structure kD where
 vx:Int
 vy:Int
 cost:Int
def dA (prev:ai) (b:List Int) (x y:Int) (s:kD) (v:Int×Int):kD :=
 if dX (ar prev x y 8 v.1 v.2) b v.1 v.2<s.cost then ⟨v.1,v.2,dX (ar prev x y 8 v.1 v.2) b v.1 v.2⟩ else s
def nU (reach:Nat):List (Int×Int):=(List.range (2*reach+1)).flatMap fun j:Nat=>(List.range (2*reach+1)).map fun i:Nat=>(2*((i:Int)-reach),2*((j:Int)-reach))
def kF (v:Int×Int):Bool:=decide (-15<=v.1) && decide (v.1<=15) && decide (-15<=v.2) && decide (v.2<=15)
def tY (vx vy:Int):List (Int×Int):=((List.range 3).flatMap fun j:Nat=>(List.range 3).map fun i:Nat=>(vx+((i:Int)-1),vy+((j:Int)-1))).filter kF
def mO (prev:ai) (b:List Int) (x y:Int):kD:=⟨0,0,dX (ar prev x y 8 0 0) b 0 0⟩
def il (prev:ai) (b:List Int) (x y:Int) (reach:Nat):kD:=(nU reach).foldl (dA prev b x y) (mO prev b x y)
def aZ (prev:ai) (b:List Int) (x y:Int) (reach:Nat):kD :=
 (tY (il prev b x y reach).vx (il prev b x y reach).vy).foldl (dA prev b x y) (il prev b x y reach)
def eK (b top left:List Int) (corner:Int):List Nat->Nat×Int->Nat×Int
 | [],r=>r
 | m :: ms,r=>eK b top left corner ms (if r.2<0\/dl b (bj m top left corner)<r.2 then (m,dl b (bj m top left corner)) else r)
def ku (b top left:List Int) (corner:Int):Nat×Int:=eK b top left corner [0,1,2,3] (0,-1)
def aG (cur:ai) (b:List Int) (x y:Int) (n:Nat):Nat×Int:=ku b (cZ cur x y n) (bU cur x y n) (aB cur (x-1) (y-1))
def eR (cur:ai) (x y:Int) (n:Nat) (m:Nat):List Int:=bj m (cZ cur x y n) (bU cur x y n) (aB cur (x-1) (y-1))
def fp (cur:ai) (b:List Int) (x y:Int) (n:Nat) (qp:Int):List Int:=bA b (eR cur x y n (aG cur b x y n).1) qp
def av (b:List Int) (q:Nat):List Int:=(List.range 16).map fun k:Nat=>b.getD ((q / 2*4+k / 4)*8+q % 2*4+k % 4) 0
def eI (b:List Int) (x y qp:Int):Nat->Nat->ai->List Int->List (List Int)->Int->List Int×List (List Int)×Int
 | 0,_,_,ms,ls,c=>(ms,ls,c)
 | k+1,i,cur,ms,ls,c =>
  eI b x y qp k (i+1)
   (dR cur (x+((i % 2:Nat):Int)*4) (y+((i / 2:Nat):Int)*4) 4 (aG cur (av b i) (x+((i % 2:Nat):Int)*4) (y+((i / 2:Nat):Int)*4) 4).1 qp (fp cur (av b i) (x+((i % 2:Nat):Int)*4) (y+((i / 2:Nat):Int)*4) 4 qp))
   (ms ++ [((aG cur (av b i) (x+((i % 2:Nat):Int)*4) (y+((i / 2:Nat):Int)*4) 4).1:Int)])
   (ls ++ [fp cur (av b i) (x+((i % 2:Nat):Int)*4) (y+((i / 2:Nat):Int)*4) 4 qp])
   (c+4*(aG cur (av b i) (x+((i % 2:Nat):Int)*4) (y+((i / 2:Nat):Int)*4) 4).2)
def ew (cur:ai) (b:List Int) (x y qp:Int):List Int×List (List Int)×Int:=eI b x y qp 4 0 cur [] [] 24
def pS (prev:ai) (b:List Int) (x y qp:Int):Bool:=(bA b (ar prev x y 8 0 0) qp).all (· == 0)
def JC (prev:ai) (b:List Int) (x y qp:Int) (reach:Nat):SqD :=
 ⟨1,0,[0,0,0,0],(aZ prev b x y reach).vx,(aZ prev b x y reach).vy,bA b (ar prev x y 8 (aZ prev b x y reach).vx (aZ prev b x y reach).vy) qp,[[],[],[],[]]⟩
def qz (cur:ai) (b:List Int) (x y qp:Int):SqD:=⟨2,(aG cur b x y 8).1,[0,0,0,0],0,0,fp cur b x y 8 qp,[[],[],[],[]]⟩
def mr (cur:ai) (b:List Int) (x y qp:Int):SqD:=⟨3,0,(ew cur b x y qp).1,0,0,[],(ew cur b x y qp).2.1⟩
def dK (r:SqD×Int) (s:SqD) (c:Int):SqD×Int:=if r.2<0\/c<r.2 then (s,c) else r
def ij (prev:ai) (b:List Int) (x y qp:Int) (reach:Nat):SqD×Int:=(JC prev b x y qp reach,dX (ar prev x y 8 (aZ prev b x y reach).vx (aZ prev b x y reach).vy) b (aZ prev b x y reach).vx (aZ prev b x y reach).vy)
def ik (cur:ai) (b:List Int) (x y qp:Int) (r:SqD×Int):SqD :=
 (dK (dK r (qz cur b x y qp) (4*(aG cur b x y 8).2+8)) (mr cur b x y qp) (ew cur b x y qp).2.2).1
def aI (src prev:ai) (key:Bool) (qp:Int) (reach:Nat) (cur:ai) (x y:Int):SqD :=
 if key then ik cur (aO src x y 8) x y qp (sq0,-1)
 else if pS prev (aO src x y 8) x y qp then sq0
 else ik cur (aO src x y 8) x y qp (ij prev (aO src x y 8) x y qp reach)
theorem lC (f:ai) (x y:Int) (n:Nat):(aO f x y n).length=n*n:=by
 unfold aO;rw [iY n _ _ (fun j _=>Mg),List.length_range]
theorem nP {f:ai} (h:au f.pix) (x y:Int) (n:Nat):au (aO f x y n):=by
 intro v hv;unfold aO at hv;obtain ⟨j,_,hv⟩:=List.mem_flatMap.1 hv;obtain ⟨i,_,rfl⟩:=List.mem_map.1 hv;exact h.at _
theorem gu (b:List Int) (q:Nat):(av b q).length=16:=by simp [av]
theorem gY {b:List Int} (h:au b) (q:Nat):au (av b q):=by
 intro v hv;unfold av at hv;obtain ⟨k,_,rfl⟩:=List.mem_map.1 hv;exact h.at _
theorem oL {a b:List Int} (ha:au a) (hb:au b):∀ x∈dH a b,-255<=x/\x<=255:=by
 intro x hx;unfold dH at hx;obtain ⟨i,hi⟩:=List.getElem?_of_mem hx;rw [List.getElem?_zipWith] at hi;cases h1:a[i]? with
 | none=>rw [h1] at hi;cases hi
 | some u =>
  cases h2:b[i]? with
  | none=>rw [h1,h2] at hi;cases hi
  | some v =>
   rw [h1,h2] at hi;simp only [LU] at hi;have:=ha u (Me h1);have:=hb v (Me h2);omega
theorem fe {a b:List Int} {n:Nat} (ha:a.length=n) (hb:b.length=n):(dH a b).length=n:=by rw [dH,List.length_zipWith,ha,hb,Nat.min_self]
theorem kf {n q:Nat} (hn:n=4\/n=8) {b p:List Int} (hb:b.length=n*n) (hp:p.length=n*n) (sb:au b) (sp:au p) (h:q<=15):(bA b p q).length=n*n/\cu (bA b p q) :=
 ⟨by unfold bA;rw [fo,fe hb hp],xD hn (fe hb hp) (oL sb sp) h⟩
theorem sZ (b top left:List Int) (corner:Int):∀ (ms:List Nat) (r:Nat×Int),(∀ m∈ms,m<=3)->r.1<=3->(eK b top left corner ms r).1<=3
 | [],r,_,h=>h
 | m :: ms,r,hm,h=>by
  unfold eK;refine sZ b top left corner ms _ (fun x hx=>hm x (Lx _ hx)) ?_
  split
  ·exact hm m (List.mem_cons_self ..)
  ·exact h
theorem iy (cur:ai) (b:List Int) (x y:Int) (n:Nat):(aG cur b x y n).1<=3:=sZ _ _ _ _ _ _ Mg Mg
theorem gW {cur:ai} (h:au cur.pix) (x y:Int) {n:Nat} (hn:1<=n) (m:Nat):(eR cur x y n m).length=n*n/\au (eR cur x y n m) :=
 ⟨by unfold eR;rw [cS,cH],jH (ix h _ _ _) (fX h _ _ _) (by rw [cH];exact hn) _ _⟩
theorem gK {n q:Nat} (hn:n=4\/n=8) {cur:ai} (h:au cur.pix) {b:List Int} (hb:b.length=n*n) (sb:au b) (x y:Int) (hq:q<=15):(fp cur b x y n q).length=n*n/\cu (fp cur b x y n q):=by
 obtain ⟨a,c⟩:=gW h x y (n:=n) Mf (aG cur b x y n).1;exact kf hn hb a sb c hq
theorem rH {f:ai} (h:au f.pix) (x y:Int) (n:Nat) (mode qp:Int) (l:List Int):au (dR f x y n mode qp l).pix:=by
 unfold dR dz;exact lB au _ _ _ h (fun l j _ hl=>vV hl (((jR _ _ _).drop _).take _) _)
theorem tI {q:Nat} (hq:q<=15) {b:List Int} (sb:au b) (x y:Int):∀ (k i:Nat) {cur:ai} (ms:List Int) (ls:List (List Int)) (c:Int),au cur.pix->(∀ z∈ms,0<=z/\z<=3)->(∀ l∈ls,l.length=16/\cu l) ->
  (eI b x y q k i cur ms ls c).1.length=ms.length+k/\(eI b x y q k i cur ms ls c).2.1.length=ls.length+k/\(∀ z∈(eI b x y q k i cur ms ls c).1,0<=z/\z<=3)/\∀ l∈(eI b x y q k i cur ms ls c).2.1,l.length=16/\cu l
 | 0,i,cur,ms,ls,c,h,h1,h2=>⟨rfl,rfl,h1,h2⟩
 | k+1,i,cur,ms,ls,c,h,h1,h2=>by
  unfold eI;have L:=gK (n:=4) (.inl rfl) h (gu b i) (gY sb i) (x+((i % 2:Nat):Int)*4) (y+((i / 2:Nat):Int)*4) hq;have M:=iy cur (av b i) (x+((i % 2:Nat):Int)*4) (y+((i / 2:Nat):Int)*4) 4;obtain ⟨a,b',c',d⟩:=tI hq sb x y k (i+1) (ms ++ [((aG cur (av b i) (x+((i % 2:Nat):Int)*4) (y+((i / 2:Nat):Int)*4) 4).1:Int)]) (ls ++ [fp cur (av b i) (x+((i % 2:Nat):Int)*4) (y+((i / 2:Nat):Int)*4) 4 q]) (c+4*(aG cur (av b i) (x+((i % 2:Nat):Int)*4) (y+((i / 2:Nat):Int)*4) 4).2)
   (rH h (x+((i % 2:Nat):Int)*4) (y+((i / 2:Nat):Int)*4) 4 (aG cur (av b i) (x+((i % 2:Nat):Int)*4) (y+((i / 2:Nat):Int)*4) 4).1 q (fp cur (av b i) (x+((i % 2:Nat):Int)*4) (y+((i / 2:Nat):Int)*4) 4 q))
   (fun z hz=>by rcases List.mem_append.1 hz with hz | hz;exact h1 z hz;rw [mSg] at hz;omega)
   (fun l hl=>by rcases List.mem_append.1 hl with hl | hl;exact h2 l hl;rw [mSg] at hl;rw [hl];exact L)
  rw [Ln,List.length_singleton] at a b';exact ⟨Mf,Mf,c',d⟩
def kL (s:kD):Prop:=-15<=s.vx/\s.vx<=15/\-15<=s.vy/\s.vy<=15
theorem mv {prev:ai} {b:List Int} {x y:Int} {P:Int->Int->Prop}:∀ (vs:List (Int×Int)) (s:kD),(∀ v∈vs,P v.1 v.2)->P s.vx s.vy->P (vs.foldl (dA prev b x y) s).vx (vs.foldl (dA prev b x y) s).vy
 | [],s,_,h=>h
 | v :: vs,s,hv,h=>by
  rw [List.foldl_cons];refine mv vs _ (fun u hu=>hv u (Lx _ hu)) ?_;unfold dA
  split
  ·exact hv v (List.mem_cons_self ..)
  ·exact h
theorem nu (prev:ai) (b:List Int) (x y:Int) {reach:Nat} (hr:reach<=7):kL (aZ prev b x y reach):=by
 have h1:kL (il prev b x y reach):=by
  refine mv (P:=fun a c=>-15<=a/\a<=15/\-15<=c/\c<=15) _ _ (fun v hv=>?_) (by simp [mO]);unfold nU at hv;obtain ⟨j,hj,hv⟩:=List.mem_flatMap.1 hv;obtain ⟨i,hi,rfl⟩:=List.mem_map.1 hv;rw [Md] at hi hj;simp only;omega
 refine mv (P:=fun a c=>-15<=a/\a<=15/\-15<=c/\c<=15) _ _ (fun v hv=>?_) h1;unfold tY at hv;have:=(List.mem_filter.1 hv).2;unfold kF at this;simp only [Bool.and_eq_true,decide_eq_true_eq] at this;obtain ⟨⟨⟨a,c⟩,d⟩,e⟩:=this;exact ⟨a,c,d,e⟩
theorem fU {P:SqD->Prop} {r:SqD×Int} {s:SqD} {c:Int} (h:0<=r.2->P r.1) (g:P s):P (dK r s c).1:=by
 unfold dK
 split
 ·exact g
 ·rename_i hn;exact h Mf
theorem ID {key:Bool} {ms:List Int} {ls:List (List Int)} (a:ms.length=4) (b:ls.length=4) (c:∀ z∈ms,0<=z/\z<=3) (d:∀ l∈ls,l.length=16/\cu l):gC key ⟨3,0,ms,0,0,[],ls⟩ :=
 ⟨Lm _,(fun _=>by show 2<=3;omega),(fun h=>Mv),(fun h=>by rcases h with h | h <;> cases h),(fun h=>Mv),fun _=>⟨a,b,c,d⟩⟩
theorem FJ {key:Bool} {m:Nat} {l:List Int} (a:m<=3) (b:l.length=64/\cu l):gC key ⟨2,m,[0,0,0,0],0,0,l,[[],[],[],[]]⟩ :=
 ⟨(by show 2<=3;omega),fun _=>Lm _,fun _=>a,fun _=>b,(fun h=>Mv),(fun h=>Mv)⟩
theorem Ga {vx vy:Int} {l:List Int} (a:-15<=vx/\vx<=15/\-15<=vy/\vy<=15) (b:l.length=64/\cu l):gC false ⟨1,0,[0,0,0,0],vx,vy,l,[[],[],[],[]]⟩ :=
 ⟨(by show 1<=3;omega),(fun h=>Mv),(fun h=>Mv),fun _=>b,fun _=>a,(fun h=>Mv)⟩
theorem Et:gC false sq0:=⟨(by show 0<=3;omega),(fun h=>Mv),(fun h=>Mv),(fun h=>by rcases h with h | h <;> cases h),(fun h=>Mv),(fun h=>Mv)⟩
theorem jy {src prev cur:ai} {key:Bool} {q reach:Nat} (hs:au src.pix) (hc:au cur.pix) (hp:key=false->au prev.pix) (hq:q<=15) (hr:reach<=7) (x y:Int):gC key (aI src prev key q reach cur x y):=by
 have hb:=lC src x y 8;have sb:=nP hs x y 8;unfold aI;generalize aO src x y 8=b at *
 have L:gC key (qz cur b x y q):=FJ (iy _ _ _ _ _) (gK (n:=8) (.inr rfl) hc hb sb x y hq);have S:gC key (mr cur b x y q):=by
  have F:=tI hq sb x y 4 0 [] [] 24 hc (fun z hz=>by cases hz) (fun l hl=>by cases hl);unfold mr ew;generalize eI b x y (q:Int) 4 0 cur [] [] 24=G at *
  obtain ⟨a,b,c,d⟩:=F;exact ID a b c d
 have R:∀ r:SqD×Int,(0<=r.2->gC key r.1)->gC key (ik cur b x y q r):=fun r h=>fU (fun _=>fU h L) S
 cases key with
 | true =>
  rw [if_pos rfl];exact R (sq0,-1) (fun h=>absurd h Mn)
 | false =>
  rw [if_neg Mg]
  split
  ·exact Et
  ·refine R _ (fun _=>?_)
   have v:=nu prev b x y hr;exact Ga v (kf (n:=8) (.inr rfl) hb (aD prev x y 8 (aZ prev b x y reach).vx (aZ prev b x y reach).vy) sb (cD (hp rfl) _ _ _ _ _) hq)
theorem EX {m:Wrt} (h:65536<=m.r):(Wrt.fix 2 m).n<=m.n+1:=by
 unfold Wrt.fix
 split
 ·unfold Wrt.fix
  rw [if_neg (by show ¬ m.r*256<16777216;omega)];show m.n+1<=m.n+1;omega
 ·show m.n<=m.n+1
  omega
theorem xJ {m:Wrt} {w:Int} (h1:65536<=w) (h2:w<=m.r-65536) (b:Bool):(m.narrow w b).n<=m.n+1:=by
 unfold Wrt.narrow;cases b with
 | true=>exact EX (m:=⟨m.p,m.lo+w,m.n,m.r-w⟩) (by show 65536<=m.r-w;omega)
 | false=>exact EX (m:=⟨m.p,m.lo,m.n,w⟩) h1
theorem CT {r p:Int} (h1:16777216<=r) (p1:31<=p) (p2:p<=2017):65536<=r / 2048*p/\r / 2048*p<=r-65536:=by
 have q1:8192<=r / 2048:=Mf;have q2:r / 2048*2048<=r:=Mf;generalize r / 2048=q at *
 have a:=Int.mul_le_mul_of_nonneg_left p1 (show 0<=q by omega);have b:=Int.mul_le_mul_of_nonneg_left p2 (show 0<=q by omega)
 constructor <;> omega
def WOk (n:Nat) (m:Wrt):Prop:=cd m/\m.n<=n
section
variable {n:Nat} {s:Wrt}
theorem WOk.le {k:Nat} (h:WOk n s) (hk:n<=k):WOk k s:=⟨h.1,Lz h.2 hk⟩
theorem ji (c:Nat) (b:Bool) (h:WOk n s) (hc:c<64):WOk (n+1) (wrC.bit c b s).2:=by
 refine ⟨(iW h.1 hc b).1,?_⟩;have hx:=qG h.1 hc;obtain ⟨w1,w2⟩:=CT h.1.r0 hx.1 hx.2;have:=xJ (m:=⟨s.p.set c (eO (s.p.getD c 0) b),s.lo,s.n,s.r⟩) w1 w2 b;have h2:=h.2;show (Wrt.narrow ⟨s.p.set c (eO (s.p.getD c 0) b),s.lo,s.n,s.r⟩ (s.r / 2048*s.p.getD c 0) b).n<=n+1;simp only at this;omega
theorem jO (b:Bool) (h:WOk n s):WOk (n+1) (wrC.flat b s).2:=by
 refine ⟨(iL h.1 b).1,?_⟩;have hr:=h.1.r0;have:=xJ (m:=s) (w:=s.r / 2) Mf Mf b;have h2:=h.2;show (s.narrow (s.r / 2) b).n<=n+1;omega
theorem lu {f:Nat->Nat} (hf:∀ i,f i<64) (v:Int):∀ (k i:Nat) {n:Nat} {s:Wrt},WOk n s->WOk (n+k) (aW wrC f v k i s).2/\(aW wrC f v k i s).1<=i+k
 | 0,i,n,s,h=>⟨h,Lm _⟩
 | k+1,i,n,s,h=>by
  have a:=ji (f i) (decide ((i:Int)<v)) h (hf i);unfold aW
  split
  ·obtain ⟨x,z⟩:=lu hf v k (i+1) a
   exact ⟨x.le Mf,Mf⟩
  ·exact ⟨a.le Mf,Mg⟩
theorem uH (u:Int):∀ (k i:Nat) {n:Nat} {s:Wrt},WOk n s->WOk (n+k) (bF wrC u k i s).2/\(bF wrC u k i s).1<=i+k
 | 0,i,n,s,h=>⟨h,Lm _⟩
 | k+1,i,n,s,h=>by
  have a:=jO (decide ((2:Int) ^ (i+1)<=u)) h;unfold bF
  split
  ·obtain ⟨x,z⟩:=uH u k (i+1) a
   exact ⟨x.le Mf,Mf⟩
  ·exact ⟨a.le Mf,Mg⟩
theorem yP (u:Int):∀ (k i:Nat) {n:Nat} {s:Wrt},WOk n s->WOk (n+k) (ck wrC u k i s).2
 | 0,i,n,s,h=>h
 | k+1,i,n,s,h=>by
  have a:=jO (decide (u / (2:Int) ^ k % 2=1)) h;unfold ck;exact (yP u k _ a).le Mf
theorem IM {base:Nat} (hb:base<=39) (v:Int) (h:WOk n s):WOk (n+40) (cY wrC base v s).2:=by
 obtain ⟨a,b⟩:=lu (f:=fun n=>base+17+min n 7) (fun i=>Mf) v 14 0 h;unfold cY
 split
 ·obtain ⟨p,q⟩:=uH (v-13) 13 0 a
  exact (yP (v-13) _ 1 p).le Mf
 ·exact a.le Mf
theorem uI {base:Nat} (hb:base<=39) (v:Int) (h:WOk n s):WOk (n+41) (aV wrC base v s).2:=by
 unfold aV;exact (IM hb _ (jO _ h)).le Mf
theorem kp {base last:Nat} (hb:base<=39) {l:List Int}:∀ (o:List Nat) (i:Nat) (out:List Int) {n:Nat} {s:Wrt},WOk n s->WOk (n+43*o.length) (aF wrC base last l o i out s).2
 | [],i,out,n,s,h=>h
 | a :: rest,i,out,n,s,h=>by
  have hl:(a :: rest).length=rest.length+1:=rfl;have fin:∀ {n:Nat} {s:Wrt},WOk n s->∀ (br:Bool) (x:Int),WOk (n+1+43*rest.length) (dC wrC base last l a rest i out br x s).2:=by
   intro n s h br x;unfold dC
   split
   ·exact h.le Mf
   split
   ·have B:=ji (base+9+min i 7) (bO l rest) h Mf
    split
    ·exact B.le Mf
    ·exact kp hb rest (i+1) _ B
   ·exact (kp hb rest (i+1) _ h).le Mf
  rw [gF]
  split
  ·have A:=ji (base+1+min i 7) (decide (l.getD a 0≠0)) h Mf
   split
   ·exact (fin (uI hb (l.getD a 0) A) true _).le Mf
   ·exact (kp hb rest (i+1) _ A).le Mf
  ·exact (fin (uI hb (l.getD a 0) h) false _).le Mf
theorem jN {side:Nat} (hs:side=4\/side=8) (l:List Int) (h:WOk n s):WOk (n+1+43*(side*side)) (aT wrC side l s).2:=by
 have hb:iH side<=39:=by unfold iH;split <;> omega
 have A:=ji (iH side) (!cB l) h Mf;have MR:(aC side).length=side*side:=by rcases hs with rfl | rfl;exact fN;exact fO
 unfold aT
 split
 ·have:=kp hb (last:=side*side-1) (l:=l) (aC side) 0 (List.replicate (side*side) 0) A
  rw [MR] at this;exact this
 ·exact A.le Mf
theorem jP (v:Int) (h:WOk n s):WOk (n+2) (bN wrC v s).2:=by
 have A:=ji 3 (decide (1<min (max v 0) 3)) h Mf;unfold bN kg
 split
 ·exact ji 5 _ A Mf
 ·exact ji 4 _ A Mf
theorem jQ (v:Int) (h:WOk n s):WOk (n+16) (bR wrC v s).2:=by
 have A:=ji 6 (decide (min (max v (-15)) 15≠0)) h Mf;unfold bR fY
 split
 ·unfold fZ
  exact (lu (f:=fun n=>7+min n 6) (fun i=>Mf) _ 14 0 (jO _ A)).1.le Mf
 ·exact A.le Mf
theorem uJ (qm:List Int) (ql:List (List Int)):∀ (k:Nat) (ms:List Int) (ls:List (List Int)) {n:Nat} {s:Wrt},WOk n s->WOk (n+691*k) (bn wrC qm ql k ms ls s).2
 | 0,ms,ls,n,s,h=>h
 | k+1,ms,ls,n,s,h=>by
  have A:=jP (qm.getD ms.length 0) h;have B:=jN (side:=4) (.inl rfl) (ql.getD ls.length []) A;rw [li]
  split
  ·exact B.le Mf
  ·exact (uJ qm ql k _ _ B).le Mf
theorem Em (q:pZ) (k:Nat) (h:WOk n s):WOk (n+2785) (cf wrC q k s).2:=by
 unfold cf
 split
 ·have A:=uJ q.modes q.small 4 [] [] h
  split <;> exact A.le Mf
 split
 ·exact h.le Mf
 split
 ·have A:=jN (side:=8) (.inr rfl) q.large (jQ q.vy (jQ q.vx h))
  split <;> exact A.le Mf
 ·have A:=jN (side:=8) (.inr rfl) q.large (jP q.mode h)
  split <;> exact A.le Mf
theorem nA (key:Bool) (q:pZ) (h:WOk n s):WOk (n+2788) (di wrC key q s).2:=by
 have A:WOk (n+3) (bK wrC key q.kind s).2:=by
  unfold bK;cases key with
  | true=>exact (jO _ h).le Mf
  | false=>exact (lu (f:=fun n=>min n 63) (fun i=>Mf) _ 3 0 h).1
 have B:=Em q (bK wrC key q.kind s).1 A;unfold di
 split <;> exact B.le Mf
end
theorem Bf {key:Bool} {prev:ai} {qp:Int} {ch:ai->Int->Int->SqD}:∀ (k i:Nat) (f:ai) {n:Nat} {m:Wrt},WOk n m->WOk (n+2788*k) (encGo key prev qp ch k i f m).2
 | 0,i,f,n,m,h=>h
 | k+1,i,f,n,m,h=>by
  unfold encGo;exact (Bf k (i+1) _ (nA key _ h)).le Mf
theorem tS {f prev:ai} (h:au f.pix) {s:SqD} (g:s.kind<2->au prev.pix) (x y qp:Int):au (bf f prev x y qp s).pix:=by
 have lay:∀ (n:Nat) {b:List Int},au b->au (dz f x y n b).pix:=fun n b hb=>lB au _ _ _ h (fun l j _ hl=>vV hl ((hb.drop _).take _) _)
 unfold bf
 split
 ·exact lay 8 (cD (g Mf) _ _ _ _ _)
 split
 ·exact lay 8 (jR _ _ _)
 split
 ·exact rH h _ _ _ _ _ _
 ·have:∀ (ys:List Nat) (f:ai),au f.pix->au (ys.foldl (cj x y qp s) f).pix:=by
   intro ys
   induction ys with
   | nil=>intro f h;exact h
   | cons a ys ih=>intro f h;rw [List.foldl_cons];exact ih _ (rH h _ _ _ _ _ _)
  exact this _ f h
def cG (src prev:ai) (key:Bool) (qp:Int) (reach:Nat):ai×Wrt:=encGo key prev qp (aI src prev key qp reach) (src.W*src.H / 64).toNat 0 (ed src.W src.H 128) fB
def bT (src prev:ai) (key:Bool) (qp:Int) (reach:Nat):kH:=⟨if key then 1 else 2,qp :: gS (cG src prev key qp reach).2⟩
theorem JM {p:Prop} (h:p:=by
 rw [h1,h2];simp only [Bool.true_eq_false,Bool.false_eq_true,if_false];rw [if_neg Mg,if_neg Mq,if_neg (by have:=hl2;unfold bT at this;simp only at this;omega)]):p:=h
theorem lz {src prev:ai} {key:Bool} {q reach:Nat} (hs:FrOk src) (hp:key=false->eP prev src.W src.H=true) (hq:q<=15) (hr:reach<=7) :
  EY (bT src prev key q reach) prev src.W src.H=.ok (cG src prev key q reach).1/\(bT src prev key q reach).data.length<=65000:=by
 have Xi:key=false->au prev.pix:=fun e=>by
  have:=hp e;unfold eP at this;rw [Bool.and_eq_true,Bool.and_eq_true,dL] at this;exact this.1.1.sam
 have hn:io src.W src.H 128=true:=gV.2 ⟨⟨hs.w0,hs.w1,hs.w8⟩,⟨hs.h0,hs.h1,hs.h8⟩,Mn,Mn⟩;have hC:(src.W*src.H / 64).toNat<=16:=by
  have h2:src.W*src.H<=32*32:=Int.mul_le_mul hs.w1 hs.h1 (by have:=hs.h0;omega) Mf;omega
 have Vt:∀ f x y,au f.pix->gC key (aI src prev key q reach f x y):=fun f x y hf=>jy hs.sam hf Xi hq hr x y
 obtain ⟨a,b,c⟩:=Bg (key:=key) (prev:=prev) (qp:=(q:Int)) (ch:=aI src prev key q reach) (P:=fun f=>au f.pix) Vt
  (fun f x y hf=>tS hf (fun hk=>by
   cases key with
   | true=>have:=(Vt f x y hf).key_ rfl;omega
   | false=>exact Xi rfl) _ _ _) (src.W*src.H / 64).toNat 0 (lR hn).sam iD
 have Vs:=(Bf (key:=key) (prev:=prev) (qp:=(q:Int)) (ch:=aI src prev key q reach) (src.W*src.H / 64).toNat 0 (ed src.W src.H 128) (n:=4) (m:=fB) ⟨iD,Lm _⟩).2;have MR:=EJ (cG src prev key q reach).2;have hl2:(bT src prev key q reach).data.length<=65000:=by
  show (gS (cG src prev key q reach).2).length+1<=65000;have:(cG src prev key q reach).2.n<=4+2788*(src.W*src.H / 64).toNat:=Vs;omega
 refine ⟨?_,hl2⟩;have hu:=Bh (cG src prev key q reach).2;have JbG:=c (zy a) (WIn.refl _) (DZ hu);have hrd:Iw (bT src prev key q reach)=none:=by
  unfold Iw bT;cases key with
  | true =>
   simp only [if_true];have h1:rj 1=true:=rfl;have h2:qC 1=false:=rfl;exact JM
  | false =>
   simp only [Bool.false_eq_true,if_false];have h1:rj 2=true:=rfl;have h2:qC 2=false:=rfl;exact JM
 unfold EY;rw [if_neg (by rw [hn];simp),hrd];cases key with
 | true =>
  have hk:(bT src prev true q reach).kind=1:=rfl;simp only [hk];rw [if_neg Mf,if_neg Mf,if_neg Mf];exact JbG
 | false =>
  have hk:(bT src prev false q reach).kind=2:=rfl;simp only [hk];rw [if_neg (fun h=>by rw [hp rfl] at h;cases h.2),if_neg Mf,if_neg Mf];exact JbG
theorem gC.norm_ok {key:Bool} {s:SqD} (h:gC key s):Ky (kV s):=by
 unfold kV
 split
 ·rename_i h3
  exact ⟨(by show 3<=3;omega),(by show 0<=3;omega),(fun h=>by rcases h with h | h <;> cases h),(by show -15<=(0:Int)/\(0:Int)<=15/\-15<=(0:Int)/\(0:Int)<=15;omega),fun _=>h.small h3⟩
 split
 ·exact ⟨(by show 0<=3;omega),(by show 0<=3;omega),(fun h=>by rcases h with h | h <;> cases h),(by show -15<=(0:Int)/\(0:Int)<=15/\-15<=(0:Int)/\(0:Int)<=15;omega),(fun h=>Mv)⟩
 split
 ·rename_i h1
  exact ⟨(by show 1<=3;omega),(by show 0<=3;omega),fun _=>h.large (.inl h1),h.vec h1,(fun h=>Mv)⟩
 ·have h2:s.kind=2:=by have:=h.kind;omega
  exact ⟨(by show 2<=3;omega),h.mode h2,fun _=>h.large (.inr h2),(by show -15<=(0:Int)/\(0:Int)<=15/\-15<=(0:Int)/\(0:Int)<=15;omega),(fun h=>Mv)⟩
theorem FN {key:Bool} {f prev:ai} (h:FrOk f) {s:SqD} (hw:gC key s) (g:s.kind<2->au prev.pix) {x y:Int} (hx:0<=x) (NA:x+8<=f.W) (hy:0<=y) (NM:y+8<=f.H) (qp:Int):FrOk (bf f prev x y qp s):=by
 rw [<- rC hw.kind];refine FO h (fun hk=>g ?_) hx NA hy NM hw.norm_ok qp;unfold kV at hk
 split at hk
 ·exact absurd hk (by show ¬ 3<2;omega)
 rename_i h3
 split at hk
 ·omega
 split at hk
 ·omega
 ·exact absurd hk (by show ¬ 2<2;omega)
def AJ (W Nk:Nat):Nat:=Nk / W / 8*(W / 8)+Nk % W / 8
theorem Kp {u i:Nat} (hu:u=1\/u=2\/u=3\/u=4):(i:Int)*8 % ((8*u:Nat):Int)=((i % u*8:Nat):Int)/\(i:Int)*8 / ((8*u:Nat):Int)*8=((i / u*8:Nat):Int):=by
 rcases hu with rfl | rfl | rfl | rfl <;> constructor <;> omega
theorem yF {u i Nk:Nat} (hu:u=1\/u=2\/u=3\/u=4):AJ (8*u) Nk=i↔(i % u*8<=Nk % (8*u)/\Nk % (8*u)<i % u*8+8)/\i / u*8<=Nk / (8*u)/\Nk / (8*u)<i / u*8+8:=by
 unfold AJ;generalize hr:Nk / (8*u)=r;have hc:Nk % (8*u)<8*u:=Nat.mod_lt _ (by rcases hu with rfl | rfl | rfl | rfl <;> omega);generalize Nk % (8*u)=c at *
 rw [Nat.mul_div_cancel_left u Mf];rcases hu with rfl | rfl | rfl | rfl <;> omega
section
variable {key:Bool} {prev:ai} {qp:Int} {ch:ai->Int->Int->SqD} {W Hh:Nat}
theorem tB {u v:Nat} (hu:u=1\/u=2\/u=3\/u=4) (hv:v=1\/v=2\/v=3\/v=4) {Q:Nat->Int->Prop}
  (Ts:∀ f x y,FrOk f->gC key (ch f x y)) (hpv:key=false->au prev.pix)
  (UW:∀ (f:ai) (x y Nk:Nat),FrOk f->f.W=((8*u:Nat):Int)->f.H=((8*v:Nat):Int)->x+8<=8*u->y+8<=8*v->x % 8=0->y % 8=0->(x<=Nk % (8*u)/\Nk % (8*u)<x+8)->(y<=Nk / (8*u)/\Nk / (8*u)<y+8) ->
   Q Nk ((bf f prev x y qp (ch f x y)).pix.getD Nk 0)) :
  ∀ (k i:Nat) {f:ai} {m:Wrt},i+k=u*v->FrOk f->f.W=((8*u:Nat):Int)->f.H=((8*v:Nat):Int)->(∀ Nk,AJ (8*u) Nk<i->Q Nk (f.pix.getD Nk 0)) ->
   FrOk (encGo key prev qp ch k i f m).1/\(encGo key prev qp ch k i f m).1.W=((8*u:Nat):Int)/\(encGo key prev qp ch k i f m).1.H=((8*v:Nat):Int)/\∀ Nk,AJ (8*u) Nk<u*v->Q Nk ((encGo key prev qp ch k i f m).1.pix.getD Nk 0)
 | 0,i,f,m,hik,hf,hW,hH,hq=>⟨hf,hW,hH,fun Nk hi=>hq Nk Mf⟩
 | k+1,i,f,m,hik,hf,hW,hH,hq=>by
  have hi:i<u*v:=Mf;have hx:i % u*8+8<=8*u:=by rcases hu with rfl | rfl | rfl | rfl <;> omega
  have hy:i / u*8+8<=8*v:=by
   have:i / u<v:=Nat.div_lt_of_lt_mul hi;omega
  obtain ⟨e1,e2⟩:=Kp (i:=i) hu;unfold encGo;rw [hW,e1,e2];have hs:=Ts f ((i % u*8:Nat):Int) ((i / u*8:Nat):Int) hf;have hg:(ch f ((i % u*8:Nat):Int) ((i / u*8:Nat):Int)).kind<2->au prev.pix:=fun hk=>by
   cases key with
   | true=>have:=hs.key_ rfl;omega
   | false=>exact hpv rfl
  have hw:=qo f prev ((i % u*8:Nat):Int) ((i / u*8:Nat):Int) qp (ch f ((i % u*8:Nat):Int) ((i / u*8:Nat):Int));refine tB hu hv Ts hpv UW k (i+1) Mf (FN hf hs hg Mf (by rw [hW];omega) Mf (by rw [hH];omega) qp) (hw.1.trans hW) (hw.2.trans hH) (fun Nk Jgi=>?_);by_cases h:AJ (8*u) Nk=i
  ·obtain ⟨a,b⟩:=(yF hu).1 h
   exact UW f (i % u*8) (i / u*8) Nk hf hW hH hx hy Mf Mf a b
  ·have Jaw:=(fun hh=>h ((yF hu).2 ⟨⟨hh.1,hh.2.1⟩,hh.2.2.1,hh.2.2.2⟩):¬ (i % u*8<=Nk % (8*u)/\Nk % (8*u)<i % u*8+8/\i / u*8<=Nk / (8*u)/\Nk / (8*u)<i / u*8+8))
   have MR:(i / u*8+8)*(8*u)<=f.pix.length:=by
    have h1:=hf.len;rw [hW,hH] at h1;have h2:(i / u*8+8)*(8*u)<=8*v*(8*u):=Nat.mul_le_mul_right _ hy;have h3:((f.pix.length:Nat):Int)=((8*u*(8*v):Nat):Int):=by rw [h1];push_cast;rfl
    have h4:f.pix.length=8*u*(8*v):=by exact_mod_cast h3
    rw [h4,Nat.mul_comm (8*u)];exact h2
   rw [DG hW hx MR Jaw];exact hq Nk Mf
end
theorem FrOk.units {f:ai} (h:FrOk f):∃ u v:Nat,(u=1\/u=2\/u=3\/u=4)/\(v=1\/v=2\/v=3\/v=4)/\f.W=((8*u:Nat):Int)/\f.H=((8*v:Nat):Int)/\(f.W*f.H / 64).toNat=u*v/\f.pix.length=8*u*(8*v):=by
 have:=h.w0;have:=h.w1;have:=h.w8;have:=h.h0;have:=h.h1;have:=h.h8;have hl:=h.len;refine ⟨(f.W / 8).toNat,(f.H / 8).toNat,Mf,Mf,Mf,Mf,?_,?_⟩
 ·have hw:f.W=8\/f.W=16\/f.W=24\/f.W=32:=Mf
  have hh:f.H=8\/f.H=16\/f.H=24\/f.H=32:=Mf;rcases hw with e | e | e | e <;> rcases hh with g | g | g | g <;> rw [e,g] <;> rfl
 ·have hw:f.W=8\/f.W=16\/f.W=24\/f.W=32:=Mf
  have hh:f.H=8\/f.H=16\/f.H=24\/f.H=32:=Mf;rcases hw with e | e | e | e <;> rcases hh with g | g | g | g <;> rw [e,g] at hl |- <;> (simp at hl |-;omega)
theorem JD {u v Nk:Nat} (hu:u=1\/u=2\/u=3\/u=4) (h:Nk<8*u*(8*v)):AJ (8*u) Nk<u*v:=by
 unfold AJ;have hr:Nk / (8*u)<8*v:=Nat.div_lt_of_lt_mul h;have hc:Nk % (8*u)<8*u:=Nat.mod_lt _ (by rcases hu with rfl | rfl | rfl | rfl <;> omega);generalize Nk / (8*u)=r at *
 generalize Nk % (8*u)=c at *
 rw [Nat.mul_div_cancel_left u Mf];have h1:r / 8+1<=v:=Mf;have h2:(r / 8+1)*u<=v*u:=Nat.mul_le_mul_right u h1;rw [Nat.add_mul,Nat.one_mul,Nat.mul_comm v u] at h2;omega
theorem EG {src prev:ai} {key:Bool} {q reach:Nat} (hs:FrOk src) (hp:key=false->au prev.pix) (hq:q<=15) (hr:reach<=7) {Q:Nat->Int->Prop}
  (UW:∀ (f:ai) (W Hh x y Nk:Nat),FrOk f->f.W=(W:Int)->f.H=(Hh:Int)->src.W=(W:Int)->src.H=(Hh:Int)->x+8<=W->y+8<=Hh->x % 8=0->y % 8=0->(x<=Nk % W/\Nk % W<x+8)->(y<=Nk / W/\Nk / W<y+8) ->
   Q Nk ((bf f prev x y q (aI src prev key q reach f x y)).pix.getD Nk 0)) :
  FrOk (cG src prev key q reach).1/\(cG src prev key q reach).1.W=src.W/\(cG src prev key q reach).1.H=src.H/\∀ Nk,Nk<src.pix.length->Q Nk ((cG src prev key q reach).1.pix.getD Nk 0):=by
 obtain ⟨u,v,hu,hv,eW,eH,eC,eL⟩:=hs.units;have hn:io src.W src.H 128=true:=gV.2 ⟨⟨hs.w0,hs.w1,hs.w8⟩,⟨hs.h0,hs.h1,hs.h8⟩,Mn,Mn⟩;have A:=tB (key:=key) (prev:=prev) (qp:=(q:Int)) (ch:=aI src prev key q reach) hu hv (Q:=Q) (fun f x y hf=>jy hs.sam hf.sam hp hq hr x y) hp
  (fun f x y Nk hf hW hH hx hy hx8 hy8 a b=>UW f (8*u) (8*v) x y Nk hf hW hH eW eH hx hy hx8 hy8 a b) (u*v) 0 (f:=ed src.W src.H 128) (m:=fB) Mf (lR hn) eW eH (fun Nk h=>Mf)
 unfold cG;rw [eC];obtain ⟨a,b,c,d⟩:=A;exact ⟨a,b.trans eW.symm,c.trans eH.symm,fun Nk hi=>d Nk (JD hu Mf)⟩
theorem qH {b:List Int} {n r c:Nat} (hc:c<n):((b.drop (r*n)).take n).getD c 0=b.getD (r*n+c) 0:=by
 rw [Le,Le,LI,if_pos hc,LH]
theorem Fi {f:ai} {W x y n r c:Nat} (hW:f.W=(W:Int)) (hr:r<n) (hc:c<n):(aO f x y n).getD (r*n+c) 0=f.pix.getD ((y+r)*W+(x+c)) 0:=by
 rw [<- qH hc];unfold aO;rw [mE _ n _ r ML (fun j _=>Mg)];rw [List.getElem_range,Le,LG,List.getElem?_range hc];show f.pix.getD (((y:Int)+(r:Int))*f.W+(x:Int)+(c:Int)).toNat 0=_
 congr 1
 rw [hW,<- LW,<- Int.natCast_mul,<- LW,<- LW,Int.toNat_natCast];omega
theorem De {m:Wrt} (h:m.lo=0):gS m=[]:=by
 unfold gS aM;rw [h];have e:((List.range m.n).map fun i=>(0:Int) / 256 ^ (m.n-1-i) % 256)=List.replicate m.n 0:=List.eq_replicate_iff.2 ⟨Mg,fun x hx=>by
  obtain ⟨i,_,rfl⟩:=List.mem_map.1 hx;simp⟩
 rw [e];unfold cz;rw [List.reverse_replicate];have:∀ k:Nat,(List.replicate k (0:Int)).dropWhile (· == 0)=[]:=by
  intro k
  induction k with
  | zero=>rfl
  | succ k ih=>rw [List.replicate_succ,List.dropWhile_cons_of_pos (by rfl),ih]
 rw [this]
 rfl
theorem xB {f p p':ai} {x y qp:Int} {s:SqD} (h:2<=s.kind):bf f p x y qp s=bf f p' x y qp s:=by
 have h0:¬ s.kind=0:=Mf;have h1:¬ s.kind=1:=Mf;unfold bf;rw [if_neg h0,if_neg h1,if_neg h0,if_neg h1]
theorem pD {p p':ai} {qp:Int} {ch:ai->Int->Int->SqD} (UW:∀ f x y,au f.pix->gC true (ch f x y)):∀ (k i:Nat) {f:ai} {m:Wrt},au f.pix->encGo true p qp ch k i f m=encGo true p' qp ch k i f m
 | 0,i,f,m,h=>rfl
 | k+1,i,f,m,h=>by
  unfold encGo;generalize (i:Int)*8 / f.W*8=y;generalize (i:Int)*8 % f.W=x;have hk:=(UW f x y h).key_ rfl;rw [xB (p':=p') hk];exact pD UW k (i+1) (tS h (fun h2=>Mf) _ _ _)
theorem EH {src p p':ai} {q reach:Nat} (hs:FrOk src) (hq:q<=15) (hr:reach<=7):cG src p true q reach=cG src p' true q reach:=by
 have hn:io src.W src.H 128=true:=gV.2 ⟨⟨hs.w0,hs.w1,hs.w8⟩,⟨hs.h0,hs.h1,hs.h8⟩,Mn,Mn⟩;have e:aI src p true q reach=aI src p' true q reach:=by
  funext c x y
  unfold aI;rw [if_pos rfl,if_pos rfl]
 unfold cG;rw [e];exact pD (ch:=aI src p' true q reach) (fun f x y hf=>jy hs.sam hf (fun h=>Mv) hq hr x y) _ _ (lR hn).sam
def iV (h a b:Int):Prop:=-h<=a-b/\a-b<=h
theorem qj {f:ai} {W x y n Nk:Nat} {b:List Int} (hW:f.W=(W:Int)) (hw:0<W) (hb:b.length=n*n) (hx:x+n<=W) (hp:(y+n)*W<=f.pix.length) (h1:x<=Nk % W/\Nk % W<x+n) (h2:y<=Nk / W/\Nk / W<y+n) :
  (dz f x y n b).pix.getD Nk 0=b.getD ((Nk / W-y)*n+(Nk % W-x)) 0:=by
 show ((List.range n).foldl (fC f.W x y n b) f.pix).getD Nk 0=_;rw [hW];have h:=(Bn (b:=b) hw hx (fun j hj=>by
  rw [Lp,Lq,hb];have:(j+1)*n<=n*n:=Nat.mul_le_mul_right _ hj;rw [Nat.add_mul,Nat.one_mul] at this;omega) h1 h2.1 n (Lm _) hp).2 h2.2
 rw [h,qH Mf]
theorem vU {p:Prop} (h:p:=by
 rw [Le,List.getElem?_zipWith,Le,Le,Lf Mf,Lf Mf]
 rfl):p:=h
theorem qB {n q:Nat} (hn:n=4\/n=8) {b p:List Int} (hb:b.length=n*n) (hp:p.length=n*n) (sb:au b) (hq:q<=15) {k:Nat} (hk:k<n*n):iV (bh q / 2) ((fS p (bA b p q) q).getD k 0) (b.getD k 0):=by
 have hl:(dH b p).length=n*n:=fe hb hp;have hr:=un hn hl hq hk;have hrl:(bZ (bA b p q) q).length=n*n:=by rw [fP];unfold bA;rw [fo,hl]
 have e1:(dH b p).getD k 0=b.getD k 0-p.getD k 0:=by
  unfold dH;exact vU
 have e2:(fS p (bA b p q) q).getD k 0=ep (p.getD k 0+(bZ (bA b p q) q).getD k 0):=by
  unfold fS;exact vU
 have hbk:=sb.at k;rw [e2];unfold bA at hr |-
 rw [e1] at hr;unfold iV ep;generalize (bZ (ez (dH b p) q) q).getD k 0=t at *
 omega
theorem ri {f:ai} {W Hh y n:Nat} (hf:FrOk f) (hW:f.W=(W:Int)) (hH:f.H=(Hh:Int)) (hy:y+n<=Hh):(y+n)*W<=f.pix.length:=by
 obtain ⟨u,v,_,_,e1,e2,_,e3⟩:=hf.units;have w1:W=8*u:=by have:=hW.symm.trans e1;exact_mod_cast this
 have w2:Hh=8*v:=by have:=hH.symm.trans e2;exact_mod_cast this
 rw [e3,w1,Nat.mul_comm (8*u)];exact Nat.mul_le_mul_right _ Mf
theorem Kq {src:ai} {W x y Nk:Nat} (hW:src.W=(W:Int)) (hw:0<W) (h1:x<=Nk % W/\Nk % W<x+8) (h2:y<=Nk / W/\Nk / W<y+8):(aO src x y 8).getD ((Nk / W-y)*8+(Nk % W-x)) 0=src.pix.getD Nk 0:=by
 rw [Fi hW Mf Mf]
 congr 1
 have JdQ:=Nat.div_add_mod Nk W;rw [Nat.mul_comm] at JdQ;rw [show y+(Nk / W-y)=Nk / W by omega];omega
def jz (f:ai) (b:List Int) (x y qp:Int):Nat->ai
 | 0=>f
 | i+1=>dR (jz f b x y qp i) (x+((i % 2:Nat):Int)*4) (y+((i / 2:Nat):Int)*4) 4 (aG (jz f b x y qp i) (av b i) (x+((i % 2:Nat):Int)*4) (y+((i / 2:Nat):Int)*4) 4).1 qp (fp (jz f b x y qp i) (av b i) (x+((i % 2:Nat):Int)*4) (y+((i / 2:Nat):Int)*4) 4 qp)
def kz (f:ai) (b:List Int) (x y qp:Int) (i:Nat):Int:=((aG (jz f b x y qp i) (av b i) (x+((i % 2:Nat):Int)*4) (y+((i / 2:Nat):Int)*4) 4).1:Int)
def ky (f:ai) (b:List Int) (x y qp:Int) (i:Nat):List Int:=fp (jz f b x y qp i) (av b i) (x+((i % 2:Nat):Int)*4) (y+((i / 2:Nat):Int)*4) 4 qp
theorem qU (f:ai) (b:List Int) (x y qp:Int):∀ (k i:Nat) (ms:List Int) (ls:List (List Int)) (c:Int),∃ c',eI b x y qp k i (jz f b x y qp i) ms ls c=(ms ++ (List.range' i k).map (kz f b x y qp),ls ++ (List.range' i k).map (ky f b x y qp),c')
 | 0,i,ms,ls,c=>⟨c,by simp [eI]⟩
 | k+1,i,ms,ls,c=>by
  obtain ⟨c',h⟩:=qU f b x y qp k (i+1) (ms ++ [kz f b x y qp i]) (ls ++ [ky f b x y qp i]) (c+4*(aG (jz f b x y qp i) (av b i) (x+((i % 2:Nat):Int)*4) (y+((i / 2:Nat):Int)*4) 4).2);refine ⟨c',?_⟩;rw [List.range'_succ,Ma,Ma];have e:ms ++ kz f b x y qp i :: (List.range' (i+1) k).map (kz f b x y qp)=(ms ++ [kz f b x y qp i]) ++ (List.range' (i+1) k).map (kz f b x y qp):=Mg;have e2:ls ++ ky f b x y qp i :: (List.range' (i+1) k).map (ky f b x y qp)=(ls ++ [ky f b x y qp i]) ++ (List.range' (i+1) k).map (ky f b x y qp):=Mg;rw [e,e2,<- h]
  rfl
theorem Ec (f p:ai) (b:List Int) (x y qp:Int):bf f p x y qp (mr f b x y qp)=jz f b x y qp 4:=by
 obtain ⟨c',h⟩:=qU f b x y qp 4 0 [] [] 24;have e:ew f b x y qp=([kz f b x y qp 0,kz f b x y qp 1,kz f b x y qp 2,kz f b x y qp 3],[ky f b x y qp 0,ky f b x y qp 1,ky f b x y qp 2,ky f b x y qp 3],c'):=h;unfold mr;rw [e];have c:∀ i,jz f b x y qp (i+1)=dR (jz f b x y qp i) (x+((i % 2:Nat):Int)*4) (y+((i / 2:Nat):Int)*4) 4 (kz f b x y qp i) qp (ky f b x y qp i):=fun _=>rfl
 have c0:jz f b x y qp 0=f:=rfl;clear h e;generalize kz f b x y qp=M at *
 generalize ky f b x y qp=Ls at *
 generalize jz f b x y qp=C at *
 rw [c 3,c 2,c 1,c 0,c0]
 rfl
theorem zr (f:ai) (b:List Int) (x y qp:Int):∀ i,(jz f b x y qp i).W=f.W/\(jz f b x y qp i).H=f.H
 | 0=>⟨rfl,rfl⟩
 | i+1=>by
  obtain ⟨a,c⟩:=zr f b x y qp i;exact ⟨(Ge _ _ _ _ _ _ _).1.trans a,(Ge _ _ _ _ _ _ _).2.trans c⟩
theorem Bd {f:ai} (hf:FrOk f) {W Hh x y q:Nat} (hW:f.W=(W:Int)) (hH:f.H=(Hh:Int)) (hx:x+8<=W) (hy:y+8<=Hh) {b:List Int} (sb:au b) (hq:q<=15):∀ i,i<=4->FrOk (jz f b x y q i)
 | 0,_=>hf
 | i+1,hi=>by
  have h:=Bd hf hW hH hx hy sb hq i Mf;obtain ⟨a,c⟩:=zr f b x y q i;have L:=gK (n:=4) (.inl rfl) h.sam (gu b i) (gY sb i) ((x:Int)+((i % 2:Nat):Int)*4) ((y:Int)+((i / 2:Nat):Int)*4) hq;refine iq h Mf ?_ Mf ?_ L.1 Mf _ _
  ·rw [a,hW];omega
  ·rw [c,hH];omega
theorem tu {f:ai} (hf:FrOk f) {W Hh x y q:Nat} (hW:f.W=(W:Int)) (hH:f.H=(Hh:Int)) (hx:x+8<=W) (hy:y+8<=Hh) {b:List Int} (hb:b.length=64) (sb:au b) (hq:q<=15) {Nk:Nat} (h1:x<=Nk % W/\Nk % W<x+8) (h2:y<=Nk / W/\Nk / W<y+8) :
  ∀ i,i<=4->(Nk / W-y) / 4*2+(Nk % W-x) / 4<i->iV (bh q / 2) ((jz f b x y q i).pix.getD Nk 0) (b.getD ((Nk / W-y)*8+(Nk % W-x)) 0)
 | 0,_,h=>by omega
 | i+1,hi,h=>by
  have MU:=Bd hf hW hH hx hy sb hq i Mf;obtain ⟨a,c⟩:=zr f b x y q i;have hx':x+i % 2*4+4<=W:=Mf;have hy':y+i / 2*4+4<=Hh:=Mf;have ex:(x:Int)+((i % 2:Nat):Int)*4=((x+i % 2*4:Nat):Int):=by push_cast;rfl
  have ey:(y:Int)+((i / 2:Nat):Int)*4=((y+i / 2*4:Nat):Int):=by push_cast;rfl
  have MR:=ri MU (a.trans hW) (c.trans hH) hy';show iV (bh q / 2) ((dR (jz f b x y q i) ((x:Int)+((i % 2:Nat):Int)*4) ((y:Int)+((i / 2:Nat):Int)*4) 4 (aG (jz f b x y q i) (av b i) ((x:Int)+((i % 2:Nat):Int)*4) ((y:Int)+((i / 2:Nat):Int)*4) 4).1 q (fp (jz f b x y q i) (av b i) ((x:Int)+((i % 2:Nat):Int)*4) ((y:Int)+((i / 2:Nat):Int)*4) 4 q)).pix.getD Nk 0) _;rw [ex,ey];have NS:=gu b i;have hbi:=gY sb i;by_cases he:(Nk / W-y) / 4*2+(Nk % W-x) / 4=i
  ·have P:=gW MU.sam ((x+i % 2*4:Nat):Int) ((y+i / 2*4:Nat):Int) (n:=4) Mf (aG (jz f b x y q i) (av b i) ((x+i % 2*4:Nat):Int) ((y+i / 2*4:Nat):Int) 4).1
   unfold dR;rw [qj (n:=4) (a.trans hW) Mf (by rw [fT (by rw [cS,cH];exact (gK (n:=4) (.inl rfl) MU.sam NS hbi _ _ hq).1.symm),cS,cH]) hx' MR Mf Mf];have N:=qB (n:=4) (.inl rfl) NS P.1 hbi hq (k:=(Nk / W-(y+i / 2*4))*4+(Nk % W-(x+i % 2*4))) Mf;have eb:(av b i).getD ((Nk / W-(y+i / 2*4))*4+(Nk % W-(x+i % 2*4))) 0=b.getD ((Nk / W-y)*8+(Nk % W-x)) 0:=by
    unfold av;rw [Le,LG,List.getElem?_range Mf];show b.getD _ 0=_
    congr 1
    omega
   rw [eb] at N;exact N
  ·unfold dR
   rw [(kS (a.trans hW) hx' MR Mf).1];exact tu hf hW hH hx hy hb sb hq h1 h2 i Mf Mf
theorem wu {src prev f:ai} {key:Bool} {q reach:Nat} (hs:FrOk src) (hf:FrOk f) (hp:key=false->FrOk prev/\prev.W=src.W/\prev.H=src.H) (hq:q<=15) {W Hh x y Nk:Nat} (hW:f.W=(W:Int)) (hH:f.H=(Hh:Int)) (hsW:src.W=(W:Int)) (hsH:src.H=(Hh:Int))
  (hx:x+8<=W) (hy:y+8<=Hh) (h1:x<=Nk % W/\Nk % W<x+8) (h2:y<=Nk / W/\Nk / W<y+8) :
  iV (bh q / 2) ((bf f prev x y q (aI src prev key q reach f x y)).pix.getD Nk 0) (src.pix.getD Nk 0):=by
 have hw:0<W:=Mf;have hb:=lC src x y 8;have sb:=nP hs.sam x y 8;have MR:=ri hf hW hH hy;rw [<- Kq hsW hw h1 h2];have hk:(Nk / W-y)*8+(Nk % W-x)<8*8:=Mf;unfold aI;generalize aO src x y 8=b at *
 have L:iV (bh q / 2) ((bf f prev x y q (qz f b x y q)).pix.getD Nk 0) (b.getD ((Nk / W-y)*8+(Nk % W-x)) 0):=by
  have e:bf f prev x y q (qz f b x y q)=dz f x y 8 (fS (eR f x y 8 (aG f b x y 8).1) (bA b (eR f x y 8 (aG f b x y 8).1) q) q):=rfl;have P:=gW hf.sam (x:Int) (y:Int) (n:=8) Mf (aG f b x y 8).1;rw [e,qj (n:=8) hW hw (by rw [fT (by unfold bA;rw [fo,fe hb P.1,P.1]),P.1]) hx MR h1 h2];exact qB (.inr rfl) hb P.1 sb hq hk
 have S:iV (bh q / 2) ((bf f prev x y q (mr f b x y q)).pix.getD Nk 0) (b.getD ((Nk / W-y)*8+(Nk % W-x)) 0):=by
  rw [Ec];exact tu hf hW hH hx hy hb sb hq h1 h2 4 Mf Mf
 have R:∀ r:SqD×Int,(0<=r.2->iV (bh q / 2) ((bf f prev x y q r.1).pix.getD Nk 0) (b.getD ((Nk / W-y)*8+(Nk % W-x)) 0))->iV (bh q / 2) ((bf f prev x y q (ik f b x y q r)).pix.getD Nk 0) (b.getD ((Nk / W-y)*8+(Nk % W-x)) 0):=fun r h =>
  fU (P:=fun s=>iV (bh q / 2) ((bf f prev x y q s).pix.getD Nk 0) (b.getD ((Nk / W-y)*8+(Nk % W-x)) 0)) (fun _=>fU (P:=fun s=>iV (bh q / 2) ((bf f prev x y q s).pix.getD Nk 0) (b.getD ((Nk / W-y)*8+(Nk % W-x)) 0)) h L) S
 cases key with
 | true =>
  rw [if_pos rfl];exact R (sq0,-1) (fun h=>absurd h Mn)
 | false =>
  obtain ⟨Xi,hpW,hpH⟩:=hp rfl;rw [if_neg Mg]
  split
  ·rename_i hz
   have e:bf f prev x y q sq0=dz f x y 8 (ar prev x y 8 0 0):=rfl;have NS:=aD prev x y 8 0 0;rw [e,qj (n:=8) hW hw NS hx MR h1 h2];have hl:(dH b (ar prev x y 8 0 0)).length=8*8:=fe hb NS;have hr:=un (.inr rfl) hl hq hk;have hz2:ez (dH b (ar prev x y 8 0 0)) q=List.replicate 64 0:=by
    unfold pS bA at hz;rw [List.all_eq_true] at hz;exact List.eq_replicate_iff.2 ⟨by rw [fo,hl],fun x hx=>by simpa using hz x hx⟩
   have hrz:(bZ (List.replicate 64 0) (q:Int)).getD ((Nk / W-y)*8+(Nk % W-x)) 0=0:=by
    have e1:bZ (List.replicate 64 0) (q:Int)=List.replicate 64 0:=by
     unfold bZ;rw [yN]
     decide +kernel
    rw [e1,Le,List.getElem?_replicate]
    split <;> rfl
   rw [hz2,hrz] at hr;have e1:(dH b (ar prev x y 8 0 0)).getD ((Nk / W-y)*8+(Nk % W-x)) 0=b.getD ((Nk / W-y)*8+(Nk % W-x)) 0-(ar prev x y 8 0 0).getD ((Nk / W-y)*8+(Nk % W-x)) 0:=by
    unfold dH;exact vU
   rw [e1] at hr;unfold iV;omega
  ·refine R _ (fun _=>?_)
   have e:bf f prev x y q (ij prev b x y q reach).1=dz f x y 8 (fS (ar prev x y 8 (aZ prev b x y reach).vx (aZ prev b x y reach).vy) (bA b (ar prev x y 8 (aZ prev b x y reach).vx (aZ prev b x y reach).vy) q) q):=rfl;have NS:=aD prev x y 8 (aZ prev b x y reach).vx (aZ prev b x y reach).vy;rw [e,qj (n:=8) hW hw (by rw [fT (by unfold bA;rw [fo,fe hb NS,NS]),NS]) hx MR h1 h2];exact qB (.inr rfl) hb NS sb hq hk
theorem wJ {src prev:ai} {key:Bool} {q reach:Nat} (hs:FrOk src) (hp:key=false->FrOk prev/\prev.W=src.W/\prev.H=src.H) (hq:q<=15) (hr:reach<=7) :
  FrOk (cG src prev key q reach).1/\(cG src prev key q reach).1.W=src.W/\(cG src prev key q reach).1.H=src.H/\∀ Nk,Nk<src.pix.length->iV (bh q / 2) ((cG src prev key q reach).1.pix.getD Nk 0) (src.pix.getD Nk 0) :=
 EG hs (fun h=>(hp h).1.sam) hq hr (Q:=fun Nk v=>iV (bh q / 2) v (src.pix.getD Nk 0))
  (fun f W Hh x y Nk hf hW hH hsW hsH hx hy _ _ h1 h2=>wu hs hf hp hq hW hH hsW hsH hx hy h1 h2)
end Go.Proofs.YthcafdfdglfabaaGreatDoor
