/- Joined texts: EQn, EPl, EOk, EAll, EStl, EPeak. Conditions: each part names its own. -/
import Derived.Test.YthcafdfdglfabaaGreatDoorW1
import Derived.Test.YthcafdfdglfabaaGreatDoorA1
namespace Go.Proofs.YthcafdfdglfabaaGreatDoor
open Go.RowKit
set_option linter.unusedVariables false
set_option linter.unusedSimpArgs false
set_option maxRecDepth 100000
set_option maxHeartbeats 16000000
theorem vP:∀ {c a b:List Int},a.length=b.length->dI c (ld a b)=dI c a+dI c b
 | [],a,b,h=>by simp [dI]
 | x :: c,[],[],h=>by simp [dI,ld]
 | x :: c,a :: a2,b :: b2,h=>by
  have D:=vP (c:=c) (a:=a2) (b:=b2) Qp;simp only [dI,ld,C0,List.sum_cons] at D |-
  rw [D,Int.mul_add];omega
 | _ :: _,[],_ :: _,h=>by cases h
 | _ :: _,_ :: _,[],h=>by cases h
theorem En {B:Int} (E:0<=B):∀ (c l:List Int),(∀ x∈c,x=1\/x=-1)->(∀ x∈l,-B<=x/\x<=B)->-(l.length*B)<=dI c l/\dI c l<=l.length*B
 | [],l,_,_=>by
  have:0<=(l.length:Int)*B:=Int.mul_nonneg Qa E;simp only [dI,List.zipWith_nil_left,List.sum_nil];omega
 | _ :: _,[],_,_=>by simp [dI]
 | x :: c,y :: l,hc,hl=>by
  have F:=En E c l (fun z D=>hc z (Pv _ D)) (fun z D=>hl z (Pv _ D));have h1:=hl y (VY ..);have e:((y :: l).length:Int)*B=l.length*B+B:=by rw [Pq];push_cast;rw [Int.add_mul,Int.one_mul]
  simp only [dI,C0,List.sum_cons] at F |-
  rw [e];rcases hc x (VY ..) with rfl | rfl <;> omega
theorem Bt (u x:Nat):jP u x=1\/jP u x=-1:=by unfold jP;split <;> simp
theorem DU (n k:Nat):∀ x∈pj n k,x=1\/x=-1:=by
 intro x hx;unfold pj at hx;obtain ⟨i,_,rfl⟩:=x8.1 hx;rcases Bt (k % n) (i % n) with a | a <;> rcases Bt (k / n) (i / n) with b | b <;> rw [a,b] <;> simp
section
variable {n:Nat}
theorem Ix (I:n=4\/n=8) {a b:List Int} (D:a.length=n*n) (F:b.length=n*n):bN (ld a b)=ld (bN a) (bN b):=by
 have E:(ld a b).length=n*n:=by rw [ld,List.length_zipWith,D,F,Nat.min_self]
 rw [eo I E,eo I D,eo I F];unfold ld;rw [List.zipWith_map];rw [List.zipWith_self];refine List.map_congr_left (fun k _=>?_);exact vP (by rw [D,F])
theorem qV (F:n=4\/n=8) {l:List Int} (D:l.length=n*n) {B:Int} (E:0<=B) (h:∀ x∈l,-B<=x/\x<=B):∀ x∈bN l,-((n*n:Nat)*B)<=x/\x<=(n*n:Nat)*B:=by
 intro x hx;rw [eo F D] at hx;obtain ⟨k,_,rfl⟩:=x8.1 hx;have:=En E (pj n k) l (DU n k) h;rw [D] at this;exact this
theorem NZ:kh 7 1 (rQ 4)=(kt 16).map (fun c=>c.map (16 * ·)):=Qc
theorem Oa:kh 7 1 (rQ 8)=(kt 64).map (fun c=>c.map (64 * ·)):=Qc
theorem sK (a:Int):∀ (c l:List Int),dI (c.map (a * ·)) l=a*dI c l
 | [],l=>by simp [dI]
 | _ :: _,[]=>by simp [dI]
 | x :: c,y :: l=>by
  have D:=sK a c l;simp only [dI,PU,C0,List.sum_cons] at D |-
  rw [D,Int.mul_add,Int.mul_assoc]
theorem xg (m:Nat):jy (m*m) (rQ m):=⟨by simp [rQ],fun c D=>by
 obtain ⟨i,_,rfl⟩:=x8.1 D;simp [pj]⟩
theorem BH (E:n=4\/n=8) {l:List Int} (D:l.length=n*n):bN (bN l)=l.map (((n*n:Nat):Int) * ·):=by
 have F:bN l=fI (rQ n) l:=by rw [eo E D];simp [fI,rQ]
 rw [F];rcases E with rfl | rfl
 ·have h:=mG (e:=4) l 7 1 (xg 4)
  show gK 7 1 (fI (rQ 4) l)=_;rw [<- h,NZ];have hi:=jS D;unfold fI at hi |-
  rw [List.map_map]
  conv=>rhs;rw [<- hi]
  rw [List.map_map];exact List.map_congr_left (fun c _=>sK 16 c l)
 ·have h:=mG (e:=6) l 7 1 (xg 8)
  show gK 7 1 (fI (rQ 8) l)=_;rw [<- h,Oa];have hi:=jS D;unfold fI at hi |-
  rw [List.map_map]
  conv=>rhs;rw [<- hi]
  rw [List.map_map];exact List.map_congr_left (fun c _=>sK 64 c l)
end
def gw (qp c:Int):Int:=if c<0 then -((bg qp / 2-c) / bg qp) else (c+bg qp / 2) / bg qp
def ft (d:List Int) (qp:Int):List Int:=(bN d).map (gw qp)
theorem Bj {q:Nat} (h:q<=15) (P:Int->Prop) (D:∀ s∈uA,P s):P (bg q):=by
 unfold bg;refine D _ ?_;rw [Pd,Pe (by simp [uA];omega)];exact PG _
theorem Al {q:Nat} (h:q<=15) (c:Int):-(bg q / 2)<=gw q c*bg q-c/\gw q c*bg q-c<=bg q / 2/\(0<=c->0<=gw q c/\gw q c<=c)/\(c<=0->c<=gw q c/\gw q c<=0)/\(gw q c=0->-(bg q / 2)<=c/\c<=bg q / 2):=by
 unfold gw;refine Bj h (fun s=>-(s / 2)<=(if c<0 then -((s / 2-c) / s) else (c+s / 2) / s)*s-c/\(if c<0 then -((s / 2-c) / s) else (c+s / 2) / s)*s-c<=s / 2/\(0<=c->0<=(if c<0 then -((s / 2-c) / s) else (c+s / 2) / s)/\(if c<0 then -((s / 2-c) / s) else (c+s / 2) / s)<=c)/\(c<=0->c<=(if c<0 then -((s / 2-c) / s) else (c+s / 2) / s)/\(if c<0 then -((s / 2-c) / s) else (c+s / 2) / s)<=0)/\((if c<0 then -((s / 2-c) / s) else (c+s / 2) / s)=0->-(s / 2)<=c/\c<=s / 2)) ?_;intro s D;simp only [uA,Pg,Ph,l7] at D;rcases D with rfl | rfl | rfl | rfl | rfl | rfl | rfl | rfl | rfl | rfl | rfl | rfl | rfl | rfl | rfl | rfl <;> (by_cases E:c<0 <;> simp only [if_pos,if_neg,E,not_false_eq_true] <;> omega)
theorem fU (d:List Int) (qp:Int):(ft d qp).length=d.length:=by simp [ft,fz]
theorem Am {n q:Nat} (D:n=4\/n=8) {d:List Int} (I:d.length=n*n) (F:∀ x∈d,-255<=x/\x<=255) (h:q<=15):cE (ft d q):=by
 intro x hx;unfold ft at hx;obtain ⟨c,E,rfl⟩:=x8.1 hx;have L:=qV D I Qa F c E;have J:((n*n:Nat):Int)*255<=16320:=by rcases D with rfl | rfl <;> decide
 obtain ⟨_,_,a,b,_⟩:=Al h c;by_cases h0:0<=c
 ·have:=a h0;omega
 ·have:=b Qa;omega
def kx (q:Int) (c:List Int):List Int:=c.map fun x=>gw q x*bg q-x
theorem Ef (q:Int) (c:List Int):cM (c.map (gw q)) q=ld c (kx q c):=by
 unfold cM kx ld;rw [List.map_map,List.zipWith_map_right,List.zipWith_self];refine List.map_congr_left (fun x _=>?_);show gw q x*bg q=x+(gw q x*bg q-x)
 omega
theorem wU {n q:Nat} (E:n=4\/n=8) {d:List Int} (D:d.length=n*n) (h:q<=15) {k:Nat} (M:k<n*n) :
  -(bg q / 2)<=(ce (ft d q) q).getD k 0-d.getD k 0/\(ce (ft d q) q).getD k 0-d.getD k 0<=bg q / 2:=by
 have I:0<=bg q / 2:=Bj h (fun s=>0<=s / 2) (fun s O=>by
  simp only [uA,Pg,Ph,l7] at O;rcases O with rfl | rfl | rfl | rfl | rfl | rfl | rfl | rfl | rfl | rfl | rfl | rfl | rfl | rfl | rfl | rfl <;> decide)
 have V:(bN d).length=n*n:=dn fz D
 have F:(kx q (bN d)).length=n*n:=by simp [kx,V]
 have hE:=qV E F I (fun x hx=>by
  unfold kx at hx;obtain ⟨c,_,rfl⟩:=x8.1 hx;obtain ⟨a,b,_⟩:=Al h c;exact ⟨a,b⟩)
 have Z:bN (cM (ft d q) q)=ld (d.map (((n*n:Nat):Int) * ·)) (bN (kx q (bN d))):=by
  unfold ft;rw [Ef,Ix E V F,BH E D]
 have Y:(cM (ft d q) q).length=n*n:=by rw [ei,fU,D]
 unfold ce bS;rw [Z,Y];have L:k<d.length:=dn D M
 have J:k<(bN (kx q (bN d))).length:=by rw [fz,F];exact M
 have N:=hE _ (PG J);have e2:((ld (d.map (((n*n:Nat):Int) * ·)) (bN (kx q (bN d)))).map fun v=>(v+((n*n:Nat):Int) / 2) / ((n*n:Nat):Int)).getD k 0=(((n*n:Nat):Int)*d.getD k 0+(bN (kx q (bN d)))[k]+((n*n:Nat):Int) / 2) / ((n*n:Nat):Int):=by
  rw [Pd,Pz,ld,List.getElem?_zipWith,Pz,Pe L,Pe J,Pd,Pe L]
  rfl
 rw [e2];generalize (bN (kx q (bN d)))[k]=t at *
 generalize d.getD k 0=x at *
 generalize bg q / 2=g at *
 rcases E with rfl | rfl
 ·simp only [show ((4*4:Nat):Int)=16 from rfl] at N |-
  omega
 ·simp only [show ((8*8:Nat):Int)=64 from rfl] at N |-
  omega
def aP (f:ah) (x y:Int) (n:Nat):List Int:=(List.range n).flatMap fun j:Nat=>(List.range n).map fun i:Nat=>f.pix.getD ((y+(j:Int))*f.W+x+(i:Int)).toNat 0
def dF (a b:List Int):Int:=(List.zipWith (fun x y=>max (x-y) (y-x)) a b).sum
def bB (b p:List Int) (qp:Int):List Int:=ft (dX b p) qp
def eA (a b:List Int) (vx vy:Int):Int:=4*dF a b+max vx (-vx)+max vy (-vy)
structure lZ where
 vx:Int
 vy:Int
 cost:Int
def dQ (prev:ah) (b:List Int) (x y:Int) (s:lZ) (v:Int×Int):lZ :=
 if eA (aq prev x y 8 v.1 v.2) b v.1 v.2<s.cost then ⟨v.1,v.2,eA (aq prev x y 8 v.1 v.2) b v.1 v.2⟩ else s
def pJ (reach:Nat):List (Int×Int):=(List.range (2*reach+1)).flatMap fun j:Nat=>(List.range (2*reach+1)).map fun i:Nat=>(2*((i:Int)-reach),2*((j:Int)-reach))
def mh (v:Int×Int):Bool:=decide (-15<=v.1) && decide (v.1<=15) && decide (-15<=v.2) && decide (v.2<=15)
def wG (vx vy:Int):List (Int×Int):=((List.range 3).flatMap fun j:Nat=>(List.range 3).map fun i:Nat=>(vx+((i:Int)-1),vy+((j:Int)-1))).filter mh
def oA (prev:ah) (b:List Int) (x y:Int):lZ:=⟨0,0,eA (aq prev x y 8 0 0) b 0 0⟩
def jh (prev:ah) (b:List Int) (x y:Int) (reach:Nat):lZ:=(pJ reach).foldl (dQ prev b x y) (oA prev b x y)
def aY (prev:ah) (b:List Int) (x y:Int) (reach:Nat):lZ :=
 (wG (jh prev b x y reach).vx (jh prev b x y reach).vy).foldl (dQ prev b x y) (jh prev b x y reach)
def fF (b top left:List Int) (corner:Int):List Nat->Nat×Int->Nat×Int
 | [],r=>r
 | m :: ms,r=>fF b top left corner ms (if r.2<0\/dF b (bi m top left corner)<r.2 then (m,dF b (bi m top left corner)) else r)
def lR (b top left:List Int) (corner:Int):Nat×Int:=fF b top left corner [0,1,2,3] (0,-1)
def aI (cur:ah) (b:List Int) (x y:Int) (n:Nat):Nat×Int:=lR b (dA cur x y n) (cd cur x y n) (aB cur (x-1) (y-1))
def fO (cur:ah) (x y:Int) (n:Nat) (m:Nat):List Int:=bi m (dA cur x y n) (cd cur x y n) (aB cur (x-1) (y-1))
def fV (cur:ah) (b:List Int) (x y:Int) (n:Nat) (qp:Int):List Int:=bB b (fO cur x y n (aI cur b x y n).1) qp
def av (b:List Int) (q:Nat):List Int:=(List.range 16).map fun k:Nat=>b.getD ((q / 2*4+k / 4)*8+q % 2*4+k % 4) 0
def fB (b:List Int) (x y qp:Int):Nat->Nat->ah->List Int->List (List Int)->Int->List Int×List (List Int)×Int
 | 0,_,_,ms,ls,c=>(ms,ls,c)
 | k+1,i,cur,ms,ls,c =>
  fB b x y qp k (i+1)
   (ek cur (x+((i % 2:Nat):Int)*4) (y+((i / 2:Nat):Int)*4) 4 (aI cur (av b i) (x+((i % 2:Nat):Int)*4) (y+((i / 2:Nat):Int)*4) 4).1 qp (fV cur (av b i) (x+((i % 2:Nat):Int)*4) (y+((i / 2:Nat):Int)*4) 4 qp))
   (ms ++ [((aI cur (av b i) (x+((i % 2:Nat):Int)*4) (y+((i / 2:Nat):Int)*4) 4).1:Int)])
   (ls ++ [fV cur (av b i) (x+((i % 2:Nat):Int)*4) (y+((i / 2:Nat):Int)*4) 4 qp])
   (c+4*(aI cur (av b i) (x+((i % 2:Nat):Int)*4) (y+((i / 2:Nat):Int)*4) 4).2)
def fp (cur:ah) (b:List Int) (x y qp:Int):List Int×List (List Int)×Int:=fB b x y qp 4 0 cur [] [] 24
def rG (prev:ah) (b:List Int) (x y qp:Int):Bool:=(bB b (aq prev x y 8 0 0) qp).all (· == 0)
def Na (prev:ah) (b:List Int) (x y qp:Int) (reach:Nat):j4 :=
 ⟨1,0,[0,0,0,0],(aY prev b x y reach).vx,(aY prev b x y reach).vy,bB b (aq prev x y 8 (aY prev b x y reach).vx (aY prev b x y reach).vy) qp,[[],[],[],[]]⟩
def sr (cur:ah) (b:List Int) (x y qp:Int):j4:=⟨2,(aI cur b x y 8).1,[0,0,0,0],0,0,fV cur b x y 8 qp,[[],[],[],[]]⟩
def nX (cur:ah) (b:List Int) (x y qp:Int):j4:=⟨3,0,(fp cur b x y qp).1,0,0,[],(fp cur b x y qp).2.1⟩
def dZ (r:j4×Int) (s:j4) (c:Int):j4×Int:=if r.2<0\/c<r.2 then (s,c) else r
def je (prev:ah) (b:List Int) (x y qp:Int) (reach:Nat):j4×Int:=(Na prev b x y qp reach,eA (aq prev x y 8 (aY prev b x y reach).vx (aY prev b x y reach).vy) b (aY prev b x y reach).vx (aY prev b x y reach).vy)
def jg (cur:ah) (b:List Int) (x y qp:Int) (r:j4×Int):j4 :=
 (dZ (dZ r (sr cur b x y qp) (4*(aI cur b x y 8).2+8)) (nX cur b x y qp) (fp cur b x y qp).2.2).1
def aT (src prev:ah) (key:Bool) (qp:Int) (reach:Nat) (cur:ah) (x y:Int):j4 :=
 if key then jg cur (aP src x y 8) x y qp (r6,-1)
 else if rG prev (aP src x y 8) x y qp then r6
 else jg cur (aP src x y 8) x y qp (je prev (aP src x y 8) x y qp reach)
theorem nw (f:ah) (x y:Int) (n:Nat):(aP f x y n).length=n*n:=by
 unfold aP;rw [jT n _ _ (fun j _=>Qb),List.length_range]
theorem pD {f:ah} (h:ar f.pix) (x y:Int) (n:Nat):ar (aP f x y n):=by
 intro v D;unfold aP at D;obtain ⟨j,_,D⟩:=List.mem_flatMap.1 D;obtain ⟨i,_,rfl⟩:=x8.1 D;exact h.at _
theorem ii (b:List Int) (q:Nat):(av b q).length=16:=by simp [av]
theorem iV {b:List Int} (h:ar b) (q:Nat):ar (av b q):=by
 intro v D;unfold av at D;obtain ⟨k,_,rfl⟩:=x8.1 D;exact h.at _
theorem qB {a b:List Int} (D:ar a) (E:ar b):∀ x∈dX a b,-255<=x/\x<=255:=by
 intro x hx;unfold dX at hx;obtain ⟨i,hi⟩:=List.getElem?_of_mem hx;rw [List.getElem?_zipWith] at hi;cases h1:a[i]? with
 | none=>rw [h1] at hi;cases hi
 | some u =>
  cases h2:b[i]? with
  | none=>rw [h1,h2] at hi;cases hi
  | some v =>
   rw [h1,h2] at hi;simp only [PO] at hi;have:=D u (PZ h1);have:=E v (PZ h2);omega
theorem fR {a b:List Int} {n:Nat} (D:a.length=n) (E:b.length=n):(dX a b).length=n:=by rw [dX,List.length_zipWith,D,E,Nat.min_self]
theorem lA {n q:Nat} (F:n=4\/n=8) {b p:List Int} (D:b.length=n*n) (E:p.length=n*n) (I:ar b) (J:ar p) (h:q<=15):(bB b p q).length=n*n/\cE (bB b p q) :=
 ⟨by unfold bB;rw [fU,fR D E],Am F (fR D E) (qB I J) h⟩
theorem vG (b top left:List Int) (corner:Int):∀ (ms:List Nat) (r:Nat×Int),(∀ m∈ms,m<=3)->r.1<=3->(fF b top left corner ms r).1<=3
 | [],r,_,h=>h
 | m :: ms,r,hm,h=>by
  unfold fF;refine vG b top left corner ms _ (fun x hx=>hm x (Pv _ hx)) ?_
  split
  ·exact hm m (VY ..)
  ·exact h
theorem js (cur:ah) (b:List Int) (x y:Int) (n:Nat):(aI cur b x y n).1<=3:=vG _ _ _ _ _ _ Qb Qb
theorem iR {cur:ah} (h:ar cur.pix) (x y:Int) {n:Nat} (D:1<=n) (m:Nat):(fO cur x y n m).length=n*n/\ar (fO cur x y n m) :=
 ⟨by unfold fO;rw [dl,cV],kN (jr h _ _ _) (hZ h _ _ _) (dn cV D) _ _⟩
theorem iD {n q:Nat} (E:n=4\/n=8) {cur:ah} (h:ar cur.pix) {b:List Int} (D:b.length=n*n) (I:ar b) (x y:Int) (F:q<=15):(fV cur b x y n q).length=n*n/\cE (fV cur b x y n q):=by
 obtain ⟨a,c⟩:=iR h x y (n:=n) Qa (aI cur b x y n).1;exact lA E D a I c F
theorem tT {f:ah} (h:ar f.pix) (x y:Int) (n:Nat) (mode qp:Int) (l:List Int):ar (ek f x y n mode qp l).pix:=by
 unfold ek dP;exact nu ar _ _ _ h (fun l j _ D=>yE D (((kZ _ _ _).drop _).take _) _)
theorem vY {q:Nat} (I:q<=15) {b:List Int} (J:ar b) (x y:Int):∀ (k i:Nat) {cur:ah} (ms:List Int) (D:List (List Int)) (c:Int),ar cur.pix->(∀ z∈ms,0<=z/\z<=3)->(∀ l∈D,l.length=16/\cE l) ->
  (fB b x y q k i cur ms D c).1.length=ms.length+k/\(fB b x y q k i cur ms D c).2.1.length=D.length+k/\(∀ z∈(fB b x y q k i cur ms D c).1,0<=z/\z<=3)/\∀ l∈(fB b x y q k i cur ms D c).2.1,l.length=16/\cE l
 | 0,i,cur,ms,D,c,h,h1,h2=>⟨rfl,rfl,h1,h2⟩
 | k+1,i,cur,ms,D,c,h,h1,h2=>by
  unfold fB;have L:=iD (n:=4) (.inl rfl) h (ii b i) (iV J i) (x+((i % 2:Nat):Int)*4) (y+((i / 2:Nat):Int)*4) I;have M:=js cur (av b i) (x+((i % 2:Nat):Int)*4) (y+((i / 2:Nat):Int)*4) 4;obtain ⟨a,N,c',d⟩:=vY I J x y k (i+1) (ms ++ [((aI cur (av b i) (x+((i % 2:Nat):Int)*4) (y+((i / 2:Nat):Int)*4) 4).1:Int)]) (D ++ [fV cur (av b i) (x+((i % 2:Nat):Int)*4) (y+((i / 2:Nat):Int)*4) 4 q]) (c+4*(aI cur (av b i) (x+((i % 2:Nat):Int)*4) (y+((i / 2:Nat):Int)*4) 4).2)
   (tT h (x+((i % 2:Nat):Int)*4) (y+((i / 2:Nat):Int)*4) 4 (aI cur (av b i) (x+((i % 2:Nat):Int)*4) (y+((i / 2:Nat):Int)*4) 4).1 q (fV cur (av b i) (x+((i % 2:Nat):Int)*4) (y+((i / 2:Nat):Int)*4) 4 q))
   (fun z F=>by rcases B0.1 F with F | F;exact h1 z F;rw [i5] at F;omega)
   (fun l E=>by rcases B0.1 E with E | E;exact h2 l E;rw [i5] at E;rw [E];exact L)
  rw [Pn,List.length_singleton] at a N;exact ⟨Qa,Qa,c',d⟩
def mv (s:lZ):Prop:=-15<=s.vx/\s.vx<=15/\-15<=s.vy/\s.vy<=15
theorem nZ {prev:ah} {b:List Int} {x y:Int} {P:Int->Int->Prop}:∀ (vs:List (Int×Int)) (s:lZ),(∀ v∈vs,P v.1 v.2)->P s.vx s.vy->P (vs.foldl (dQ prev b x y) s).vx (vs.foldl (dQ prev b x y) s).vy
 | [],s,_,h=>h
 | v :: vs,s,hv,h=>by
  rw [List.foldl_cons];refine nZ vs _ (fun u hu=>hv u (Pv _ hu)) ?_;unfold dQ
  split
  ·exact hv v (VY ..)
  ·exact h
theorem pg (prev:ah) (b:List Int) (x y:Int) {reach:Nat} (hr:reach<=7):mv (aY prev b x y reach):=by
 have h1:mv (jh prev b x y reach):=by
  refine nZ (P:=fun a c=>-15<=a/\a<=15/\-15<=c/\c<=15) _ _ (fun v D=>?_) (by simp [oA]);unfold pJ at D;obtain ⟨j,E,D⟩:=List.mem_flatMap.1 D;obtain ⟨i,hi,rfl⟩:=x8.1 D;rw [PY] at hi E;simp only;omega
 refine nZ (P:=fun a c=>-15<=a/\a<=15/\-15<=c/\c<=15) _ _ (fun v D=>?_) h1;unfold wG at D;have:=(List.mem_filter.1 D).2;unfold mh at this;simp only [t8,r9] at this;obtain ⟨⟨⟨a,c⟩,d⟩,e⟩:=this;exact ⟨a,c,d,e⟩
theorem gW {P:j4->Prop} {r:j4×Int} {s:j4} {c:Int} (h:0<=r.2->P r.1) (g:P s):P (dZ r s c).1:=by
 unfold dZ
 split
 ·exact g
 ·rename_i hn;exact h Qa
theorem LM {key:Bool} {ms:List Int} {D:List (List Int)} (a:ms.length=4) (b:D.length=4) (c:∀ z∈ms,0<=z/\z<=3) (d:∀ l∈D,l.length=16/\cE l):iH key ⟨3,0,ms,0,0,[],D⟩ :=
 ⟨Pm _,(fun _=>by show 2<=3;omega),(fun h=>Qv),(fun h=>by rcases h with h | h <;> cases h),(fun h=>Qv),fun _=>⟨a,b,c,d⟩⟩
theorem JV {key:Bool} {m:Nat} {l:List Int} (a:m<=3) (b:l.length=64/\cE l):iH key ⟨2,m,[0,0,0,0],0,0,l,[[],[],[],[]]⟩ :=
 ⟨(by show 2<=3;omega),fun _=>Pm _,fun _=>a,fun _=>b,(fun h=>Qv),(fun h=>Qv)⟩
theorem Ki {vx vy:Int} {l:List Int} (a:-15<=vx/\vx<=15/\-15<=vy/\vy<=15) (b:l.length=64/\cE l):iH false ⟨1,0,[0,0,0,0],vx,vy,l,[[],[],[],[]]⟩ :=
 ⟨(by show 1<=3;omega),(fun h=>Qv),(fun h=>Qv),fun _=>b,fun _=>a,(fun h=>Qv)⟩
theorem IM:iH false r6:=⟨(by show 0<=3;omega),(fun h=>Qv),(fun h=>Qv),(fun h=>by rcases h with h | h <;> cases h),(fun h=>Qv),(fun h=>Qv)⟩
theorem nj {src prev cur:ah} {key:Bool} {q reach:Nat} (O:ar src.pix) (J:ar cur.pix) (N:key=false->ar prev.pix) (D:q<=15) (hr:reach<=7) (x y:Int):iH key (aT src prev key q reach cur x y):=by
 have I:=nw src x y 8;have E:=pD O x y 8;unfold aT;generalize aP src x y 8=b at *
 have L:iH key (sr cur b x y q):=JV (js _ _ _ _ _) (iD (n:=8) (.inr rfl) J I E x y D);have S:iH key (nX cur b x y q):=by
  have F:=vY D E x y 4 0 [] [] 24 J (fun z V=>by cases V) (fun l M=>by cases M);unfold nX fp;generalize fB b x y (q:Int) 4 0 cur [] [] 24=G at *
  obtain ⟨a,b,c,d⟩:=F;exact LM a b c d
 have R:∀ r:j4×Int,(0<=r.2->iH key r.1)->iH key (jg cur b x y q r):=fun r h=>gW (fun _=>gW h L) S
 cases key with
 | true =>
  rw [if_pos rfl];exact R (r6,-1) (fun h=>absurd h Ql)
 | false =>
  rw [if_neg Qb]
  split
  ·exact IM
  ·refine R _ (fun _=>?_)
   have v:=pg prev b x y hr;exact Ki v (lA (n:=8) (.inr rfl) I (aF prev x y 8 (aY prev b x y reach).vx (aY prev b x y reach).vy) E (cR (N rfl) _ _ _ _ _) D)
theorem Jt {m:i9} (h:65536<=m.r):(i9.fix 2 m).n<=m.n+1:=by
 unfold i9.fix
 split
 ·unfold i9.fix
  rw [if_neg (by show ¬ m.r*256<16777216;omega)];show m.n+1<=m.n+1;omega
 ·show m.n<=m.n+1
  omega
theorem Aw {m:i9} {w:Int} (h1:65536<=w) (D:w<=m.r-65536) (b:Bool):(m.narrow w b).n<=m.n+1:=by
 unfold i9.narrow;cases b with
 | true=>exact Jt (m:=⟨m.p,m.lo+w,m.n,m.r-w⟩) (by show 65536<=m.r-w;omega)
 | false=>exact Jt (m:=⟨m.p,m.lo,m.n,w⟩) h1
theorem FN {r p:Int} (h1:16777216<=r) (D:31<=p) (E:p<=2017):65536<=r / 2048*p/\r / 2048*p<=r-65536:=by
 have F:8192<=r / 2048:=Qa;have I:r / 2048*2048<=r:=Qa;generalize r / 2048=q at *
 have a:=C8 D (show 0<=q by omega);have b:=C8 E (show 0<=q by omega)
 constructor <;> omega
def l5 (n:Nat) (m:i9):Prop:=cj m/\m.n<=n
section
variable {n:Nat} {s:i9}
theorem l5.le {k:Nat} (h:l5 n s) (D:n<=k):l5 k s:=⟨h.1,Pw h.2 D⟩
theorem ki (c:Nat) (b:Bool) (h:l5 n s) (D:c<64):l5 (n+1) (i6.bit c b s).2:=by
 refine ⟨(jR h.1 D b).1,?_⟩;have hx:=sF h.1 D;obtain ⟨w1,E⟩:=FN h.1.r0 hx.1 hx.2;have:=Aw (m:=⟨s.p.set c (fK (s.p.getD c 0) b),s.lo,s.n,s.r⟩) w1 E b;have F:=h.2;show (i9.narrow ⟨s.p.set c (fK (s.p.getD c 0) b),s.lo,s.n,s.r⟩ (s.r / 2048*s.p.getD c 0) b).n<=n+1;simp only at this;omega
theorem kU (b:Bool) (h:l5 n s):l5 (n+1) (i6.flat b s).2:=by
 refine ⟨(jH h.1 b).1,?_⟩;have hr:=h.1.r0;have:=Aw (m:=s) (w:=s.r / 2) Qa Qa b;have D:=h.2;show (s.narrow (s.r / 2) b).n<=n+1;omega
theorem nd {f:Nat->Nat} (D:∀ i,f i<64) (v:Int):∀ (k i:Nat) {n:Nat} {s:i9},l5 n s->l5 (n+k) (aW i6 f v k i s).2/\(aW i6 f v k i s).1<=i+k
 | 0,i,n,s,h=>⟨h,Pm _⟩
 | k+1,i,n,s,h=>by
  have a:=ki (f i) (decide ((i:Int)<v)) h (D i);unfold aW
  split
  ·obtain ⟨x,z⟩:=nd D v k (i+1) a
   exact ⟨x.le Qa,Qa⟩
  ·exact ⟨a.le Qa,Qb⟩
theorem xx (u:Int):∀ (k i:Nat) {n:Nat} {s:i9},l5 n s->l5 (n+k) (bF i6 u k i s).2/\(bF i6 u k i s).1<=i+k
 | 0,i,n,s,h=>⟨h,Pm _⟩
 | k+1,i,n,s,h=>by
  have a:=kU (decide ((2:Int) ^ (i+1)<=u)) h;unfold bF
  split
  ·obtain ⟨x,z⟩:=xx u k (i+1) a
   exact ⟨x.le Qa,Qa⟩
  ·exact ⟨a.le Qa,Qb⟩
theorem BN (u:Int):∀ (k i:Nat) {n:Nat} {s:i9},l5 n s->l5 (n+k) (cB i6 u k i s).2
 | 0,i,n,s,h=>h
 | k+1,i,n,s,h=>by
  have a:=kU (decide (u / (2:Int) ^ k % 2=1)) h;unfold cB;exact (BN u k _ a).le Qa
theorem Ma {base:Nat} (D:base<=39) (v:Int) (h:l5 n s):l5 (n+40) (dz i6 base v s).2:=by
 obtain ⟨a,b⟩:=nd (f:=fun n=>base+17+min n 7) (fun i=>Qa) v 14 0 h;unfold dz
 split
 ·obtain ⟨p,q⟩:=xx (v-13) 13 0 a
  exact (BN (v-13) _ 1 p).le Qa
 ·exact a.le Qa
theorem xy {base:Nat} (D:base<=39) (v:Int) (h:l5 n s):l5 (n+41) (aV i6 base v s).2:=by
 unfold aV;exact (Ma D _ (kU _ h)).le Qa
theorem lL {base last:Nat} (E:base<=39) {l:List Int}:∀ (o:List Nat) (i:Nat) (out:List Int) {n:Nat} {s:i9},l5 n s->l5 (n+43*o.length) (aH i6 base last l o i out s).2
 | [],i,out,n,s,h=>h
 | a :: rest,i,out,n,s,h=>by
  have I:(a :: rest).length=rest.length+1:=rfl;have D:∀ {n:Nat} {s:i9},l5 n s->∀ (F:Bool) (x:Int),l5 (n+1+43*rest.length) (dU i6 base last l a rest i out F x s).2:=by
   intro n s h F x;unfold dU
   split
   ·exact h.le Qa
   split
   ·have B:=ki (base+9+min i 7) (bR l rest) h Qa
    split
    ·exact B.le Qa
    ·exact lL E rest (i+1) _ B
   ·exact (lL E rest (i+1) _ h).le Qa
  rw [iu]
  split
  ·have A:=ki (base+1+min i 7) (decide (l.getD a 0≠0)) h Qa
   split
   ·exact (D (xy E (l.getD a 0) A) true _).le Qa
   ·exact (lL E rest (i+1) _ A).le Qa
  ·exact (D (xy E (l.getD a 0) h) false _).le Qa
theorem kT {side:Nat} (F:side=4\/side=8) (l:List Int) (h:l5 n s):l5 (n+1+43*(side*side)) (aR i6 side l s).2:=by
 have E:jB side<=39:=by unfold jB;split <;> omega
 have A:=ki (jB side) (!cN l) h Qa;have D:(aD side).length=side*side:=by rcases F with rfl | rfl;exact gP;exact gQ
 unfold aR
 split
 ·have:=lL E (last:=side*side-1) (l:=l) (aD side) 0 (List.replicate (side*side) 0) A
  rw [D] at this;exact this
 ·exact A.le Qa
theorem kV (v:Int) (h:l5 n s):l5 (n+2) (bO i6 v s).2:=by
 have A:=ki 3 (decide (1<min (max v 0) 3)) h Qa;unfold bO lB
 split
 ·exact ki 5 _ A Qa
 ·exact ki 4 _ A Qa
theorem kW (v:Int) (h:l5 n s):l5 (n+16) (bT i6 v s).2:=by
 have A:=ki 6 (decide (min (max v (-15)) 15≠0)) h Qa;unfold bT ib
 split
 ·unfold ie
  exact (nd (f:=fun n=>7+min n 6) (fun i=>Qa) _ 14 0 (kU _ A)).1.le Qa
 ·exact A.le Qa
theorem xz (F:List Int) (E:List (List Int)):∀ (k:Nat) (ms:List Int) (D:List (List Int)) {n:Nat} {s:i9},l5 n s->l5 (n+691*k) (bq i6 F E k ms D s).2
 | 0,ms,D,n,s,h=>h
 | k+1,ms,D,n,s,h=>by
  have A:=kV (F.getD ms.length 0) h;have B:=kT (side:=4) (.inl rfl) (E.getD D.length []) A;rw [mX]
  split
  ·exact B.le Qa
  ·exact (xz F E k _ _ B).le Qa
theorem IC (q:rN) (k:Nat) (h:l5 n s):l5 (n+2785) (cz i6 q k s).2:=by
 unfold cz
 split
 ·have A:=xz q.modes q.small 4 [] [] h
  split <;> exact A.le Qa
 split
 ·exact h.le Qa
 split
 ·have A:=kT (side:=8) (.inr rfl) q.large (kW q.vy (kW q.vx h))
  split <;> exact A.le Qa
 ·have A:=kT (side:=8) (.inr rfl) q.large (kV q.mode h)
  split <;> exact A.le Qa
theorem pn (key:Bool) (q:rN) (h:l5 n s):l5 (n+2788) (dE i6 key q s).2:=by
 have A:l5 (n+3) (bL i6 key q.kind s).2:=by
  unfold bL;cases key with
  | true=>exact (kU _ h).le Qa
  | false=>exact (nd (f:=fun n=>min n 63) (fun i=>Qa) _ 3 0 h).1
 have B:=IC q (bL i6 key q.kind s).1 A;unfold dE
 split <;> exact B.le Qa
end
theorem Eo {key:Bool} {prev:ah} {qp:Int} {ch:ah->Int->Int->j4}:∀ (k i:Nat) (f:ah) {n:Nat} {m:i9},l5 n m->l5 (n+2788*k) (encGo key prev qp ch k i f m).2
 | 0,i,f,n,m,h=>h
 | k+1,i,f,n,m,h=>by
  unfold encGo;exact (Eo k (i+1) _ (pn key _ h)).le Qa
theorem GK {f prev:ah} (h:ar f.pix) {s:j4} (g:s.kind<2->ar prev.pix) (x y qp:Int):ar (bk f prev x y qp s).pix:=by
 have D:∀ (n:Nat) {b:List Int},ar b->ar (dP f x y n b).pix:=fun n b F=>nu ar _ _ _ h (fun l j _ I=>yE I ((F.drop _).take _) _)
 unfold bk
 split
 ·exact D 8 (cR (g Qa) _ _ _ _ _)
 split
 ·exact D 8 (kZ _ _ _)
 split
 ·exact tT h _ _ _ _ _ _
 ·have:∀ (E:List Nat) (f:ah),ar f.pix->ar (E.foldl (cA x y qp s) f).pix:=by
   intro E
   induction E with
   | nil=>intro f h;exact h
   | cons a E ih=>intro f h;rw [List.foldl_cons];exact ih _ (tT h _ _ _ _ _ _)
  exact this _ f h
def dJ (src prev:ah) (key:Bool) (qp:Int) (reach:Nat):ah×i9:=encGo key prev qp (aT src prev key qp reach) (src.W*src.H / 64).toNat 0 (ed src.W src.H 128) gy
def bP (src prev:ah) (key:Bool) (qp:Int) (reach:Nat):bw:=⟨if key then 1 else 2,qp :: jk (dJ src prev key qp reach).2⟩
theorem Np {p:Prop} (h:p:=by
 rw [h1,h2];simp only [Bool.true_eq_false,Bool.false_eq_true,if_false];rw [if_neg Qb,if_neg Qm,if_neg (by have:=hl2;unfold bP at this;simp only at this;omega)]):p:=h
theorem nl {src prev:ah} {key:Bool} {q reach:Nat} (D:FrOk src) (O:key=false->ej prev src.W src.H=true) (Y:q<=15) (hr:reach<=7) :
  Ju (bP src prev key q reach) prev src.W src.H=.ok (dJ src prev key q reach).1/\(bP src prev key q reach).data.length<=65000:=by
 have F:key=false->ar prev.pix:=fun e=>by
  have:=O e;unfold ej at this;rw [t8,t8,dp] at this;exact this.1.1.sam
 have N:jJ src.W src.H 128=true:=iP.2 ⟨⟨D.w0,D.w1,D.w8⟩,⟨D.h0,D.h1,D.h8⟩,Ql,Ql⟩;have hC:(src.W*src.H / 64).toNat<=16:=by
  have h2:src.W*src.H<=32*32:=A3 D.w1 D.h1 (j0 D.h0) Qa;omega
 have M:∀ f x y,ar f.pix->iH key (aT src prev key q reach f x y):=fun f x y I=>nj D.sam I F Y hr x y
 obtain ⟨a,b,c⟩:=Ep (key:=key) (prev:=prev) (qp:=(q:Int)) (ch:=aT src prev key q reach) (P:=fun f=>ar f.pix) M
  (fun f x y I=>GK I (fun J=>by
   cases key with
   | true=>have:=(M f x y I).key_ rfl;omega
   | false=>exact F rfl) _ _ _) (src.W*src.H / 64).toNat 0 (nM N).sam jw
 have V:=(Eo (key:=key) (prev:=prev) (qp:=(q:Int)) (ch:=aT src prev key q reach) (src.W*src.H / 64).toNat 0 (ed src.W src.H 128) (n:=4) (m:=gy) ⟨jw,Pm _⟩).2;have Z:=Jl (dJ src prev key q reach).2;have hl2:(bP src prev key q reach).data.length<=65000:=by
  show (jk (dJ src prev key q reach).2).length+1<=65000;have:(dJ src prev key q reach).2.n<=4+2788*(src.W*src.H / 64).toNat:=V;omega
 refine ⟨?_,hl2⟩;have hu:=Er (dJ src prev key q reach).2;have E:=c (Cx a) (n9.refl _) (Ii hu);have L:cK (bP src prev key q reach)=none:=by
  unfold cK bP;cases key with
  | true =>
   simp only [if_true];have h1:jY 1=true:=rfl;have h2:lQ 1=false:=rfl;exact Np
  | false =>
   simp only [Bool.false_eq_true,if_false];have h1:jY 2=true:=rfl;have h2:lQ 2=false:=rfl;exact Np
 unfold Ju;rw [if_neg (by rw [N];simp),L];cases key with
 | true =>
  have J:(bP src prev true q reach).kind=1:=rfl;simp only [J];rw [if_neg Qa,if_neg Qa,if_neg Qa];exact E
 | false =>
  have J:(bP src prev false q reach).kind=2:=rfl;simp only [J];rw [if_neg (fun h=>by rw [O rfl] at h;cases h.2),if_neg Qa,if_neg Qa];exact E
theorem iH.norm_ok {key:Bool} {s:j4} (h:iH key s):Oq (mO s):=by
 unfold mO
 split
 ·rename_i h3
  exact ⟨(by show 3<=3;omega),(by show 0<=3;omega),(fun h=>by rcases h with h | h <;> cases h),(by show -15<=(0:Int)/\(0:Int)<=15/\-15<=(0:Int)/\(0:Int)<=15;omega),fun _=>h.small h3⟩
 split
 ·exact ⟨(by show 0<=3;omega),(by show 0<=3;omega),(fun h=>by rcases h with h | h <;> cases h),(by show -15<=(0:Int)/\(0:Int)<=15/\-15<=(0:Int)/\(0:Int)<=15;omega),(fun h=>Qv)⟩
 split
 ·rename_i h1
  exact ⟨(by show 1<=3;omega),(by show 0<=3;omega),fun _=>h.large (.inl h1),h.vec h1,(fun h=>Qv)⟩
 ·have D:s.kind=2:=by have:=h.kind;omega
  exact ⟨(by show 2<=3;omega),h.mode D,fun _=>h.large (.inr D),(by show -15<=(0:Int)/\(0:Int)<=15/\-15<=(0:Int)/\(0:Int)<=15;omega),(fun h=>Qv)⟩
theorem JX {key:Bool} {f prev:ah} (h:FrOk f) {s:j4} (E:iH key s) (g:s.kind<2->ar prev.pix) {x y:Int} (hx:0<=x) (I:x+8<=f.W) (J:0<=y) (F:y+8<=f.H) (qp:Int):FrOk (bk f prev x y qp s):=by
 rw [<- tN E.kind];refine JY h (fun D=>g ?_) hx I J F E.norm_ok qp;unfold mO at D
 split at D
 ·exact absurd D (by show ¬ 3<2;omega)
 rename_i h3
 split at D
 ·omega
 split at D
 ·omega
 ·exact absurd D (by show ¬ 2<2;omega)
def DV (W Rf:Nat):Nat:=Rf / W / 8*(W / 8)+Rf % W / 8
theorem Ob {u i:Nat} (hu:u=1\/u=2\/u=3\/u=4):(i:Int)*8 % ((8*u:Nat):Int)=((i % u*8:Nat):Int)/\(i:Int)*8 / ((8*u:Nat):Int)*8=((i / u*8:Nat):Int):=by
 rcases hu with rfl | rfl | rfl | rfl <;> constructor <;> omega
theorem BB {u i D:Nat} (hu:u=1\/u=2\/u=3\/u=4):DV (8*u) D=i↔(i % u*8<=D % (8*u)/\D % (8*u)<i % u*8+8)/\i / u*8<=D / (8*u)/\D / (8*u)<i / u*8+8:=by
 unfold DV;generalize hr:D / (8*u)=r;have E:D % (8*u)<8*u:=Nat.mod_lt _ (by rcases hu with rfl | rfl | rfl | rfl <;> omega);generalize D % (8*u)=c at *
 rw [Nat.mul_div_cancel_left u Qa];rcases hu with rfl | rfl | rfl | rfl <;> omega
section
variable {key:Bool} {prev:ah} {qp:Int} {ch:ah->Int->Int->j4} {W Hh:Nat}
theorem vS {u v:Nat} (hu:u=1\/u=2\/u=3\/u=4) (hv:v=1\/v=2\/v=3\/v=4) {Q:Nat->Int->Prop}
  (J:∀ f x y,FrOk f->iH key (ch f x y)) (E:key=false->ar prev.pix)
  (L:∀ (f:ah) (x y D:Nat),FrOk f->f.W=((8*u:Nat):Int)->f.H=((8*v:Nat):Int)->x+8<=8*u->y+8<=8*v->x % 8=0->y % 8=0->(x<=D % (8*u)/\D % (8*u)<x+8)->(y<=D / (8*u)/\D / (8*u)<y+8) ->
   Q D ((bk f prev x y qp (ch f x y)).pix.getD D 0)) :
  ∀ (k i:Nat) {f:ah} {m:i9},i+k=u*v->FrOk f->f.W=((8*u:Nat):Int)->f.H=((8*v:Nat):Int)->(∀ D,DV (8*u) D<i->Q D (f.pix.getD D 0)) ->
   FrOk (encGo key prev qp ch k i f m).1/\(encGo key prev qp ch k i f m).1.W=((8*u:Nat):Int)/\(encGo key prev qp ch k i f m).1.H=((8*v:Nat):Int)/\∀ D,DV (8*u) D<u*v->Q D ((encGo key prev qp ch k i f m).1.pix.getD D 0)
 | 0,i,f,m,hik,hf,hW,hH,hq=>⟨hf,hW,hH,fun D hi=>hq D Qa⟩
 | k+1,i,f,m,hik,hf,hW,hH,hq=>by
  have hi:i<u*v:=Qa;have hx:i % u*8+8<=8*u:=by rcases hu with rfl | rfl | rfl | rfl <;> omega
  have O:i / u*8+8<=8*v:=by
   have:i / u<v:=Nat.div_lt_of_lt_mul hi;omega
  obtain ⟨Z,e2⟩:=Ob (i:=i) hu;unfold encGo;rw [hW,Z,e2];have M:=J f ((i % u*8:Nat):Int) ((i / u*8:Nat):Int) hf;have hg:(ch f ((i % u*8:Nat):Int) ((i / u*8:Nat):Int)).kind<2->ar prev.pix:=fun hk=>by
   cases key with
   | true=>have:=M.key_ rfl;omega
   | false=>exact E rfl
  have N:=rY f prev ((i % u*8:Nat):Int) ((i / u*8:Nat):Int) qp (ch f ((i % u*8:Nat):Int) ((i / u*8:Nat):Int));refine vS hu hv J E L k (i+1) Qa (JX hf M hg Qa (by rw [hW];omega) Qa (by rw [hH];omega) qp) (N.1.trans hW) (N.2.trans hH) (fun D V=>?_);by_cases h:DV (8*u) D=i
  ·obtain ⟨a,b⟩:=(BB hu).1 h
   exact L f (i % u*8) (i / u*8) D hf hW hH hx O Qa Qa a b
  ·have I:=(fun F=>h ((BB hu).2 ⟨⟨F.1,F.2.1⟩,F.2.2.1,F.2.2.2⟩):¬ (i % u*8<=D % (8*u)/\D % (8*u)<i % u*8+8/\i / u*8<=D / (8*u)/\D / (8*u)<i / u*8+8))
   have Y:(i / u*8+8)*(8*u)<=f.pix.length:=by
    have h1:=hf.len;rw [hW,hH] at h1;have h2:(i / u*8+8)*(8*u)<=8*v*(8*u):=B8 _ O;have h3:((f.pix.length:Nat):Int)=((8*u*(8*v):Nat):Int):=by rw [h1];push_cast;rfl
    have h4:f.pix.length=8*u*(8*v):=by exact_mod_cast h3
    rw [h4,Nat.mul_comm (8*u)];exact h2
   rw [GJ hW hx Y I];exact hq D Qa
end
theorem FrOk.units {f:ah} (h:FrOk f):∃ u v:Nat,(u=1\/u=2\/u=3\/u=4)/\(v=1\/v=2\/v=3\/v=4)/\f.W=((8*u:Nat):Int)/\f.H=((8*v:Nat):Int)/\(f.W*f.H / 64).toNat=u*v/\f.pix.length=8*u*(8*v):=by
 have:=h.w0;have:=h.w1;have:=h.w8;have:=h.h0;have:=h.h1;have:=h.h8;have F:=h.len;refine ⟨(f.W / 8).toNat,(f.H / 8).toNat,Qa,Qa,Qa,Qa,?_,?_⟩
 ·have E:f.W=8\/f.W=16\/f.W=24\/f.W=32:=Qa
  have D:f.H=8\/f.H=16\/f.H=24\/f.H=32:=Qa;rcases E with e | e | e | e <;> rcases D with g | g | g | g <;> rw [e,g] <;> rfl
 ·have E:f.W=8\/f.W=16\/f.W=24\/f.W=32:=Qa
  have D:f.H=8\/f.H=16\/f.H=24\/f.H=32:=Qa;rcases E with e | e | e | e <;> rcases D with g | g | g | g <;> rw [e,g] at F |- <;> (simp at F |-;omega)
theorem Nb {u v D:Nat} (hu:u=1\/u=2\/u=3\/u=4) (h:D<8*u*(8*v)):DV (8*u) D<u*v:=by
 unfold DV;have hr:D / (8*u)<8*v:=Nat.div_lt_of_lt_mul h;have F:D % (8*u)<8*u:=Nat.mod_lt _ (by rcases hu with rfl | rfl | rfl | rfl <;> omega);generalize D / (8*u)=r at *
 generalize D % (8*u)=c at *
 rw [Nat.mul_div_cancel_left u Qa];have h1:r / 8+1<=v:=Qa;have E:(r / 8+1)*u<=v*u:=B8 u h1;rw [Nat.add_mul,Nat.one_mul,Nat.mul_comm v u] at E;omega
theorem Jk {src prev:ah} {key:Bool} {q reach:Nat} (E:FrOk src) (N:key=false->ar prev.pix) (hq:q<=15) (hr:reach<=7) {Q:Nat->Int->Prop}
  (O:∀ (f:ah) (W Hh x y D:Nat),FrOk f->f.W=(W:Int)->f.H=(Hh:Int)->src.W=(W:Int)->src.H=(Hh:Int)->x+8<=W->y+8<=Hh->x % 8=0->y % 8=0->(x<=D % W/\D % W<x+8)->(y<=D / W/\D / W<y+8) ->
   Q D ((bk f prev x y q (aT src prev key q reach f x y)).pix.getD D 0)) :
  FrOk (dJ src prev key q reach).1/\(dJ src prev key q reach).1.W=src.W/\(dJ src prev key q reach).1.H=src.H/\∀ D,D<src.pix.length->Q D ((dJ src prev key q reach).1.pix.getD D 0):=by
 obtain ⟨u,v,hu,hv,I,F,V,eL⟩:=E.units;have hn:jJ src.W src.H 128=true:=iP.2 ⟨⟨E.w0,E.w1,E.w8⟩,⟨E.h0,E.h1,E.h8⟩,Ql,Ql⟩;have A:=vS (key:=key) (prev:=prev) (qp:=(q:Int)) (ch:=aT src prev key q reach) hu hv (Q:=Q) (fun f x y J=>nj E.sam J.sam N hq hr x y) N
  (fun f x y D J Z Y hx hy L M a b=>O f (8*u) (8*v) x y D J Z Y I F hx hy L M a b) (u*v) 0 (f:=ed src.W src.H 128) (m:=gy) Qa (nM hn) I F (fun D h=>Qa)
 unfold dJ;rw [V];obtain ⟨a,b,c,d⟩:=A;exact ⟨a,b.trans I.symm,c.trans F.symm,fun D hi=>d D (Nb hu Qa)⟩
theorem sG {b:List Int} {n r c:Nat} (D:c<n):((b.drop (r*n)).take n).getD c 0=b.getD (r*n+c) 0:=by
 rw [Pd,Pd,PB,if_pos D,PA]
theorem JA {f:ah} {W x y n r c:Nat} (E:f.W=(W:Int)) (hr:r<n) (D:c<n):(aP f x y n).getD (r*n+c) 0=f.pix.getD ((y+r)*W+(x+c)) 0:=by
 rw [<- sG D];unfold aP;rw [oo _ n _ r QE (fun j _=>Qb)];rw [List.getElem_range,Pd,Pz,List.getElem?_range D];show f.pix.getD (((y:Int)+(r:Int))*f.W+(x:Int)+(c:Int)).toNat 0=_
 congr 1
 rw [E,<- PQ,<- A9,<- PQ,<- PQ,Int.toNat_natCast];omega
def jQ (h a b:Int):Prop:=-h<=a-b/\a-b<=h
theorem rX {f:ah} {W x y n D:Nat} {b:List Int} (F:f.W=(W:Int)) (M:0<W) (I:b.length=n*n) (hx:x+n<=W) (L:(y+n)*W<=f.pix.length) (h1:x<=D % W/\D % W<x+n) (E:y<=D / W/\D / W<y+n) :
  (dP f x y n b).pix.getD D 0=b.getD ((D / W-y)*n+(D % W-x)) 0:=by
 show ((List.range n).foldl (gz f.W x y n b) f.pix).getD D 0=_;rw [F];have h:=(EC (b:=b) M hx (fun j J=>by
  rw [Po,Pp,I];have:(j+1)*n<=n*n:=B8 _ J;rw [Nat.add_mul,Nat.one_mul] at this;omega) h1 E.1 n (Pm _) L).2 E.2
 rw [h,sG Qa]
theorem yB {p:Prop} (h:p:=by
 rw [Pd,List.getElem?_zipWith,Pd,Pd,Pe Qa,Pe Qa]
 rfl):p:=h
theorem sy {n q:Nat} (L:n=4\/n=8) {b p:List Int} (F:b.length=n*n) (M:p.length=n*n) (V:ar b) (N:q<=15) {k:Nat} (J:k<n*n):jQ (bg q / 2) ((gU p (bB b p q) q).getD k 0) (b.getD k 0):=by
 have D:(dX b p).length=n*n:=fR F M;have hr:=wU L D N J;have O:(ce (bB b p q) q).length=n*n:=by rw [gR];unfold bB;rw [fU,D]
 have E:(dX b p).getD k 0=b.getD k 0-p.getD k 0:=by
  unfold dX;exact yB
 have e2:(gU p (bB b p q) q).getD k 0=fj (p.getD k 0+(ce (bB b p q) q).getD k 0):=by
  unfold gU;exact yB
 have I:=V.at k;rw [e2];unfold bB at hr |-
 rw [E] at hr;unfold jQ fj;generalize (ce (ft (dX b p) q) q).getD k 0=t at *
 omega
theorem tB {f:ah} {W Hh y n:Nat} (J:FrOk f) (I:f.W=(W:Int)) (F:f.H=(Hh:Int)) (L:y+n<=Hh):(y+n)*W<=f.pix.length:=by
 obtain ⟨u,v,_,_,D,e2,_,E⟩:=J.units;have w1:W=8*u:=by have:=I.symm.trans D;exact_mod_cast this
 have M:Hh=8*v:=by have:=F.symm.trans e2;exact_mod_cast this
 rw [E,w1,Nat.mul_comm (8*u)];exact B8 _ Qa
theorem Oc {src:ah} {W x y D:Nat} (F:src.W=(W:Int)) (J:0<W) (h1:x<=D % W/\D % W<x+8) (I:y<=D / W/\D / W<y+8):(aP src x y 8).getD ((D / W-y)*8+(D % W-x)) 0=src.pix.getD D 0:=by
 rw [JA F Qa Qa]
 congr 1
 have E:=Nat.div_add_mod D W;rw [Nat.mul_comm] at E;rw [show y+(D / W-y)=D / W by omega];omega
def kD (f:ah) (b:List Int) (x y qp:Int):Nat->ah
 | 0=>f
 | i+1=>ek (kD f b x y qp i) (x+((i % 2:Nat):Int)*4) (y+((i / 2:Nat):Int)*4) 4 (aI (kD f b x y qp i) (av b i) (x+((i % 2:Nat):Int)*4) (y+((i / 2:Nat):Int)*4) 4).1 qp (fV (kD f b x y qp i) (av b i) (x+((i % 2:Nat):Int)*4) (y+((i / 2:Nat):Int)*4) 4 qp)
def lV (f:ah) (b:List Int) (x y qp:Int) (i:Nat):Int:=((aI (kD f b x y qp i) (av b i) (x+((i % 2:Nat):Int)*4) (y+((i / 2:Nat):Int)*4) 4).1:Int)
def lU (f:ah) (b:List Int) (x y qp:Int) (i:Nat):List Int:=fV (kD f b x y qp i) (av b i) (x+((i % 2:Nat):Int)*4) (y+((i / 2:Nat):Int)*4) 4 qp
theorem sV (f:ah) (b:List Int) (x y qp:Int):∀ (k i:Nat) (ms:List Int) (D:List (List Int)) (c:Int),∃ c',fB b x y qp k i (kD f b x y qp i) ms D c=(ms ++ (List.range' i k).map (lV f b x y qp),D ++ (List.range' i k).map (lU f b x y qp),c')
 | 0,i,ms,D,c=>⟨c,by simp [fB]⟩
 | k+1,i,ms,D,c=>by
  obtain ⟨c',h⟩:=sV f b x y qp k (i+1) (ms ++ [lV f b x y qp i]) (D ++ [lU f b x y qp i]) (c+4*(aI (kD f b x y qp i) (av b i) (x+((i % 2:Nat):Int)*4) (y+((i / 2:Nat):Int)*4) 4).2);refine ⟨c',?_⟩;rw [List.range'_succ,PU,PU];have e:ms ++ lV f b x y qp i :: (List.range' (i+1) k).map (lV f b x y qp)=(ms ++ [lV f b x y qp i]) ++ (List.range' (i+1) k).map (lV f b x y qp):=Qb;have e2:D ++ lU f b x y qp i :: (List.range' (i+1) k).map (lU f b x y qp)=(D ++ [lU f b x y qp i]) ++ (List.range' (i+1) k).map (lU f b x y qp):=Qb;rw [e,e2,<- h]
  rfl
theorem Im (f p:ah) (b:List Int) (x y qp:Int):bk f p x y qp (nX f b x y qp)=kD f b x y qp 4:=by
 obtain ⟨c',h⟩:=sV f b x y qp 4 0 [] [] 24;have e:fp f b x y qp=([lV f b x y qp 0,lV f b x y qp 1,lV f b x y qp 2,lV f b x y qp 3],[lU f b x y qp 0,lU f b x y qp 1,lU f b x y qp 2,lU f b x y qp 3],c'):=h;unfold nX;rw [e];have c:∀ i,kD f b x y qp (i+1)=ek (kD f b x y qp i) (x+((i % 2:Nat):Int)*4) (y+((i / 2:Nat):Int)*4) 4 (lV f b x y qp i) qp (lU f b x y qp i):=fun _=>rfl
 have c0:kD f b x y qp 0=f:=rfl;clear h e;generalize lV f b x y qp=M at *
 generalize lU f b x y qp=Ls at *
 generalize kD f b x y qp=C at *
 rw [c 3,c 2,c 1,c 0,c0]
 rfl
theorem Cq (f:ah) (b:List Int) (x y qp:Int):∀ i,(kD f b x y qp i).W=f.W/\(kD f b x y qp i).H=f.H
 | 0=>⟨rfl,rfl⟩
 | i+1=>by
  obtain ⟨a,c⟩:=Cq f b x y qp i;exact ⟨(Kn _ _ _ _ _ _ _).1.trans a,(Kn _ _ _ _ _ _ _).2.trans c⟩
theorem Em {f:ah} (F:FrOk f) {W Hh x y q:Nat} (E:f.W=(W:Int)) (D:f.H=(Hh:Int)) (hx:x+8<=W) (M:y+8<=Hh) {b:List Int} (J:ar b) (I:q<=15):∀ i,i<=4->FrOk (kD f b x y q i)
 | 0,_=>F
 | i+1,hi=>by
  have h:=Em F E D hx M J I i Qa;obtain ⟨a,c⟩:=Cq f b x y q i;have L:=iD (n:=4) (.inl rfl) h.sam (ii b i) (iV J i) ((x:Int)+((i % 2:Nat):Int)*4) ((y:Int)+((i / 2:Nat):Int)*4) I;refine jl h Qa ?_ Qa ?_ L.1 Qa _ _
  ·rw [a,E];omega
  ·rw [c,D];omega
theorem vO {f:ah} (hf:FrOk f) {W Hh x y q:Nat} (E:f.W=(W:Int)) (M:f.H=(Hh:Int)) (hx:x+8<=W) (hy:y+8<=Hh) {b:List Int} (hb:b.length=64) (V:ar b) (J:q<=15) {D:Nat} (h1:x<=D % W/\D % W<x+8) (h2:y<=D / W/\D / W<y+8) :
  ∀ i,i<=4->(D / W-y) / 4*2+(D % W-x) / 4<i->jQ (bg q / 2) ((kD f b x y q i).pix.getD D 0) (b.getD ((D / W-y)*8+(D % W-x)) 0)
 | 0,_,h=>by omega
 | i+1,hi,h=>by
  have L:=Em hf E M hx hy V J i Qa;obtain ⟨a,c⟩:=Cq f b x y q i;have I:x+i % 2*4+4<=W:=Qa;have O:y+i / 2*4+4<=Hh:=Qa;have ex:(x:Int)+((i % 2:Nat):Int)*4=((x+i % 2*4:Nat):Int):=by push_cast;rfl
  have ey:(y:Int)+((i / 2:Nat):Int)*4=((y+i / 2*4:Nat):Int):=by push_cast;rfl
  have Y:=tB L (a.trans E) (c.trans M) O;show jQ (bg q / 2) ((ek (kD f b x y q i) ((x:Int)+((i % 2:Nat):Int)*4) ((y:Int)+((i / 2:Nat):Int)*4) 4 (aI (kD f b x y q i) (av b i) ((x:Int)+((i % 2:Nat):Int)*4) ((y:Int)+((i / 2:Nat):Int)*4) 4).1 q (fV (kD f b x y q i) (av b i) ((x:Int)+((i % 2:Nat):Int)*4) ((y:Int)+((i / 2:Nat):Int)*4) 4 q)).pix.getD D 0) _;rw [ex,ey];have Z:=ii b i;have F:=iV V i;by_cases he:(D / W-y) / 4*2+(D % W-x) / 4=i
  ·have P:=iR L.sam ((x+i % 2*4:Nat):Int) ((y+i / 2*4:Nat):Int) (n:=4) Qa (aI (kD f b x y q i) (av b i) ((x+i % 2*4:Nat):Int) ((y+i / 2*4:Nat):Int) 4).1
   unfold ek;rw [rX (n:=4) (a.trans E) Qa (by rw [gV (by rw [dl,cV];exact (iD (n:=4) (.inl rfl) L.sam Z F _ _ J).1.symm),dl,cV]) I Y Qa Qa];have N:=sy (n:=4) (.inl rfl) Z P.1 F J (k:=(D / W-(y+i / 2*4))*4+(D % W-(x+i % 2*4))) Qa;have eb:(av b i).getD ((D / W-(y+i / 2*4))*4+(D % W-(x+i % 2*4))) 0=b.getD ((D / W-y)*8+(D % W-x)) 0:=by
    unfold av;rw [Pd,Pz,List.getElem?_range Qa];show b.getD _ 0=_
    congr 1
    omega
   rw [eb] at N;exact N
  ·unfold ek
   rw [(mL (a.trans E) I Y Qa).1];exact vO hf E M hx hy hb V J h1 h2 i Qa Qa
theorem yX {src prev f:ah} {key:Bool} {q reach:Nat} (hs:FrOk src) (Y:FrOk f) (hp:key=false->FrOk prev/\prev.W=src.W/\prev.H=src.H) (M:q<=15) {W Hh x y D:Nat} (J:f.W=(W:Int)) (hH:f.H=(Hh:Int)) (hsW:src.W=(W:Int)) (hsH:src.H=(Hh:Int))
  (hx:x+8<=W) (hy:y+8<=Hh) (h1:x<=D % W/\D % W<x+8) (I:y<=D / W/\D / W<y+8) :
  jQ (bg q / 2) ((bk f prev x y q (aT src prev key q reach f x y)).pix.getD D 0) (src.pix.getD D 0):=by
 have N:0<W:=Qa;have F:=nw src x y 8;have sb:=pD hs.sam x y 8;have O:=tB Y J hH hy;rw [<- Oc hsW N h1 I];have Z:(D / W-y)*8+(D % W-x)<8*8:=Qa;unfold aT;generalize aP src x y 8=b at *
 have L:jQ (bg q / 2) ((bk f prev x y q (sr f b x y q)).pix.getD D 0) (b.getD ((D / W-y)*8+(D % W-x)) 0):=by
  have e:bk f prev x y q (sr f b x y q)=dP f x y 8 (gU (fO f x y 8 (aI f b x y 8).1) (bB b (fO f x y 8 (aI f b x y 8).1) q) q):=rfl;have P:=iR Y.sam (x:Int) (y:Int) (n:=8) Qa (aI f b x y 8).1;rw [e,rX (n:=8) J N (by rw [gV (by unfold bB;rw [fU,fR F P.1,P.1]),P.1]) hx O h1 I];exact sy (.inr rfl) F P.1 sb M Z
 have S:jQ (bg q / 2) ((bk f prev x y q (nX f b x y q)).pix.getD D 0) (b.getD ((D / W-y)*8+(D % W-x)) 0):=by
  rw [Im];exact vO Y J hH hx hy F sb M h1 I 4 Qa Qa
 have R:∀ r:j4×Int,(0<=r.2->jQ (bg q / 2) ((bk f prev x y q r.1).pix.getD D 0) (b.getD ((D / W-y)*8+(D % W-x)) 0))->jQ (bg q / 2) ((bk f prev x y q (jg f b x y q r)).pix.getD D 0) (b.getD ((D / W-y)*8+(D % W-x)) 0):=fun r h =>
  gW (P:=fun s=>jQ (bg q / 2) ((bk f prev x y q s).pix.getD D 0) (b.getD ((D / W-y)*8+(D % W-x)) 0)) (fun _=>gW (P:=fun s=>jQ (bg q / 2) ((bk f prev x y q s).pix.getD D 0) (b.getD ((D / W-y)*8+(D % W-x)) 0)) h L) S
 cases key with
 | true =>
  rw [if_pos rfl];exact R (r6,-1) (fun h=>absurd h Ql)
 | false =>
  obtain ⟨hpf,hpW,hpH⟩:=hp rfl;rw [if_neg Qb]
  split
  ·rename_i hz
   have e:bk f prev x y q r6=dP f x y 8 (aq prev x y 8 0 0):=rfl;have E:=aF prev x y 8 0 0;rw [e,rX (n:=8) J N E hx O h1 I];have hl:(dX b (aq prev x y 8 0 0)).length=8*8:=fR F E;have hr:=wU (.inr rfl) hl M Z;have hz2:ft (dX b (aq prev x y 8 0 0)) q=List.replicate 64 0:=by
    unfold rG bB at hz;rw [t6] at hz;exact List.eq_replicate_iff.2 ⟨by rw [fU,hl],fun x hx=>by simpa using hz x hx⟩
   have hrz:(ce (List.replicate 64 0) (q:Int)).getD ((D / W-y)*8+(D % W-x)) 0=0:=by
    have V:ce (List.replicate 64 0) (q:Int)=List.replicate 64 0:=by
     unfold ce;rw [BL]
     decide +kernel
    rw [V,Pd,List.getElem?_replicate]
    split <;> rfl
   rw [hz2,hrz] at hr;have V:(dX b (aq prev x y 8 0 0)).getD ((D / W-y)*8+(D % W-x)) 0=b.getD ((D / W-y)*8+(D % W-x)) 0-(aq prev x y 8 0 0).getD ((D / W-y)*8+(D % W-x)) 0:=by
    unfold dX;exact yB
   rw [V] at hr;unfold jQ;omega
  ·refine R _ (fun _=>?_)
   have e:bk f prev x y q (je prev b x y q reach).1=dP f x y 8 (gU (aq prev x y 8 (aY prev b x y reach).vx (aY prev b x y reach).vy) (bB b (aq prev x y 8 (aY prev b x y reach).vx (aY prev b x y reach).vy) q) q):=rfl;have E:=aF prev x y 8 (aY prev b x y reach).vx (aY prev b x y reach).vy;rw [e,rX (n:=8) J N (by rw [gV (by unfold bB;rw [fU,fR F E,E]),E]) hx O h1 I];exact sy (.inr rfl) F E sb M Z
theorem zw {src prev:ah} {key:Bool} {q reach:Nat} (L:FrOk src) (I:key=false->FrOk prev/\prev.W=src.W/\prev.H=src.H) (J:q<=15) (hr:reach<=7) :
  FrOk (dJ src prev key q reach).1/\(dJ src prev key q reach).1.W=src.W/\(dJ src prev key q reach).1.H=src.H/\∀ D,D<src.pix.length->jQ (bg q / 2) ((dJ src prev key q reach).1.pix.getD D 0) (src.pix.getD D 0) :=
 Jk L (fun h=>(I h).1.sam) J hr (Q:=fun D v=>jQ (bg q / 2) v (src.pix.getD D 0))
  (fun f W Hh x y D V O N F E hx Y _ _ h1 M=>yX L V I J O N F E hx Y h1 M)
end Go.Proofs.YthcafdfdglfabaaGreatDoor
