/- Joined texts: DCoder, DSquare, DFrame, DFrameL, DTurnB, DTurnP, DFrameE, Wht. Conditions: each part names its own. -/
import Derived.Test.YthcafdfdglfabaaGreatDoorC2
namespace Go.Proofs.YthcafdfdglfabaaGreatDoor
open Go.RowKit
set_option linter.unusedVariables false
set_option linter.unusedSimpArgs false
set_option maxRecDepth 100000
set_option maxHeartbeats 16000000
structure q8 where
 b:List Int
 pos:Nat
 off:Int
 r:Int
structure j7 where
 p:List Int
 d:q8
def q8.byte (d:q8):Int:=d.b.getD d.pos 0
def q8.shift (d:q8):q8:=⟨d.b,d.pos+1,min (d.off*256+d.byte) (d.r*256),d.r*256⟩
def q8.fix:Nat->q8->q8
 | 0,d=>d
 | k+1,d=>if d.r<16777216 then q8.fix k d.shift else d
def q8.narrow (d:q8) (w:Int):Bool×q8 :=
 if w<=d.off then (true,q8.fix 2 ⟨d.b,d.pos,d.off-w,d.r-w⟩) else (false,q8.fix 2 ⟨d.b,d.pos,d.off,w⟩)
def NY (b:List Int):q8:=⟨b,4,((b.getD 0 0*256+b.getD 1 0)*256+b.getD 2 0)*256+b.getD 3 0,4294967295⟩
def Kh (b:List Int):j7:=⟨List.replicate 64 1024,NY b⟩
def fK (x:Int) (b:Bool):Int:=if b then x-x / 32 else x+(2048-x) / 32
def dV (ctx:Nat) (m:j7):Bool×j7 :=
 ((m.d.narrow (m.d.r / 2048*m.p.getD ctx 0)).1,⟨m.p.set ctx (fK (m.p.getD ctx 0) (m.d.narrow (m.d.r / 2048*m.p.getD ctx 0)).1),(m.d.narrow (m.d.r / 2048*m.p.getD ctx 0)).2⟩)
def gO (m:j7):Bool×j7:=((m.d.narrow (m.d.r / 2)).1,⟨m.p,(m.d.narrow (m.d.r / 2)).2⟩)
theorem pq {r p:Int} (h1:16777216<=r) (F:r<=4294967295) (D:1<=p) (E:p<=2047):8192<=r / 2048*p/\r / 2048*p<=r-8192:=by
 have I:8192<=r / 2048:=Qa;have J:r / 2048*2048<=r:=Qa;generalize r / 2048=q at *
 have a:=C8 D (show 0<=q by omega);have b:=C8 E (show 0<=q by omega)
 constructor <;> omega
theorem JZ {x:Int} (b:Bool) (h:31<=x/\x<=2017):31<=fK x b/\fK x b<=2017:=by
 unfold fK
 split <;> omega
def pP (f:Nat->Nat):Nat->Nat->j7->Nat×j7
 | 0,n,m=>(n,m)
 | k+1,n,m=>if (dV (f n) m).1 then pP f k (n+1) (dV (f n) m).2 else (n,(dV (f n) m).2)
def Nl (m:j7):Nat×j7:=pP (fun n=>min n 63) 3 0 m
def pM (m:j7):Nat×j7 :=
 if (dV 3 m).1 then (if (dV 5 (dV 3 m).2).1 then 3 else 2,(dV 5 (dV 3 m).2).2) else (if (dV 4 (dV 3 m).2).1 then 1 else 0,(dV 4 (dV 3 m).2).2)
def dW (s:Bool) (n:Nat):Int:=if s then -(n:Int)-1 else (n:Int)+1
def mP (m:j7):Int×j7 :=
 if (dV 6 m).1 then (dW (gO (dV 6 m).2).1 (pP (fun n=>7+min n 6) 14 0 (gO (dV 6 m).2).2).1,(pP (fun n=>7+min n 6) 14 0 (gO (dV 6 m).2).2).2) else (0,(dV 6 m).2)
def xM:Nat->Nat->j7->Nat×j7
 | 0,n,m=>(n,m)
 | k+1,n,m=>if (gO m).1 then xM k (n+1) (gO m).2 else (n,(gO m).2)
def IQ:Nat->Nat->j7->Nat×j7
 | 0,n,m=>(n,m)
 | k+1,n,m=>IQ k (if (gO m).1 then 2*n+1 else 2*n) (gO m).2
def xS (m:j7):Nat×j7:=IQ (xM 13 0 m).1 1 (xM 13 0 m).2
def Fu (base:Nat) (m:j7):Nat×j7 :=
 if (pP (fun n=>base+17+min n 7) 14 0 m).1=14 then (13+(xS (pP (fun n=>base+17+min n 7) 14 0 m).2).1,(xS (pP (fun n=>base+17+min n 7) 14 0 m).2).2)
 else pP (fun n=>base+17+min n 7) 14 0 m
def gJ (base:Nat) (m:j7):Int×j7:=(dW (gO m).1 (Fu base (gO m).2).1,(Fu base (gO m).2).2)
def kP:ByteArray:=⟨#[99,111,101,102]⟩
def nR:ByteArray:=⟨#[115,121,110,116,97,120]⟩
def MU:ByteArray:=⟨#[100,101,99,111,100,101]⟩
def bz (n s k:Nat):List Nat:=if (if s % 2=0 then k else s-k)<n/\(if s % 2=0 then s-k else k)<n then [(if s % 2=0 then s-k else k)*n+(if s % 2=0 then k else s-k)] else []
def aD (n:Nat):List Nat:=(List.range (2*n-1)).flatMap fun s=>(List.range (s+1)).flatMap (bz n s)
theorem jL:aD 4=[0,1,4,8,5,2,3,6,9,12,13,10,7,11,14,15]:=Qg
theorem jM:aD 8=[0,1,8,16,9,2,3,10,17,24,32,25,18,11,4,5,12,19,26,33,40,48,41,34,27,20,13,6,7,14,21,28,35,42,49,56,57,50,43,36,29,22,15,23,30,37,44,51,58,59,52,45,38,31,39,46,53,60,61,54,47,55,62,63]:=Qg
theorem gP:(aD 4).length=16:=by rw [jL];rfl
theorem gQ:(aD 8).length=64:=by rw [jM];rfl
theorem oT:∀ x∈aD 4,x<16:=by rw [jL];decide
theorem oU:∀ x∈aD 8,x<64:=by rw [jM];decide
def qI (base last:Nat):List Nat->Nat->List Int->j7->Except l4 (List Int)×j7
 | [],i,out,m=>(.ok out,m)
 | a :: rest,i,out,m =>
  if i<last then
   if (dV (base+1+min i 7) m).1 then
    if (gJ base (dV (base+1+min i 7) m).2).1 < -16320\/16320<(gJ base (dV (base+1+min i 7) m).2).1 then (.error ⟨[(kP,(i:Int))],3⟩,(gJ base (dV (base+1+min i 7) m).2).2)
    else if (dV (base+9+min i 7) (gJ base (dV (base+1+min i 7) m).2).2).1 then (.ok (out.set a (gJ base (dV (base+1+min i 7) m).2).1),(dV (base+9+min i 7) (gJ base (dV (base+1+min i 7) m).2).2).2)
    else qI base last rest (i+1) (out.set a (gJ base (dV (base+1+min i 7) m).2).1) (dV (base+9+min i 7) (gJ base (dV (base+1+min i 7) m).2).2).2
   else qI base last rest (i+1) out (dV (base+1+min i 7) m).2
  else
   if (gJ base m).1 < -16320\/16320<(gJ base m).1 then (.error ⟨[(kP,(i:Int))],3⟩,(gJ base m).2)
   else qI base last rest (i+1) (out.set a (gJ base m).1) (gJ base m).2
def jB (side:Nat):Nat:=if side=8 then 39 else 14
def mE (side:Nat) (m:j7):Except l4 (List Int)×j7 :=
 if (dV (jB side) m).1 then qI (jB side) (side*side-1) (aD side) 0 (List.replicate (side*side) 0) (dV (jB side) m).2
 else (.ok (List.replicate (side*side) 0),(dV (jB side) m).2)
def cE (l:List Int):Prop:=∀ x∈l,-16320<=x/\x<=16320
structure j4 where
 kind:Nat
 mode:Nat
 modes:List Int
 vx:Int
 vy:Int
 large:List Int
 small:List (List Int)
def r6:j4:=⟨0,0,[0,0,0,0],0,0,[],[[],[],[],[]]⟩
def nV:Nat->List Int->List (List Int)->j7->Except l4 (List Int×List (List Int))×j7
 | 0,ms,ls,m=>(.ok (ms,ls),m)
 | k+1,ms,ls,m =>
  match (mE 4 (pM m).2).1 with
  | .error e=>(.error e,(mE 4 (pM m).2).2)
  | .ok l=>nV k (ms ++ [((pM m).1:Int)]) (ls ++ [l]) (mE 4 (pM m).2).2
def pK (key:Bool) (m:j7):Nat×j7:=if key then (if (gO m).1 then 3 else 2,(gO m).2) else Nl m
def ub (k:Nat) (m:j7):Except l4 j4×j7 :=
 if k=3 then
  match (nV 4 [] [] m).1 with
  | .error e=>(.error e,(nV 4 [] [] m).2)
  | .ok x=>(.ok ⟨3,0,x.1,0,0,[],x.2⟩,(nV 4 [] [] m).2)
 else if k=0 then (.ok r6,m)
 else if k=1 then
  match (mE 8 (mP (mP m).2).2).1 with
  | .error e=>(.error e,(mE 8 (mP (mP m).2).2).2)
  | .ok l=>(.ok ⟨1,0,[0,0,0,0],(mP m).1,(mP (mP m).2).1,l,[[],[],[],[]]⟩,(mE 8 (mP (mP m).2).2).2)
 else
  match (mE 8 (pM m).2).1 with
  | .error e=>(.error e,(mE 8 (pM m).2).2)
  | .ok l=>(.ok ⟨2,(pM m).1,[0,0,0,0],0,0,l,[[],[],[],[]]⟩,(mE 8 (pM m).2).2)
def C6 (s:ByteArray) (n:Int) (e:l4):l4:=⟨(s,n) :: e.path,e.code⟩
def lJ (key:Bool) (m:j7):Except l4 j4×j7 :=
 match (ub (pK key m).1 (pK key m).2).1 with
 | .error e=>(.error (C6 nR (pK key m).1 e),(ub (pK key m).1 (pK key m).2).2)
 | .ok s=>(.ok s,(ub (pK key m).1 (pK key m).2).2)
structure Oq (s:j4):Prop where
 kind:s.kind<=3
 mode:s.mode<=3
 large:s.kind=1\/s.kind=2->s.large.length=64/\cE s.large
 vec:-15<=s.vx/\s.vx<=15/\-15<=s.vy/\s.vy<=15
 small:s.kind=3->s.modes.length=4/\s.small.length=4/\(∀ x∈s.modes,0<=x/\x<=3)/\∀ l∈s.small,l.length=16/\cE l
structure ah where
 W:Int
 H:Int
 pix:List Int
structure ud where
 f:ah
 a:Option Addr
 c:Nat
abbrev sT:=@ud.mk
instance (f a c):CoeDep ud (sT f a c) Obj:=⟨.cells #[.int .i64 f.W,.int .i64 f.H,.slice a f.pix.length c] 24⟩
instance (f a c):CoeDep ud (sT f a c) (Array Value):=⟨#[.int .i64 f.W,.int .i64 f.H,.slice a f.pix.length c]⟩
def fC:ah:=⟨0,0,[]⟩
def cT (f:ah):Bool:=fu f.W && fu f.H && decide ((f.pix.length:Int)=f.W*f.H) && aO f.pix 0 255
def ed (w h v:Int):ah:=⟨w,h,List.replicate (w*h).toNat v⟩
def fj (v:Int):Int:=min (max v 0) 255
def m5 (f:ah) (x y:Int):Int:=f.pix.getD (min (max y 0) (f.H-1)*f.W+min (max x 0) (f.W-1)).toNat 0
def jV (f:ah) (hx hy:Int):Int :=
 if hx % 2=0/\hy % 2=0 then m5 f (hx / 2) (hy / 2)
 else if hy % 2=0 then (m5 f (hx / 2) (hy / 2)+m5 f (hx / 2+1) (hy / 2)+1) / 2
 else if hx % 2=0 then (m5 f (hx / 2) (hy / 2)+m5 f (hx / 2) (hy / 2+1)+1) / 2
 else (m5 f (hx / 2) (hy / 2)+m5 f (hx / 2+1) (hy / 2)+m5 f (hx / 2) (hy / 2+1)+m5 f (hx / 2+1) (hy / 2+1)+2) / 4
def iK (f:ah) (x y:Int) (n:Nat) (vx vy:Int) (j:Nat):List Int:=(List.range n).map fun i:Nat=>jV f (2*(x+(i:Int))+vx) (2*(y+(j:Int))+vy)
def aq (f:ah) (x y:Int) (n:Nat) (vx vy:Int):List Int:=(List.range n).flatMap (iK f x y n vx vy)
def aB (f:ah) (x y:Int):Int:=if x<0\/y<0 then 128 else f.pix.getD (y*f.W+x).toNat 0
def dA (f:ah) (x y:Int) (n:Nat):List Int:=(List.range n).map fun i:Nat=>aB f (x+(i:Int)) (y-1)
def cd (f:ah) (x y:Int) (n:Nat):List Int:=(List.range n).map fun i:Nat=>aB f (x-1) (y+(i:Int))
def ja (top left:List Int):Nat->Int
 | 0=>top.length
 | k+1=>ja top left k+(top.getD k 0+left.getD k 0)
def fN (mode:Int) (top left:List Int) (corner:Int) (k:Nat):Int :=
 if mode=0 then ja top left top.length / (2*top.length)
 else if mode=1 then top.getD (k % top.length) 0
 else if mode=2 then left.getD (k / top.length) 0
 else fj (left.getD (k / top.length) 0+top.getD (k % top.length) 0-corner)
def bi (mode:Int) (top left:List Int) (corner:Int):List Int:=(List.range (top.length*top.length)).map (fN mode top left corner)
def uA:List Int:=[1,2,4,6,8,12,16,24,32,48,64,96,128,192,256,384]
def bg (qp:Int):Int:=uA.getD qp.toNat 0
def cM (l:List Int) (qp:Int):List Int:=l.map fun v=>v*bg qp
def iq (h:Nat) (l:List Int) (i:Nat):List Int:=if i &&& h=0 then (l.set i (l.getD i 0+l.getD (i ||| h) 0)).set (i ||| h) (l.getD i 0-l.getD (i ||| h) 0) else l
def wK (h:Nat) (l:List Int):List Int:=(List.range l.length).foldl (iq h) l
def gK:Nat->Nat->List Int->List Int
 | 0,_,l=>l
 | k+1,h,l=>if h<l.length then gK k (2*h) (wK h l) else l
def bN (l:List Int):List Int:=gK 7 1 l
def bS (l:List Int):List Int:=(bN l).map fun v=>(v+(l.length:Int) / 2) / l.length
def ce (l:List Int) (qp:Int):List Int:=bS (cM l qp)
def gU (p l:List Int) (qp:Int):List Int:=List.zipWith (fun a v=>fj (a+v)) p (ce l qp)
def mq (pix:List Int) (o:Nat) (row:List Int):List Int:=pix.take o ++ row ++ pix.drop (o+row.length)
def gz (W:Int) (x y:Int) (n:Nat) (b:List Int) (pix:List Int) (j:Nat):List Int:=mq pix ((y+j)*W+x).toNat ((b.drop (j*n)).take n)
def dP (f:ah) (x y:Int) (n:Nat) (b:List Int):ah:={ f with pix:=(List.range n).foldl (gz f.W x y n b) f.pix }
def ek (f:ah) (x y:Int) (n:Nat) (mode qp:Int) (l:List Int):ah :=
 dP f x y n (gU (bi mode (dA f x y n) (cd f x y n) (aB f (x-1) (y-1))) l qp)
def cA (x y qp:Int) (s:j4) (f:ah) (i:Nat):ah:=ek f (x+((i % 2:Nat):Int)*4) (y+((i / 2:Nat):Int)*4) 4 (s.modes.getD i 0) qp (s.small.getD i [])
def bk (f prev:ah) (x y qp:Int) (s:j4):ah :=
 if s.kind=0 then dP f x y 8 (aq prev x y 8 0 0)
 else if s.kind=1 then dP f x y 8 (gU (aq prev x y 8 s.vx s.vy) s.large qp)
 else if s.kind=2 then ek f x y 8 s.mode qp s.large
 else (List.range 4).foldl (cA x y qp s) f
def jv (key:Bool) (prev:ah) (qp:Int):Nat->Nat->ah->j7->Except l4 ah
 | 0,_,f,_=>.ok f
 | k+1,i,f,m =>
  match (lJ key m).1 with
  | .error e=>.error (C6 MU i e)
  | .ok s=>jv key prev qp k (i+1) (bk f prev ((i:Int)*8 % f.W) ((i:Int)*8 / f.W*8) qp s) (lJ key m).2
def ej (prev:ah) (w h:Int):Bool:=cT prev && decide (prev.W=w) && decide (prev.H=h)
def Ju (c:bw) (prev:ah) (w h:Int):Except l4 ah :=
 if jJ w h 128=false then .error ⟨[],3⟩
 else match cK c with
  | some k=>.error ⟨[],k⟩
  | none =>
   if (c.kind=2\/c.kind=3)/\ej prev w h=false then .error ⟨[],12⟩
   else if c.kind=4 then .ok (ed w h 128)
   else if c.kind=3 then .ok ⟨w,h,prev.pix⟩
   else jv (decide (c.kind=1)) prev (c.data.getD 0 0) (w*h / 64).toNat 0 (ed w h 128) (Kh (c.data.drop 1))
def ar (l:List Int):Prop:=∀ x∈l,0<=x/\x<=255
theorem eJ {l:List Int}:aO l 0 255=true↔ar l:=by
 unfold aO ar;rw [t6];simp
theorem ar.at {l:List Int} (h:ar l) (i:Nat):0<=l.getD i 0/\l.getD i 0<=255:=by
 rw [Pd];cases hx:l[i]? with
 | none=>simp
 | some x=>exact h x (PZ hx)
theorem ar.append {l m:List Int} (h:ar l) (g:ar m):ar (l ++ m):=fun x hx=>(B0.1 hx).elim (h x) (g x)
theorem ar.take {l:List Int} (h:ar l) (n:Nat):ar (l.take n):=fun x hx=>h x (List.mem_of_mem_take hx)
theorem ar.drop {l:List Int} (h:ar l) (n:Nat):ar (l.drop n):=fun x hx=>h x (List.mem_of_mem_drop hx)
theorem jE (v:Int):0<=fj v/\fj v<=255:=by unfold fj;omega
structure FrOk (f:ah):Prop where
 w0:8<=f.W
 w1:f.W<=32
 w8:f.W % 8=0
 h0:8<=f.H
 h1:f.H<=32
 h8:f.H % 8=0
 len:(f.pix.length:Int)=f.W*f.H
 sam:ar f.pix
theorem nU {n:Int}:fu n=true↔8<=n/\n<=32/\n % 8=0:=by unfold fu;exact decide_eq_true_iff
theorem dp {f:ah}:cT f=true↔FrOk f:=by
 unfold cT;rw [t8,t8,t8,nU,nU,eJ,decide_eq_true_iff];exact ⟨fun ⟨⟨⟨⟨a,b,c⟩,d,e,f⟩,g⟩,h⟩=>⟨a,b,c,d,e,f,g,h⟩,fun ⟨a,b,c,d,e,f,g,h⟩=>⟨⟨⟨⟨a,b,c⟩,d,e,f⟩,g⟩,h⟩⟩
theorem jd {f:ah} (h:ar f.pix) (x y:Int):0<=m5 f x y/\m5 f x y<=255:=h.at _
theorem tu {f:ah} (h:ar f.pix) (x y:Int):0<=jV f x y/\jV f x y<=255:=by
 have a:=jd h (x / 2) (y / 2);have b:=jd h (x / 2+1) (y / 2);have c:=jd h (x / 2) (y / 2+1);have d:=jd h (x / 2+1) (y / 2+1);unfold jV
 split
 ·exact a
 split
 ·omega
 split
 ·omega
 ·omega
theorem jT {α β:Type} (k:Nat) (g:α->List β):∀ (l:List α),(∀ x∈l,(g x).length=k)->(l.flatMap g).length=l.length*k
 | [],_=>by simp
 | x :: l,h=>by
  rw [List.flatMap_cons,Pn,jT k g l (fun y D=>h y (Pv _ D)),h x VY,Pq,Nat.add_mul];omega
theorem aF (f:ah) (x y:Int) (n:Nat) (vx vy:Int):(aq f x y n vx vy).length=n*n:=by
 unfold aq;rw [jT n _ _ (fun j _=>by simp [iK]),List.length_range]
theorem cR {f:ah} (h:ar f.pix) (x y:Int) (n:Nat) (vx vy:Int):ar (aq f x y n vx vy):=by
 intro v D;unfold aq at D;obtain ⟨j,_,D⟩:=List.mem_flatMap.1 D;unfold iK at D;obtain ⟨i,_,rfl⟩:=x8.1 D;exact tu h _ _
theorem eZ {f:ah} (h:ar f.pix) (x y:Int):0<=aB f x y/\aB f x y<=255:=by
 unfold aB
 split
 ·omega
 ·exact h.at _
theorem cV (f:ah) (x y:Int) (n:Nat):(dA f x y n).length=n:=by simp [dA]
theorem ju (f:ah) (x y:Int) (n:Nat):(cd f x y n).length=n:=by simp [cd]
theorem jr {f:ah} (h:ar f.pix) (x y:Int) (n:Nat):ar (dA f x y n):=by
 intro v D;unfold dA at D;obtain ⟨i,_,rfl⟩:=x8.1 D;exact eZ h _ _
theorem hZ {f:ah} (h:ar f.pix) (x y:Int) (n:Nat):ar (cd f x y n):=by
 intro v D;unfold cd at D;obtain ⟨i,_,rfl⟩:=x8.1 D;exact eZ h _ _
theorem nY {top left:List Int} (h:ar top) (g:ar left):∀ k:Nat,(top.length:Int)<=ja top left k/\ja top left k<=top.length+510*k
 | 0=>by simp [ja]
 | k+1=>by
  have a:=nY h g k;have b:=h.at k;have c:=g.at k;unfold ja;omega
theorem dl (mode:Int) (top left:List Int) (corner:Int):(bi mode top left corner).length=top.length*top.length:=by simp [bi]
theorem kN {top left:List Int} (h:ar top) (g:ar left) (F:1<=top.length) (mode corner:Int):ar (bi mode top left corner):=by
 intro v D;unfold bi at D;obtain ⟨k,_,rfl⟩:=x8.1 D;unfold fN
 split
 ·have a:=nY h g top.length
  generalize ja top left top.length=s at *
  have E:(0:Int)<2*(top.length:Int):=Qa;refine ⟨Int.ediv_nonneg Qa Qa,?_⟩;have:s / (2*(top.length:Int))<256:=Int.ediv_lt_of_lt_mul E Qa;omega
 split
 ·exact h.at _
 split
 ·exact g.at _
 ·exact jE _
theorem kZ (p l:List Int) (qp:Int):ar (gU p l qp):=by
 intro v D;unfold gU at D;obtain ⟨i,hi⟩:=List.getElem?_of_mem D;rw [List.getElem?_zipWith] at hi
 split at hi
 ·injection hi with hi;subst hi;exact jE _
 ·cases hi
theorem qO (h:Nat) (l:List Int) (i:Nat):(iq h l i).length=l.length:=by unfold iq;split <;> simp
theorem vX {α:Type} (g:List Int->α->List Int) (E:∀ l a,(g l a).length=l.length):∀ (D:List α) (l:List Int),(D.foldl g l).length=l.length
 | [],l=>rfl
 | a :: D,l=>by rw [List.foldl_cons,vX g E D,E]
theorem Ia (h:Nat) (l:List Int):(wK h l).length=l.length:=vX _ (qO h) _ _
theorem uE:∀ (k h:Nat) (l:List Int),(gK k h l).length=l.length
 | 0,h,l=>rfl
 | k+1,h,l=>by
  unfold gK
  split
  ·rw [uE k,Ia]
  ·rfl
theorem fz (l:List Int):(bN l).length=l.length:=uE _ _ _
theorem ei (l:List Int) (qp:Int):(cM l qp).length=l.length:=by simp [cM]
theorem gR (l:List Int) (qp:Int):(ce l qp).length=l.length:=by simp [ce,bS,fz,ei]
theorem gV {p l:List Int} (h:p.length=l.length) (qp:Int):(gU p l qp).length=p.length:=by
 unfold gU;rw [List.length_zipWith,gR];omega
theorem kO {pix row:List Int} {o:Nat} (h:o+row.length<=pix.length):(mq pix o row).length=pix.length:=by
 unfold mq;simp only [Pn,Po,Pp];omega
theorem yE {pix row:List Int} (h:ar pix) (g:ar row) (o:Nat):ar (mq pix o row):=((h.take _).append g).append (h.drop _)
theorem pV {W H x y j n:Int} (E:0<=W) (hx:0<=x) (I:x+n<=W) (L:0<=n) (M:0<=y) (J:0<=j) (D:y+j+1<=H):0<=(y+j)*W+x/\(y+j)*W+x+n<=W*H:=by
 have h1:0<=(y+j)*W:=Int.mul_nonneg Qa E;have F:(y+j+1)*W<=H*W:=B2 D E;rw [Int.add_mul,Int.one_mul,Int.mul_comm H W] at F
 constructor <;> omega
theorem nu {α:Type} (P:List Int->Prop) (g:List Int->α->List Int):∀ (D:List α) (l:List Int),P l->(∀ l a,a∈D->P l->P (g l a))->P (D.foldl g l)
 | [],l,h,_=>h
 | a :: D,l,h,hg=>nu P g D (g l a) (hg l a VY h) (fun l b E=>hg l b (Pv _ E))
theorem nK {f:ah} (h:FrOk f) {x y:Int} {n:Nat} (hx:0<=x) (E:x+n<=f.W) (L:0<=y) (M:y+n<=f.H) {b:List Int} (N:b.length=n*n) (J:ar b):FrOk (dP f x y n b):=by
 have key:(((List.range n).foldl (gz f.W x y n b) f.pix).length:Int)=f.W*f.H/\ar ((List.range n).foldl (gz f.W x y n b) f.pix):=by
  refine nu (fun l=>(l.length:Int)=f.W*f.H/\ar l) _ _ _ ⟨h.len,h.sam⟩ (fun l j F D=>?_);rw [PY] at F;obtain ⟨O,V⟩:=pV (W:=f.W) (H:=f.H) (x:=x) (y:=y) (j:=j) (n:=n) (j0 h.w0) hx E Qa L Qa Qa;have I:((b.drop (j*n)).take n).length<=n:=Qs;refine ⟨?_,yE D.2 ((J.drop _).take _) _⟩;unfold gz;rw [kO Qa];exact D.1
 exact ⟨h.w0,h.w1,h.w8,h.h0,h.h1,h.h8,key.1,key.2⟩
theorem jl {f:ah} (h:FrOk f) {x y:Int} {n:Nat} (hx:0<=x) (E:x+n<=f.W) (I:0<=y) (D:y+n<=f.H) {l:List Int} (F:l.length=n*n) (J:1<=n) (mode qp:Int):FrOk (ek f x y n mode qp l):=by
 refine nK h hx E I D ?_ (kZ _ _ _);rw [gV (by rw [dl,cV,F]),dl,cV]
theorem Kn (f:ah) (x y:Int) (n:Nat) (mode qp:Int) (l:List Int):(ek f x y n mode qp l).W=f.W/\(ek f x y n mode qp l).H=f.H:=⟨rfl,rfl⟩
theorem rY (f prev:ah) (x y qp:Int) (s:j4):(bk f prev x y qp s).W=f.W/\(bk f prev x y qp s).H=f.H:=by
 unfold bk
 split
 ·exact ⟨rfl,rfl⟩
 split
 ·exact ⟨rfl,rfl⟩
 split
 ·exact ⟨rfl,rfl⟩
 ·exact ⟨rfl,rfl⟩
theorem JY {f prev:ah} (h:FrOk f) {s:j4} (g:s.kind<2->ar prev.pix) {x y:Int} (hx:0<=x) (F:x+8<=f.W) (N:0<=y) (E:y+8<=f.H) (D:Oq s) (qp:Int):FrOk (bk f prev x y qp s):=by
 unfold bk
 split
 ·rename_i h0
  exact nK h hx F N E (aF _ _ _ _ _ _) (cR (g Qa) _ _ _ _ _)
 rename_i h0
 split
 ·rename_i h1
  refine nK h hx F N E ?_ (kZ _ _ _);rw [gV (by rw [aF,(D.large (.inl h1)).1]),aF]
 rename_i h1
 split
 ·rename_i h2
  exact jl (n:=8) h hx F N E (D.large (.inr h2)).1 Qa _ _
 ·rename_i h2
  have Y:s.kind=3:=by have:=D.kind;omega
  obtain ⟨a,b,c,d⟩:=D.small Y;have step:∀ (g:ah) (i:Nat),i<4->FrOk g->g.W=f.W->g.H=f.H->FrOk (cA x y qp s g i)/\(cA x y qp s g i).W=f.W/\(cA x y qp s g i).H=f.H:=by
   intro g i hi Z M L;refine ⟨(show FrOk (ek g (x+((i % 2:Nat):Int)*4) (y+((i / 2:Nat):Int)*4) 4 (s.modes.getD i 0) qp (s.small.getD i [])) from jl Z Qa Qa Qa Qa ?_ Qa _ _),M,L⟩;exact (d (s.small.getD i []) (by rw [Pd,Pe Qa];exact PG _)).1
  obtain ⟨h0,w0,O⟩:=step f 0 Qa h rfl rfl;obtain ⟨I,w1,V⟩:=step _ 1 Qa h0 w0 O;obtain ⟨J,w2,e2⟩:=step _ 2 Qa I w1 V;exact (step _ 3 Qa J w2 e2).1
def procB (h i j:Nat):Bool:=if j &&& h=0 then decide (j<i) else decide (j ^^^ h<i)
def Es (h i j:Nat):Bool :=
 (if i &&& h=0 then !procB h i i && !procB h i (i ||| h) && decide (i ||| h≠i) && (procB h (i+1) j == (procB h i j || decide (j=i) || decide (j=i ||| h))) else true) && (!procB h i j || procB h (i+1) j)
theorem FZ:([1,2,4,8,16,32].all fun h=>(List.range 64).all fun i=>(List.range 64).all fun j=>Es h i j)=true:=Qg
theorem Jo:(([1,2,4,8,16,32].all fun h=>(List.range 64).all fun i=>decide (i ||| h<64)) && ([1,2,4,8].all fun h=>(List.range 16).all fun i=>decide (i ||| h<16)))=true:=Qg
def dg (B:Int) (l:List Int):Prop:=∀ j,j<l.length->-B<=l.getD j 0/\l.getD j 0<=B
def pp (B:Int) (h i:Nat) (l:List Int):Prop:=∀ j,j<l.length->-(if procB h i j then 2*B else B)<=l.getD j 0/\l.getD j 0<=(if procB h i j then 2*B else B)
theorem Et {h i j:Nat} (D:h∈[1,2,4,8,16,32]) (hi:i<64) (E:j<64):Es h i j=true:=by
 have:=t6.1 FZ h D;have:=t6.1 this i (List.mem_range.2 hi);exact t6.1 this j (List.mem_range.2 E)
theorem sZ {l:List Int} {i j:Nat} {x:Int} (hi:i<l.length):(l.set i x).getD j 0=if j=i then x else l.getD j 0:=by
 by_cases e:j=i
 ·subst e
  rw [if_pos rfl,Pd,PT hi];rfl
 ·rw [if_neg e,Pd,PS (Ne.symm e),<- Pd]
theorem pp.step {B:Int} (hB:0<=B) {h i:Nat} {l:List Int} (hh:h∈[1,2,4,8,16,32]) (hl:l.length<=64) (hi:i<l.length) (N:i ||| h<l.length) (L:pp B h i l):pp B h (i+1) (iq h l i):=by
 intro j M;rw [qO] at M;have D:=Et (i:=i) (j:=j) hh Qa Qa;have I:=L j M;have V:=L i hi;have mo:=L (i ||| h) N;unfold iq;unfold Es at D;by_cases O:i &&& h=0
 ·rw [if_pos O] at D |-
  simp only [t8,Bool.not_eq_true',r9,beq_iff_eq] at D;obtain ⟨⟨⟨⟨Y,Z⟩,f3⟩,J⟩,-⟩:=D;rw [Y] at V;rw [Z] at mo;simp only [Bool.false_eq_true,if_false] at V mo;rw [sZ (dn PF N),sZ hi];by_cases F:j=i ||| h
  ·have E:procB h (i+1) j=true:=by rw [J];simp [F]
   rw [E,if_pos F];simp only [if_true];omega
  ·by_cases e2:j=i
   ·have E:procB h (i+1) j=true:=by rw [J];simp [e2]
    rw [E,if_neg F,if_pos e2];simp only [if_true];omega
   ·have E:procB h (i+1) j=procB h i j:=by rw [J];simp [F,e2]
    rw [E,if_neg F,if_neg e2];exact I
 ·rw [if_neg O] at D |-
  simp only [Bool.true_and,Bool.or_eq_true,Bool.not_eq_true'] at D;rcases D with D | D
  ·rw [D] at I
   simp only [Bool.false_eq_true,if_false] at I;cases procB h (i+1) j <;> simp only [Bool.false_eq_true,if_false,if_true] <;> omega
  ·rw [D]
   simp only [if_true];cases E:procB h i j <;> rw [E] at I <;> simp only [Bool.false_eq_true,if_false,if_true] at I <;> omega
theorem Ap {B:Int} {h:Nat} {l:List Int} (E:dg B l):pp B h 0 l:=by
 intro j D;have F:procB h 0 j=false:=by unfold procB;split <;> simp
 rw [F];simpa only [Bool.false_eq_true,if_false] using E j D
theorem pp.all {B:Int} (F:0<=B) {h i:Nat} {l:List Int} (E:pp B h i l):dg (2*B) l:=by
 intro j D;have:=E j D;cases hp:procB h i j <;> rw [hp] at this <;> simp only [Bool.false_eq_true,if_false,if_true] at this <;> omega
theorem OI {h i n:Nat} (E:n=16/\h∈[1,2,4,8]\/n=64/\h∈[1,2,4,8,16,32]) (hi:i<n):i ||| h<n:=by
 have D:=Jo;rw [t8] at D;rcases E with ⟨rfl,hh⟩ | ⟨rfl,hh⟩
 ·exact A2 (t6.1 (t6.1 D.2 h hh) i (List.mem_range.2 hi))
 ·exact A2 (t6.1 (t6.1 D.1 h hh) i (List.mem_range.2 hi))
def PW (n k hh:Nat) (B:Int):Prop:=∃ p:Nat,(n=16/\p<=4\/n=64/\p<=6)/\hh=2 ^ p/\k=7-p/\B=6266880*2 ^ p
theorem PW.start {n:Nat} (h:n=16\/n=64):PW n 7 1 6266880:=⟨0,Qa,rfl,rfl,rfl⟩
theorem Nr {p:Nat} (h:p<=6):p=0\/p=1\/p=2\/p=3\/p=4\/p=5\/p=6:=Qa
theorem PW.next {n k E:Nat} {B:Int} (h:PW n k E B) (F:E<n):PW n (k-1) (2*E) (2*B)/\k=(k-1)+1/\(n=16/\E∈[1,2,4,8]\/n=64/\E∈[1,2,4,8,16,32])/\E∈[1,2,4,8,16,32]/\0<=B/\B<=200540160/\1<=E/\E<=64:=by
 obtain ⟨p,D,rfl,rfl,rfl⟩:=h;rcases Nr (show p<=6 by omega) with rfl | rfl | rfl | rfl | rfl | rfl | rfl
 ·exact ⟨⟨1,Qa,rfl,rfl,rfl⟩,rfl,by rcases D with D | D <;> simp [D.1],Qb,Qa,Qa,Qa,Qa⟩
 ·exact ⟨⟨2,Qa,rfl,rfl,rfl⟩,rfl,by rcases D with D | D <;> simp [D.1],Qb,Qa,Qa,Qa,Qa⟩
 ·exact ⟨⟨3,Qa,rfl,rfl,rfl⟩,rfl,by rcases D with D | D <;> simp [D.1],Qb,Qa,Qa,Qa,Qa⟩
 ·exact ⟨⟨4,Qa,rfl,rfl,rfl⟩,rfl,by rcases D with D | D <;> simp [D.1],Qb,Qa,Qa,Qa,Qa⟩
 ·have:n=64:=Qa
  exact ⟨⟨5,Qa,rfl,rfl,rfl⟩,rfl,by simp [this],Qb,Qa,Qa,Qa,Qa⟩
 ·have:n=64:=Qa
  exact ⟨⟨6,Qa,rfl,rfl,rfl⟩,rfl,by simp [this],Qb,Qa,Qa,Qa,Qa⟩
 ·have:n=64:=Qa
  omega
theorem PW.bound {n k D:Nat} {B:Int} (h:PW n k D B):0<=B/\B<=401080320/\1<=D/\D<=64:=by
 obtain ⟨p,E,rfl,rfl,rfl⟩:=h;rcases Nr (show p<=6 by omega) with rfl | rfl | rfl | rfl | rfl | rfl | rfl <;> omega
theorem BI {k h:Nat} {l:List Int} (D:h<l.length):gK (k+1) h l=gK k (2*h) (wK h l):=by
 rw [gK,if_pos D]
theorem Eb {k h:Nat} {l:List Int} (D:¬ h<l.length):gK k h l=l:=by
 cases k with
 | zero=>rfl
 | succ k=>rw [gK,if_neg D]
theorem DJ {n j:Nat} (h:j<n):(List.range n).drop j=j :: (List.range n).drop (j+1):=by
 rw [Py Qp,List.getElem_range]
theorem wL {n j h:Nat} (D:j<n) (l:List Int):((List.range n).drop j).foldl (iq h) l=((List.range n).drop (j+1)).foldl (iq h) (iq h l j):=by
 rw [DJ D,List.foldl_cons]
theorem Ks {n h:Nat} (l:List Int):((List.range n).drop n).foldl (iq h) l=l:=by
 rw [C1 Qb];rfl
theorem GZ {h i:Nat} {l:List Int} (D:i &&& h=0):iq h l i=(l.set i (l.getD i 0+l.getD (i ||| h) 0)).set (i ||| h) (l.getD i 0-l.getD (i ||| h) 0):=by
 unfold iq;rw [if_pos D]
theorem Kq {h i:Nat} {l:List Int} (D:¬ i &&& h=0):iq h l i=l:=by
 unfold iq;rw [if_neg D]
theorem pp.pair {B:Int} {h i:Nat} {l:List Int} (M:h∈[1,2,4,8,16,32]) (Y:l.length<=64) (hi:i<l.length) (N:i ||| h<l.length) (O:i &&& h=0) (F:pp B h i l) :
  (i ||| h≠i)/\(-B<=l.getD i 0/\l.getD i 0<=B)/\-B<=l.getD (i ||| h) 0/\l.getD (i ||| h) 0<=B:=by
 have D:=Et (i:=i) (j:=i) M Qa Qa;unfold Es at D;rw [if_pos O] at D;simp only [t8,Bool.not_eq_true',r9,beq_iff_eq] at D;obtain ⟨⟨⟨⟨I,J⟩,L⟩,V⟩,-⟩:=D;have E:=F i hi;have mo:=F (i ||| h) N;rw [I] at E;rw [J] at mo;simp only [Bool.false_eq_true,if_false] at E mo;exact ⟨L,E,mo⟩
theorem dg.mono {A B:Int} {l:List Int} (h:dg A l) (D:A<=B):dg B l:=fun j E=>by have:=h j E;omega
theorem iP {w h v:Int}:jJ w h v=true↔(8<=w/\w<=32/\w % 8=0)/\(8<=h/\h<=32/\h % 8=0)/\0<=v/\v<=255:=by
 unfold jJ;rw [t8,t8,nU,nU,jq,decide_eq_true_iff];exact ⟨fun ⟨⟨a,b⟩,c⟩=>⟨a,b,c⟩,fun ⟨a,b,c⟩=>⟨⟨a,b⟩,c⟩⟩
theorem nM {w h v:Int} (D:jJ w h v=true):FrOk (ed w h v):=by
 obtain ⟨⟨a,b,c⟩,⟨d,e,f⟩,g,i⟩:=iP.1 D;have E:0<=w*h:=Int.mul_nonneg Qa Qa;refine ⟨a,b,c,d,e,f,?_,fun x hx=>?_⟩
 ·show ((List.replicate (w*h).toNat v).length:Int)=w*h
  rw [PE];omega
 ·have:=(List.mem_replicate.1 hx).2;omega
theorem Io {W H:Int} {i:Nat} (w0:8<=W) (w1:W<=32) (w8:W % 8=0) (h0:8<=H) (h1:H<=32) (h8:H % 8=0) (hi:(i:Int)<W*H / 64) :
  0<=(i:Int)*8 % W/\(i:Int)*8 % W+8<=W/\0<=(i:Int)*8 / W*8/\(i:Int)*8 / W*8+8<=H:=by
 have D:W=8\/W=16\/W=24\/W=32:=Qa;rcases D with rfl | rfl | rfl | rfl <;> omega
def dI (c l:List Int):Int:=(List.zipWith (fun a b=>a*b) c l).sum
def ld (c d:List Int):List Int:=List.zipWith (fun a b=>a+b) c d
def dX (c d:List Int):List Int:=List.zipWith (fun a b=>a-b) c d
theorem zr:∀ {c d l:List Int},c.length=d.length->dI (ld c d) l=dI c l+dI d l
 | [],[],l,_=>by simp [dI,ld]
 | a :: c,b :: d,[],h=>by simp [dI,ld]
 | a :: c,b :: d,x :: l,h=>by
  have D:=zr (c:=c) (d:=d) (l:=l) Qp;simp only [dI,ld,C0,List.sum_cons] at D |-
  rw [D,Int.add_mul];omega
 | [],_ :: _,_,h=>by cases h
 | _ :: _,[],_,h=>by cases h
theorem zu:∀ {c d l:List Int},c.length=d.length->dI (dX c d) l=dI c l-dI d l
 | [],[],l,_=>by simp [dI,dX]
 | a :: c,b :: d,[],h=>by simp [dI,dX]
 | a :: c,b :: d,x :: l,h=>by
  have D:=zu (c:=c) (d:=d) (l:=l) Qp;simp only [dI,dX,C0,List.sum_cons] at D |-
  rw [D,Int.sub_mul];omega
 | [],_ :: _,_,h=>by cases h
 | _ :: _,[],_,h=>by cases h
def tZ (h:Nat) (F:List (List Int)) (i:Nat):List (List Int):=if i &&& h=0 then (F.set i (ld (F.getD i []) (F.getD (i ||| h) []))).set (i ||| h) (dX (F.getD i []) (F.getD (i ||| h) [])) else F
def OM (h:Nat) (F:List (List Int)):List (List Int):=(List.range F.length).foldl (tZ h) F
def kh:Nat->Nat->List (List Int)->List (List Int)
 | 0,_,F=>F
 | k+1,h,F=>if h<F.length then kh k (2*h) (OM h F) else F
def fI (F:List (List Int)) (l:List Int):List Int:=F.map fun c=>dI c l
def jy (n:Nat) (F:List (List Int)):Prop:=F.length=n/\∀ c∈F,c.length=n
theorem jy.at {n:Nat} {F:List (List Int)} (h:jy n F) {i:Nat} (hi:i<n):(F.getD i []).length=n:=h.2 _ (by
 rw [Pd,Pe (j0 h.1)];exact PG _)
theorem jy.set {n:Nat} {F:List (List Int)} (h:jy n F) (i:Nat) {c:List Int} (E:c.length=n):jy n (F.set i c) :=
 ⟨by rw [PF];exact h.1,fun d D=>by
  rcases List.mem_or_eq_of_mem_set D with D | rfl
  ·exact h.2 d D
  ·exact E⟩
theorem jy.pair {n:Nat} {F:List (List Int)} (D:jy n F) {h i:Nat} (hi:i<n) (E:i ||| h<n):jy n (tZ h F i):=by
 unfold tZ
 split
 ·exact (D.set _ (by rw [ld,List.length_zipWith,D.at hi,D.at E,Nat.min_self])).set _ (by rw [dX,List.length_zipWith,D.at hi,D.at E,Nat.min_self])
 ·exact D
theorem zy {n:Nat} {F:List (List Int)} (D:jy n F) {i:Nat} (hi:i<n) (l:List Int):(fI F l).getD i 0=dI (F.getD i []) l:=by
 have h1:i<F.length:=by rw [D.1];exact hi
 rw [Pd,Pd,fI,Pz,Pe h1]
 rfl
theorem Cy {n:Nat} {F:List (List Int)} (D:jy n F) {h i:Nat} (hi:i<n) (E:i ||| h<n) (l:List Int):fI (tZ h F i) l=iq h (fI F l) i:=by
 unfold tZ iq
 split
 ·rw [zy D hi,zy D E,<- zr (by rw [D.at hi,D.at E]),<- zu (by rw [D.at hi,D.at E])]
  simp [fI,List.map_set]
 ·rfl
theorem sO {n h:Nat} (l:List Int):∀ (D:List Nat) {F:List (List Int)},jy n F->(∀ i∈D,i<n/\i ||| h<n)->fI (D.foldl (tZ h) F) l=D.foldl (iq h) (fI F l)/\jy n (D.foldl (tZ h) F)
 | [],F,hF,_=>⟨rfl,hF⟩
 | i :: D,F,hF,hy=>by
  obtain ⟨a,b⟩:=hy i VY;rw [List.foldl_cons,List.foldl_cons,<- Cy hF a b];exact sO l D (hF.pair a b) (fun j E=>hy j (Pv _ E))
theorem OH {e h i:Nat} (hi:i<2 ^ e) (D:h<2 ^ e):i ||| h<2 ^ e:=Nat.or_lt_two_pow hi D
theorem mG {e:Nat} (l:List Int):∀ (k h:Nat) {F:List (List Int)},jy (2 ^ e) F->fI (kh k h F) l=gK k h (fI F l)
 | 0,h,F,hF=>rfl
 | k+1,h,F,hF=>by
  have D:(fI F l).length=F.length:=by simp [fI]
  unfold kh gK;rw [D]
  split
  ·rename_i hh
   rw [hF.1] at hh;obtain ⟨a,b⟩:=sO (h:=h) l (List.range F.length) hF (fun i hi=>by
    rw [PY,hF.1] at hi;exact ⟨hi,OH hi hh⟩)
   unfold wK;rw [D,<- a];exact mG l k (2*h) b
  ·rfl
def LS (n i:Nat):List Int:=(List.range n).map fun j=>if j=i then 1 else 0
def kt (n:Nat):List (List Int):=(List.range n).map (LS n)
theorem sL:∀ (D:List Nat) (f:Nat->Int) (l:List Int),(∀ j∈D,f j=0)->dI (D.map f) l=0
 | [],f,l,_=>by simp [dI]
 | y :: D,f,[],h=>by simp [dI]
 | y :: D,f,x :: l,h=>by
  have E:=sL D f l (fun j F=>h j (Pv _ F));have h0:=h y VY;simp only [dI,PU,C0,List.sum_cons] at E |-
  rw [E,h0];simp
theorem vQ:∀ (k s i:Nat) (l:List Int),s<=i->i<s+k->l.length=k->dI ((List.range' s k).map fun j=>if j=i then 1 else 0) l=l.getD (i-s) 0
 | 0,s,i,l,h1,h2,_=>by omega
 | k+1,s,i,[],h1,h2,hl=>by cases hl
 | k+1,s,i,x :: l,h1,h2,hl=>by
  rw [List.range'_succ,PU];by_cases D:s=i
  ·subst D
   have E:=sL (List.range' (s+1) k) (fun j=>if j=s then (1:Int) else 0) l (fun j I=>by
    have:=(List.mem_range'_1.1 I).1;exact if_neg Qa)
   simp only [dI,C0,List.sum_cons,if_true] at E |-
   rw [E];simp
  ·have F:=vQ k (s+1) i l Qa Qa (by simpa using hl)
   simp only [dI,C0,List.sum_cons,if_neg D] at F |-
   rw [F,show i-s=(i-(s+1))+1 by omega];simp
theorem jS {n:Nat} {l:List Int} (D:l.length=n):fI (kt n) l=l:=by
 apply List.ext_getElem?
 intro i;by_cases hi:i<n
 ·have:=vQ n 0 i l (PX _) Qa D
  rw [<- List.range_eq_range'] at this;simp only [fI,kt,List.map_map,Pz,List.getElem?_range hi,Option.map_some,Function.comp];rw [show dI (LS n i) l=l.getD (i-0) 0 from this];simp [D,hi]
 ·rw [C3 (by simp [fI,kt];omega),C3 Qa]
def jP (u x:Nat):Int:=if ((u &&& x) % 2+(u &&& x) / 2 % 2+(u &&& x) / 4 % 2) % 2=0 then 1 else -1
def pj (n k:Nat):List Int:=(List.range (n*n)).map fun i=>jP (k % n) (i % n)*jP (k / n) (i / n)
def rQ (n:Nat):List (List Int):=(List.range (n*n)).map (pj n)
theorem Nd:kh 7 1 (kt 16)=rQ 4:=Qc
theorem Nf:kh 7 1 (kt 64)=rQ 8:=Qc
theorem ri (n:Nat):jy n (kt n):=⟨by simp [kt],fun c D=>by
 obtain ⟨i,_,rfl⟩:=x8.1 D;simp [LS]⟩
theorem eo {n:Nat} (E:n=4\/n=8) {l:List Int} (D:l.length=n*n):bN l=(List.range (n*n)).map fun k=>dI (pj n k) l:=by
 have key:bN l=fI (kh 7 1 (kt (n*n))) l:=by
  unfold bN;rcases E with rfl | rfl
  ·rw [mG (e:=4) l 7 1 (ri 16),jS D]
  ·rw [mG (e:=6) l 7 1 (ri 64),jS D]
 rw [key];rcases E with rfl | rfl
 ·rw [show (4*4:Nat)=16 from rfl,Nd];simp [fI,rQ]
 ·rw [show (8*8:Nat)=64 from rfl,Nf];simp [fI,rQ]
end Go.Proofs.YthcafdfdglfabaaGreatDoor
