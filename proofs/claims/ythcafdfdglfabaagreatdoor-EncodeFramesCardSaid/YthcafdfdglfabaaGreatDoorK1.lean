/- Joined texts: DCoder, DSquare, DFrame, DFrameL, DTurnB, Wht, DFrameE, DTurnP. Conditions: each part names its own. -/
import Derived.Test.YthcafdfdglfabaaGreatDoorC3
namespace Go.Proofs.YthcafdfdglfabaaGreatDoor
open Go.RowKit
set_option linter.unusedVariables false
set_option linter.unusedSimpArgs false
set_option maxRecDepth 100000
set_option maxHeartbeats 16000000
structure Rac where
 b:List Int
 pos:Nat
 off:Int
 r:Int
structure Mod where
 p:List Int
 d:Rac
def Rac.byte (d:Rac):Int:=d.b.getD d.pos 0
def Rac.shift (d:Rac):Rac:=⟨d.b,d.pos+1,min (d.off*256+d.byte) (d.r*256),d.r*256⟩
def Rac.fix:Nat->Rac->Rac
 | 0,d=>d
 | k+1,d=>if d.r<16777216 then Rac.fix k d.shift else d
def Rac.narrow (d:Rac) (w:Int):Bool×Rac :=
 if w<=d.off then (true,Rac.fix 2 ⟨d.b,d.pos,d.off-w,d.r-w⟩) else (false,Rac.fix 2 ⟨d.b,d.pos,d.off,w⟩)
def Km (b:List Int):Rac:=⟨b,4,((b.getD 0 0*256+b.getD 1 0)*256+b.getD 2 0)*256+b.getD 3 0,4294967295⟩
def FZ (b:List Int):Mod:=⟨List.replicate 64 1024,Km b⟩
def eO (x:Int) (b:Bool):Int:=if b then x-x / 32 else x+(2048-x) / 32
def dF (ctx:Nat) (m:Mod):Bool×Mod :=
 ((m.d.narrow (m.d.r / 2048*m.p.getD ctx 0)).1,⟨m.p.set ctx (eO (m.p.getD ctx 0) (m.d.narrow (m.d.r / 2048*m.p.getD ctx 0)).1),(m.d.narrow (m.d.r / 2048*m.p.getD ctx 0)).2⟩)
def fM (m:Mod):Bool×Mod:=((m.d.narrow (m.d.r / 2)).1,⟨m.p,(m.d.narrow (m.d.r / 2)).2⟩)
theorem nE {r p:Int} (h1:16777216<=r) (h2:r<=4294967295) (p1:1<=p) (p2:p<=2047):8192<=r / 2048*p/\r / 2048*p<=r-8192:=by
 have q1:8192<=r / 2048:=Mf;have q2:r / 2048*2048<=r:=Mf;generalize r / 2048=q at *
 have a:=Int.mul_le_mul_of_nonneg_left p1 (show 0<=q by omega);have b:=Int.mul_le_mul_of_nonneg_left p2 (show 0<=q by omega)
 constructor <;> omega
theorem FP {x:Int} (b:Bool) (h:31<=x/\x<=2017):31<=eO x b/\eO x b<=2017:=by
 unfold eO
 split <;> omega
def oc (f:Nat->Nat):Nat->Nat->Mod->Nat×Mod
 | 0,n,m=>(n,m)
 | k+1,n,m=>if (dF (f n) m).1 then oc f k (n+1) (dF (f n) m).2 else (n,(dF (f n) m).2)
def JL (m:Mod):Nat×Mod:=oc (fun n=>min n 63) 3 0 m
def nY (m:Mod):Nat×Mod :=
 if (dF 3 m).1 then (if (dF 5 (dF 3 m).2).1 then 3 else 2,(dF 5 (dF 3 m).2).2) else (if (dF 4 (dF 3 m).2).1 then 1 else 0,(dF 4 (dF 3 m).2).2)
def dG (s:Bool) (n:Nat):Int:=if s then -(n:Int)-1 else (n:Int)+1
def kX (m:Mod):Int×Mod :=
 if (dF 6 m).1 then (dG (fM (dF 6 m).2).1 (oc (fun n=>7+min n 6) 14 0 (fM (dF 6 m).2).2).1,(oc (fun n=>7+min n 6) 14 0 (fM (dF 6 m).2).2).2) else (0,(dF 6 m).2)
def uX:Nat->Nat->Mod->Nat×Mod
 | 0,n,m=>(n,m)
 | k+1,n,m=>if (fM m).1 then uX k (n+1) (fM m).2 else (n,(fM m).2)
def Ew:Nat->Nat->Mod->Nat×Mod
 | 0,n,m=>(n,m)
 | k+1,n,m=>Ew k (if (fM m).1 then 2*n+1 else 2*n) (fM m).2
def uZ (m:Mod):Nat×Mod:=Ew (uX 13 0 m).1 1 (uX 13 0 m).2
def Cz (base:Nat) (m:Mod):Nat×Mod :=
 if (oc (fun n=>base+17+min n 7) 14 0 m).1=14 then (13+(uZ (oc (fun n=>base+17+min n 7) 14 0 m).2).1,(uZ (oc (fun n=>base+17+min n 7) 14 0 m).2).2)
 else oc (fun n=>base+17+min n 7) 14 0 m
def fH (base:Nat) (m:Mod):Int×Mod:=(dG (fM m).1 (Cz base (fM m).2).1,(Cz base (fM m).2).2)
def jJ:ByteArray:=⟨#[99,111,101,102]⟩
def lW:ByteArray:=⟨#[115,121,110,116,97,120]⟩
def Jz:ByteArray:=⟨#[100,101,99,111,100,101]⟩
def bq (n s k:Nat):List Nat:=if (if s % 2=0 then k else s-k)<n/\(if s % 2=0 then s-k else k)<n then [(if s % 2=0 then s-k else k)*n+(if s % 2=0 then k else s-k)] else []
def aC (n:Nat):List Nat:=(List.range (2*n-1)).flatMap fun s=>(List.range (s+1)).flatMap (bq n s)
theorem iQ:aC 4=[0,1,4,8,5,2,3,6,9,12,13,10,7,11,14,15]:=My
theorem iR:aC 8=[0,1,8,16,9,2,3,10,17,24,32,25,18,11,4,5,12,19,26,33,40,48,41,34,27,20,13,6,7,14,21,28,35,42,49,56,57,50,43,36,29,22,15,23,30,37,44,51,58,59,52,45,38,31,39,46,53,60,61,54,47,55,62,63]:=My
theorem fN:(aC 4).length=16:=by rw [iQ];rfl
theorem fO:(aC 8).length=64:=by rw [iR];rfl
theorem nh:∀ x∈aC 4,x<16:=by rw [iQ];decide
theorem ni:∀ x∈aC 8,x<64:=by rw [iR];decide
def oT (base last:Nat):List Nat->Nat->List Int->Mod->Except Err (List Int)×Mod
 | [],i,out,m=>(.ok out,m)
 | a :: rest,i,out,m =>
  if i<last then
   if (dF (base+1+min i 7) m).1 then
    if (fH base (dF (base+1+min i 7) m).2).1 < -16320\/16320<(fH base (dF (base+1+min i 7) m).2).1 then (.error ⟨[(jJ,(i:Int))],3⟩,(fH base (dF (base+1+min i 7) m).2).2)
    else if (dF (base+9+min i 7) (fH base (dF (base+1+min i 7) m).2).2).1 then (.ok (out.set a (fH base (dF (base+1+min i 7) m).2).1),(dF (base+9+min i 7) (fH base (dF (base+1+min i 7) m).2).2).2)
    else oT base last rest (i+1) (out.set a (fH base (dF (base+1+min i 7) m).2).1) (dF (base+9+min i 7) (fH base (dF (base+1+min i 7) m).2).2).2
   else oT base last rest (i+1) out (dF (base+1+min i 7) m).2
  else
   if (fH base m).1 < -16320\/16320<(fH base m).1 then (.error ⟨[(jJ,(i:Int))],3⟩,(fH base m).2)
   else oT base last rest (i+1) (out.set a (fH base m).1) (fH base m).2
def iH (side:Nat):Nat:=if side=8 then 39 else 14
def kO (side:Nat) (m:Mod):Except Err (List Int)×Mod :=
 if (dF (iH side) m).1 then oT (iH side) (side*side-1) (aC side) 0 (List.replicate (side*side) 0) (dF (iH side) m).2
 else (.ok (List.replicate (side*side) 0),(dF (iH side) m).2)
def cu (l:List Int):Prop:=∀ x∈l,-16320<=x/\x<=16320
structure SqD where
 kind:Nat
 mode:Nat
 modes:List Int
 vx:Int
 vy:Int
 large:List Int
 small:List (List Int)
def sq0:SqD:=⟨0,0,[0,0,0,0],0,0,[],[[],[],[],[]]⟩
def mh:Nat->List Int->List (List Int)->Mod->Except Err (List Int×List (List Int))×Mod
 | 0,ms,ls,m=>(.ok (ms,ls),m)
 | k+1,ms,ls,m =>
  match (kO 4 (nY m).2).1 with
  | .error e=>(.error e,(kO 4 (nY m).2).2)
  | .ok l=>mh k (ms ++ [((nY m).1:Int)]) (ls ++ [l]) (kO 4 (nY m).2).2
def nV (key:Bool) (m:Mod):Nat×Mod:=if key then (if (fM m).1 then 3 else 2,(fM m).2) else JL m
def rM (k:Nat) (m:Mod):Except Err SqD×Mod :=
 if k=3 then
  match (mh 4 [] [] m).1 with
  | .error e=>(.error e,(mh 4 [] [] m).2)
  | .ok x=>(.ok ⟨3,0,x.1,0,0,[],x.2⟩,(mh 4 [] [] m).2)
 else if k=0 then (.ok sq0,m)
 else if k=1 then
  match (kO 8 (kX (kX m).2).2).1 with
  | .error e=>(.error e,(kO 8 (kX (kX m).2).2).2)
  | .ok l=>(.ok ⟨1,0,[0,0,0,0],(kX m).1,(kX (kX m).2).1,l,[[],[],[],[]]⟩,(kO 8 (kX (kX m).2).2).2)
 else
  match (kO 8 (nY m).2).1 with
  | .error e=>(.error e,(kO 8 (nY m).2).2)
  | .ok l=>(.ok ⟨2,(nY m).1,[0,0,0,0],0,0,l,[[],[],[],[]]⟩,(kO 8 (nY m).2).2)
def inD (s:ByteArray) (n:Int) (e:Err):Err:=⟨(s,n) :: e.path,e.code⟩
def ko (key:Bool) (m:Mod):Except Err SqD×Mod :=
 match (rM (nV key m).1 (nV key m).2).1 with
 | .error e=>(.error (inD lW (nV key m).1 e),(rM (nV key m).1 (nV key m).2).2)
 | .ok s=>(.ok s,(rM (nV key m).1 (nV key m).2).2)
structure Ky (s:SqD):Prop where
 kind:s.kind<=3
 mode:s.mode<=3
 large:s.kind=1\/s.kind=2->s.large.length=64/\cu s.large
 vec:-15<=s.vx/\s.vx<=15/\-15<=s.vy/\s.vy<=15
 small:s.kind=3->s.modes.length=4/\s.small.length=4/\(∀ x∈s.modes,0<=x/\x<=3)/\∀ l∈s.small,l.length=16/\cu l
structure ai where
 W:Int
 H:Int
 pix:List Int
def dQ:ai:=⟨0,0,[]⟩
def dV (f:ai):Bool:=eA f.W && eA f.H && decide ((f.pix.length:Int)=f.W*f.H) && aX f.pix 0 255
def ed (w h v:Int):ai:=⟨w,h,List.replicate (w*h).toNat v⟩
def ep (v:Int):Int:=min (max v 0) 255
def atD (f:ai) (x y:Int):Int:=f.pix.getD (min (max y 0) (f.H-1)*f.W+min (max x 0) (f.W-1)).toNat 0
def ja (f:ai) (hx hy:Int):Int :=
 if hx % 2=0/\hy % 2=0 then atD f (hx / 2) (hy / 2)
 else if hy % 2=0 then (atD f (hx / 2) (hy / 2)+atD f (hx / 2+1) (hy / 2)+1) / 2
 else if hx % 2=0 then (atD f (hx / 2) (hy / 2)+atD f (hx / 2) (hy / 2+1)+1) / 2
 else (atD f (hx / 2) (hy / 2)+atD f (hx / 2+1) (hy / 2)+atD f (hx / 2) (hy / 2+1)+atD f (hx / 2+1) (hy / 2+1)+2) / 4
def gQ (f:ai) (x y:Int) (n:Nat) (vx vy:Int) (j:Nat):List Int:=(List.range n).map fun i:Nat=>ja f (2*(x+(i:Int))+vx) (2*(y+(j:Int))+vy)
def ar (f:ai) (x y:Int) (n:Nat) (vx vy:Int):List Int:=(List.range n).flatMap (gQ f x y n vx vy)
def aB (f:ai) (x y:Int):Int:=if x<0\/y<0 then 128 else f.pix.getD (y*f.W+x).toNat 0
def cZ (f:ai) (x y:Int) (n:Nat):List Int:=(List.range n).map fun i:Nat=>aB f (x+(i:Int)) (y-1)
def bU (f:ai) (x y:Int) (n:Nat):List Int:=(List.range n).map fun i:Nat=>aB f (x-1) (y+(i:Int))
def ie (top left:List Int):Nat->Int
 | 0=>top.length
 | k+1=>ie top left k+(top.getD k 0+left.getD k 0)
def eQ (mode:Int) (top left:List Int) (corner:Int) (k:Nat):Int :=
 if mode=0 then ie top left top.length / (2*top.length)
 else if mode=1 then top.getD (k % top.length) 0
 else if mode=2 then left.getD (k / top.length) 0
 else ep (left.getD (k / top.length) 0+top.getD (k % top.length) 0-corner)
def bj (mode:Int) (top left:List Int) (corner:Int):List Int:=(List.range (top.length*top.length)).map (eQ mode top left corner)
def si:List Int:=[1,2,4,6,8,12,16,24,32,48,64,96,128,192,256,384]
def bh (qp:Int):Int:=si.getD qp.toNat 0
def cA (l:List Int) (qp:Int):List Int:=l.map fun v=>v*bh qp
def gB (h:Nat) (l:List Int) (i:Nat):List Int:=if i &&& h=0 then (l.set i (l.getD i 0+l.getD (i ||| h) 0)).set (i ||| h) (l.getD i 0-l.getD (i ||| h) 0) else l
def ud (h:Nat) (l:List Int):List Int:=(List.range l.length).foldl (gB h) l
def fI:Nat->Nat->List Int->List Int
 | 0,_,l=>l
 | k+1,h,l=>if h<l.length then fI k (2*h) (ud h l) else l
def bL (l:List Int):List Int:=fI 7 1 l
def bQ (l:List Int):List Int:=(bL l).map fun v=>(v+(l.length:Int) / 2) / l.length
def bZ (l:List Int) (qp:Int):List Int:=bQ (cA l qp)
def fS (p l:List Int) (qp:Int):List Int:=List.zipWith (fun a v=>ep (a+v)) p (bZ l qp)
def kG (pix:List Int) (o:Nat) (row:List Int):List Int:=pix.take o ++ row ++ pix.drop (o+row.length)
def fC (W:Int) (x y:Int) (n:Nat) (b:List Int) (pix:List Int) (j:Nat):List Int:=kG pix ((y+j)*W+x).toNat ((b.drop (j*n)).take n)
def dz (f:ai) (x y:Int) (n:Nat) (b:List Int):ai:={ f with pix:=(List.range n).foldl (fC f.W x y n b) f.pix }
def dR (f:ai) (x y:Int) (n:Nat) (mode qp:Int) (l:List Int):ai :=
 dz f x y n (fS (bj mode (cZ f x y n) (bU f x y n) (aB f (x-1) (y-1))) l qp)
def cj (x y qp:Int) (s:SqD) (f:ai) (i:Nat):ai:=dR f (x+((i % 2:Nat):Int)*4) (y+((i / 2:Nat):Int)*4) 4 (s.modes.getD i 0) qp (s.small.getD i [])
def bf (f prev:ai) (x y qp:Int) (s:SqD):ai :=
 if s.kind=0 then dz f x y 8 (ar prev x y 8 0 0)
 else if s.kind=1 then dz f x y 8 (fS (ar prev x y 8 s.vx s.vy) s.large qp)
 else if s.kind=2 then dR f x y 8 s.mode qp s.large
 else (List.range 4).foldl (cj x y qp s) f
def iC (key:Bool) (prev:ai) (qp:Int):Nat->Nat->ai->Mod->Except Err ai
 | 0,_,f,_=>.ok f
 | k+1,i,f,m =>
  match (ko key m).1 with
  | .error e=>.error (inD Jz i e)
  | .ok s=>iC key prev qp k (i+1) (bf f prev ((i:Int)*8 % f.W) ((i:Int)*8 / f.W*8) qp s) (ko key m).2
def eP (prev:ai) (w h:Int):Bool:=dV prev && decide (prev.W=w) && decide (prev.H=h)
def EY (c:kH) (prev:ai) (w h:Int):Except Err ai :=
 if io w h 128=false then .error ⟨[],3⟩
 else match Iw c with
  | some k=>.error ⟨[],k⟩
  | none =>
   if (c.kind=2\/c.kind=3)/\eP prev w h=false then .error ⟨[],12⟩
   else if c.kind=4 then .ok (ed w h 128)
   else if c.kind=3 then .ok ⟨w,h,prev.pix⟩
   else iC (decide (c.kind=1)) prev (c.data.getD 0 0) (w*h / 64).toNat 0 (ed w h 128) (FZ (c.data.drop 1))
def au (l:List Int):Prop:=∀ x∈l,0<=x/\x<=255
theorem ee {l:List Int}:aX l 0 255=true↔au l:=by
 unfold aX au;rw [List.all_eq_true];simp
theorem au.at {l:List Int} (h:au l) (i:Nat):0<=l.getD i 0/\l.getD i 0<=255:=by
 rw [Le];cases hx:l[i]? with
 | none=>simp
 | some x=>exact h x (Me hx)
theorem au.append {l m:List Int} (h:au l) (g:au m):au (l ++ m):=fun x hx=>(List.mem_append.1 hx).elim (h x) (g x)
theorem au.take {l:List Int} (h:au l) (n:Nat):au (l.take n):=fun x hx=>h x (List.mem_of_mem_take hx)
theorem au.drop {l:List Int} (h:au l) (n:Nat):au (l.drop n):=fun x hx=>h x (List.mem_of_mem_drop hx)
theorem iJ (v:Int):0<=ep v/\ep v<=255:=by unfold ep;omega
structure FrOk (f:ai):Prop where
 w0:8<=f.W
 w1:f.W<=32
 w8:f.W % 8=0
 h0:8<=f.H
 h1:f.H<=32
 h8:f.H % 8=0
 len:(f.pix.length:Int)=f.W*f.H
 sam:au f.pix
theorem lZ {n:Int}:eA n=true↔8<=n/\n<=32/\n % 8=0:=by unfold eA;exact decide_eq_true_iff
theorem dL {f:ai}:dV f=true↔FrOk f:=by
 unfold dV;rw [Bool.and_eq_true,Bool.and_eq_true,Bool.and_eq_true,lZ,lZ,ee,decide_eq_true_iff];exact ⟨fun ⟨⟨⟨⟨a,b,c⟩,d,e,f⟩,g⟩,h⟩=>⟨a,b,c,d,e,f,g,h⟩,fun ⟨a,b,c,d,e,f,g,h⟩=>⟨⟨⟨⟨a,b,c⟩,d,e,f⟩,g⟩,h⟩⟩
theorem ii {f:ai} (h:au f.pix) (x y:Int):0<=atD f x y/\atD f x y<=255:=h.at _
theorem rb {f:ai} (h:au f.pix) (x y:Int):0<=ja f x y/\ja f x y<=255:=by
 have a:=ii h (x / 2) (y / 2);have b:=ii h (x / 2+1) (y / 2);have c:=ii h (x / 2) (y / 2+1);have d:=ii h (x / 2+1) (y / 2+1);unfold ja
 split
 ·exact a
 split
 ·omega
 split
 ·omega
 ·omega
theorem iY {α β:Type} (k:Nat) (g:α->List β):∀ (l:List α),(∀ x∈l,(g x).length=k)->(l.flatMap g).length=l.length*k
 | [],_=>by simp
 | x :: l,h=>by
  rw [List.flatMap_cons,Ln,iY k g l (fun y hy=>h y (Lx _ hy)),h x List.mem_cons_self,Lr,Nat.add_mul];omega
theorem aD (f:ai) (x y:Int) (n:Nat) (vx vy:Int):(ar f x y n vx vy).length=n*n:=by
 unfold ar;rw [iY n _ _ (fun j _=>by simp [gQ]),List.length_range]
theorem cD {f:ai} (h:au f.pix) (x y:Int) (n:Nat) (vx vy:Int):au (ar f x y n vx vy):=by
 intro v hv;unfold ar at hv;obtain ⟨j,_,hv⟩:=List.mem_flatMap.1 hv;unfold gQ at hv;obtain ⟨i,_,rfl⟩:=List.mem_map.1 hv;exact rb h _ _
theorem eo {f:ai} (h:au f.pix) (x y:Int):0<=aB f x y/\aB f x y<=255:=by
 unfold aB
 split
 ·omega
 ·exact h.at _
theorem cH (f:ai) (x y:Int) (n:Nat):(cZ f x y n).length=n:=by simp [cZ]
theorem iA (f:ai) (x y:Int) (n:Nat):(bU f x y n).length=n:=by simp [bU]
theorem ix {f:ai} (h:au f.pix) (x y:Int) (n:Nat):au (cZ f x y n):=by
 intro v hv;unfold cZ at hv;obtain ⟨i,_,rfl⟩:=List.mem_map.1 hv;exact eo h _ _
theorem fX {f:ai} (h:au f.pix) (x y:Int) (n:Nat):au (bU f x y n):=by
 intro v hv;unfold bU at hv;obtain ⟨i,_,rfl⟩:=List.mem_map.1 hv;exact eo h _ _
theorem mt {top left:List Int} (h:au top) (g:au left):∀ k:Nat,(top.length:Int)<=ie top left k/\ie top left k<=top.length+510*k
 | 0=>by simp [ie]
 | k+1=>by
  have a:=mt h g k;have b:=h.at k;have c:=g.at k;unfold ie;omega
theorem cS (mode:Int) (top left:List Int) (corner:Int):(bj mode top left corner).length=top.length*top.length:=by simp [bj]
theorem jH {top left:List Int} (h:au top) (g:au left) (hn:1<=top.length) (mode corner:Int):au (bj mode top left corner):=by
 intro v hv;unfold bj at hv;obtain ⟨k,_,rfl⟩:=List.mem_map.1 hv;unfold eQ
 split
 ·have a:=mt h g top.length
  generalize ie top left top.length=s at *
  have hp:(0:Int)<2*(top.length:Int):=Mf;refine ⟨Int.ediv_nonneg Mf Mf,?_⟩;have:s / (2*(top.length:Int))<256:=Int.ediv_lt_of_lt_mul hp Mf;omega
 split
 ·exact h.at _
 split
 ·exact g.at _
 ·exact iJ _
theorem jR (p l:List Int) (qp:Int):au (fS p l qp):=by
 intro v hv;unfold fS at hv;obtain ⟨i,hi⟩:=List.getElem?_of_mem hv;rw [List.getElem?_zipWith] at hi
 split at hi
 ·injection hi with hi;subst hi;exact iJ _
 ·cases hi
theorem pd (h:Nat) (l:List Int) (i:Nat):(gB h l i).length=l.length:=by unfold gB;split <;> simp
theorem tH {α:Type} (g:List Int->α->List Int) (hg:∀ l a,(g l a).length=l.length):∀ (ys:List α) (l:List Int),(ys.foldl g l).length=l.length
 | [],l=>rfl
 | a :: ys,l=>by rw [List.foldl_cons,tH g hg ys,hg]
theorem DV (h:Nat) (l:List Int):(ud h l).length=l.length:=tH _ (pd h) _ _
theorem sw:∀ (k h:Nat) (l:List Int),(fI k h l).length=l.length
 | 0,h,l=>rfl
 | k+1,h,l=>by
  unfold fI
  split
  ·rw [sw k,DV]
  ·rfl
theorem eG (l:List Int):(bL l).length=l.length:=sw _ _ _
theorem dP (l:List Int) (qp:Int):(cA l qp).length=l.length:=by simp [cA]
theorem fP (l:List Int) (qp:Int):(bZ l qp).length=l.length:=by simp [bZ,bQ,eG,dP]
theorem fT {p l:List Int} (h:p.length=l.length) (qp:Int):(fS p l qp).length=p.length:=by
 unfold fS;rw [List.length_zipWith,fP];omega
theorem jI {pix row:List Int} {o:Nat} (h:o+row.length<=pix.length):(kG pix o row).length=pix.length:=by
 unfold kG;simp only [Ln,Lp,Lq];omega
theorem vV {pix row:List Int} (h:au pix) (g:au row) (o:Nat):au (kG pix o row):=((h.take _).append g).append (h.drop _)
theorem oh {W H x y j n:Int} (hW:0<=W) (hx:0<=x) (NA:x+n<=W) (hn:0<=n) (hy:0<=y) (hj:0<=j) (hyj:y+j+1<=H):0<=(y+j)*W+x/\(y+j)*W+x+n<=W*H:=by
 have h1:0<=(y+j)*W:=Int.mul_nonneg Mf hW;have h2:(y+j+1)*W<=H*W:=Int.mul_le_mul_of_nonneg_right hyj hW;rw [Int.add_mul,Int.one_mul,Int.mul_comm H W] at h2
 constructor <;> omega
theorem lB {α:Type} (P:List Int->Prop) (g:List Int->α->List Int):∀ (ys:List α) (l:List Int),P l->(∀ l a,a∈ys->P l->P (g l a))->P (ys.foldl g l)
 | [],l,h,_=>h
 | a :: ys,l,h,hg=>lB P g ys (g l a) (hg l a List.mem_cons_self h) (fun l b hb=>hg l b (Lx _ hb))
theorem lN {f:ai} (h:FrOk f) {x y:Int} {n:Nat} (hx:0<=x) (NA:x+n<=f.W) (hy:0<=y) (NM:y+n<=f.H) {b:List Int} (hb:b.length=n*n) (hs:au b):FrOk (dz f x y n b):=by
 have key:(((List.range n).foldl (fC f.W x y n b) f.pix).length:Int)=f.W*f.H/\au ((List.range n).foldl (fC f.W x y n b) f.pix):=by
  refine lB (fun l=>(l.length:Int)=f.W*f.H/\au l) _ _ _ ⟨h.len,h.sam⟩ (fun l j hj hl=>?_);rw [Md] at hj;obtain ⟨p1,p2⟩:=oh (W:=f.W) (H:=f.H) (x:=x) (y:=y) (j:=j) (n:=n) (by have:=h.w0;omega) hx NA Mf hy Mf Mf;have hl2:((b.drop (j*n)).take n).length<=n:=Mw;refine ⟨?_,vV hl.2 ((hs.drop _).take _) _⟩;unfold fC;rw [jI Mf];exact hl.1
 exact ⟨h.w0,h.w1,h.w8,h.h0,h.h1,h.h8,key.1,key.2⟩
theorem iq {f:ai} (h:FrOk f) {x y:Int} {n:Nat} (hx:0<=x) (NA:x+n<=f.W) (hy:0<=y) (NM:y+n<=f.H) {l:List Int} (hl:l.length=n*n) (hn:1<=n) (mode qp:Int):FrOk (dR f x y n mode qp l):=by
 refine lN h hx NA hy NM ?_ (jR _ _ _);rw [fT (by rw [cS,cH,hl]),cS,cH]
theorem Ge (f:ai) (x y:Int) (n:Nat) (mode qp:Int) (l:List Int):(dR f x y n mode qp l).W=f.W/\(dR f x y n mode qp l).H=f.H:=⟨rfl,rfl⟩
theorem qo (f prev:ai) (x y qp:Int) (s:SqD):(bf f prev x y qp s).W=f.W/\(bf f prev x y qp s).H=f.H:=by
 unfold bf
 split
 ·exact ⟨rfl,rfl⟩
 split
 ·exact ⟨rfl,rfl⟩
 split
 ·exact ⟨rfl,rfl⟩
 ·exact ⟨rfl,rfl⟩
theorem FO {f prev:ai} (h:FrOk f) {s:SqD} (g:s.kind<2->au prev.pix) {x y:Int} (hx:0<=x) (NA:x+8<=f.W) (hy:0<=y) (NM:y+8<=f.H) (hs:Ky s) (qp:Int):FrOk (bf f prev x y qp s):=by
 unfold bf
 split
 ·rename_i h0
  exact lN h hx NA hy NM (aD _ _ _ _ _ _) (cD (g Mf) _ _ _ _ _)
 rename_i h0
 split
 ·rename_i h1
  refine lN h hx NA hy NM ?_ (jR _ _ _);rw [fT (by rw [aD,(hs.large (.inl h1)).1]),aD]
 rename_i h1
 split
 ·rename_i h2
  exact iq (n:=8) h hx NA hy NM (hs.large (.inr h2)).1 Mf _ _
 ·rename_i h2
  have h3:s.kind=3:=by have:=hs.kind;omega
  obtain ⟨a,b,c,d⟩:=hs.small h3;have step:∀ (g:ai) (i:Nat),i<4->FrOk g->g.W=f.W->g.H=f.H->FrOk (cj x y qp s g i)/\(cj x y qp s g i).W=f.W/\(cj x y qp s g i).H=f.H:=by
   intro g i hi hg hgw hgh;refine ⟨(show FrOk (dR g (x+((i % 2:Nat):Int)*4) (y+((i / 2:Nat):Int)*4) 4 (s.modes.getD i 0) qp (s.small.getD i [])) from iq hg Mf Mf Mf Mf ?_ Mf _ _),hgw,hgh⟩;exact (d (s.small.getD i []) (by rw [Le,Lf Mf];exact LM _)).1
  obtain ⟨h0,w0,e0⟩:=step f 0 Mf h rfl rfl;obtain ⟨h1',w1,e1⟩:=step _ 1 Mf h0 w0 e0;obtain ⟨h2',w2,e2⟩:=step _ 2 Mf h1' w1 e1;exact (step _ 3 Mf h2' w2 e2).1
def procB (h i j:Nat):Bool:=if j &&& h=0 then decide (j<i) else decide (j ^^^ h<i)
def Bi (h i j:Nat):Bool :=
 (if i &&& h=0 then !procB h i i && !procB h i (i ||| h) && decide (i ||| h≠i) && (procB h (i+1) j == (procB h i j || decide (j=i) || decide (j=i ||| h))) else true) && (!procB h i j || procB h (i+1) j)
theorem Df:([1,2,4,8,16,32].all fun h=>(List.range 64).all fun i=>(List.range 64).all fun j=>Bi h i j)=true:=My
theorem EN:(([1,2,4,8,16,32].all fun h=>(List.range 64).all fun i=>decide (i ||| h<64)) && ([1,2,4,8].all fun h=>(List.range 16).all fun i=>decide (i ||| h<16)))=true:=My
def cN (B:Int) (l:List Int):Prop:=∀ j,j<l.length->-B<=l.getD j 0/\l.getD j 0<=B
def nC (B:Int) (h i:Nat) (l:List Int):Prop:=∀ j,j<l.length->-(if procB h i j then 2*B else B)<=l.getD j 0/\l.getD j 0<=(if procB h i j then 2*B else B)
theorem Bj {h i j:Nat} (hh:h∈[1,2,4,8,16,32]) (hi:i<64) (hj:j<64):Bi h i j=true:=by
 have:=List.all_eq_true.1 Df h hh;have:=List.all_eq_true.1 this i (List.mem_range.2 hi);exact List.all_eq_true.1 this j (List.mem_range.2 hj)
theorem qY {l:List Int} {i j:Nat} {x:Int} (hi:i<l.length):(l.set i x).getD j 0=if j=i then x else l.getD j 0:=by
 by_cases e:j=i
 ·subst e
  rw [if_pos rfl,Le,LZ hi];rfl
 ·rw [if_neg e,Le,LY (Ne.symm e),<- Le]
theorem nC.step {B:Int} (hB:0<=B) {h i:Nat} {l:List Int} (hh:h∈[1,2,4,8,16,32]) (hl:l.length<=64) (hi:i<l.length) (ho:i ||| h<l.length) (hm:nC B h i l):nC B h (i+1) (gB h l i):=by
 intro j hj;rw [pd] at hj;have hf:=Bj (i:=i) (j:=j) hh Mf Mf;have mj:=hm j hj;have mi:=hm i hi;have mo:=hm (i ||| h) ho;unfold gB;unfold Bi at hf;by_cases hz:i &&& h=0
 ·rw [if_pos hz] at hf |-
  simp only [Bool.and_eq_true,Bool.not_eq_true',decide_eq_true_eq,beq_iff_eq] at hf;obtain ⟨⟨⟨⟨f1,f2⟩,f3⟩,f4⟩,-⟩:=hf;rw [f1] at mi;rw [f2] at mo;simp only [Bool.false_eq_true,if_false] at mi mo;rw [qY (by rw [LK];exact ho),qY hi];by_cases e1:j=i ||| h
  ·have hp:procB h (i+1) j=true:=by rw [f4];simp [e1]
   rw [hp,if_pos e1];simp only [if_true];omega
  ·by_cases e2:j=i
   ·have hp:procB h (i+1) j=true:=by rw [f4];simp [e2]
    rw [hp,if_neg e1,if_pos e2];simp only [if_true];omega
   ·have hp:procB h (i+1) j=procB h i j:=by rw [f4];simp [e1,e2]
    rw [hp,if_neg e1,if_neg e2];exact mj
 ·rw [if_neg hz] at hf |-
  simp only [Bool.true_and,Bool.or_eq_true,Bool.not_eq_true'] at hf;rcases hf with hf | hf
  ·rw [hf] at mj
   simp only [Bool.false_eq_true,if_false] at mj;cases procB h (i+1) j <;> simp only [Bool.false_eq_true,if_false,if_true] <;> omega
  ·rw [hf]
   simp only [if_true];cases hp:procB h i j <;> rw [hp] at mj <;> simp only [Bool.false_eq_true,if_false,if_true] at mj <;> omega
theorem xE {B:Int} {h:Nat} {l:List Int} (hl:cN B l):nC B h 0 l:=by
 intro j hj;have hp:procB h 0 j=false:=by unfold procB;split <;> simp
 rw [hp];simpa only [Bool.false_eq_true,if_false] using hl j hj
theorem nC.all {B:Int} (hB:0<=B) {h i:Nat} {l:List Int} (hm:nC B h i l):cN (2*B) l:=by
 intro j hj;have:=hm j hj;cases hp:procB h i j <;> rw [hp] at this <;> simp only [Bool.false_eq_true,if_false,if_true] at this <;> omega
theorem KM {h i n:Nat} (hn:n=16/\h∈[1,2,4,8]\/n=64/\h∈[1,2,4,8,16,32]) (hi:i<n):i ||| h<n:=by
 have hf:=EN;rw [Bool.and_eq_true] at hf;rcases hn with ⟨rfl,hh⟩ | ⟨rfl,hh⟩
 ·exact of_decide_eq_true (List.all_eq_true.1 (List.all_eq_true.1 hf.2 h hh) i (List.mem_range.2 hi))
 ·exact of_decide_eq_true (List.all_eq_true.1 (List.all_eq_true.1 hf.1 h hh) i (List.mem_range.2 hi))
def dp (c l:List Int):Int:=(List.zipWith (fun a b=>a*b) c l).sum
def jS (c d:List Int):List Int:=List.zipWith (fun a b=>a+b) c d
def dH (c d:List Int):List Int:=List.zipWith (fun a b=>a-b) c d
theorem wE:∀ {c d l:List Int},c.length=d.length->dp (jS c d) l=dp c l+dp d l
 | [],[],l,_=>by simp [dp,jS]
 | a :: c,b :: d,[],h=>by simp [dp,jS]
 | a :: c,b :: d,x :: l,h=>by
  have ih:=wE (c:=c) (d:=d) (l:=l) Ms;simp only [dp,jS,List.zipWith_cons_cons,List.sum_cons] at ih |-
  rw [ih,Int.add_mul];omega
 | [],_ :: _,_,h=>by cases h
 | _ :: _,[],_,h=>by cases h
theorem wG:∀ {c d l:List Int},c.length=d.length->dp (dH c d) l=dp c l-dp d l
 | [],[],l,_=>by simp [dp,dH]
 | a :: c,b :: d,[],h=>by simp [dp,dH]
 | a :: c,b :: d,x :: l,h=>by
  have ih:=wG (c:=c) (d:=d) (l:=l) Ms;simp only [dp,dH,List.zipWith_cons_cons,List.sum_cons] at ih |-
  rw [ih,Int.sub_mul];omega
 | [],_ :: _,_,h=>by cases h
 | _ :: _,[],_,h=>by cases h
def rL (h:Nat) (F:List (List Int)) (i:Nat):List (List Int):=if i &&& h=0 then (F.set i (jS (F.getD i []) (F.getD (i ||| h) []))).set (i ||| h) (dH (F.getD i []) (F.getD (i ||| h) [])) else F
def KS (h:Nat) (F:List (List Int)):List (List Int):=(List.range F.length).foldl (rL h) F
def jh:Nat->Nat->List (List Int)->List (List Int)
 | 0,_,F=>F
 | k+1,h,F=>if h<F.length then jh k (2*h) (KS h F) else F
def eN (F:List (List Int)) (l:List Int):List Int:=F.map fun c=>dp c l
def iE (n:Nat) (F:List (List Int)):Prop:=F.length=n/\∀ c∈F,c.length=n
theorem iE.at {n:Nat} {F:List (List Int)} (h:iE n F) {i:Nat} (hi:i<n):(F.getD i []).length=n:=h.2 _ (by
 rw [Le,Lf (by have:=h.1;omega)];exact LM _)
theorem iE.set {n:Nat} {F:List (List Int)} (h:iE n F) (i:Nat) {c:List Int} (hc:c.length=n):iE n (F.set i c) :=
 ⟨by rw [LK];exact h.1,fun d hd=>by
  rcases List.mem_or_eq_of_mem_set hd with hd | rfl
  ·exact h.2 d hd
  ·exact hc⟩
theorem iE.pair {n:Nat} {F:List (List Int)} (hF:iE n F) {h i:Nat} (hi:i<n) (hh:i ||| h<n):iE n (rL h F i):=by
 unfold rL
 split
 ·exact (hF.set _ (by rw [jS,List.length_zipWith,hF.at hi,hF.at hh,Nat.min_self])).set _ (by rw [dH,List.length_zipWith,hF.at hi,hF.at hh,Nat.min_self])
 ·exact hF
theorem wL {n:Nat} {F:List (List Int)} (hF:iE n F) {i:Nat} (hi:i<n) (l:List Int):(eN F l).getD i 0=dp (F.getD i []) l:=by
 have h1:i<F.length:=by rw [hF.1];exact hi
 rw [Le,Le,eN,LG,Lf h1]
 rfl
theorem zz {n:Nat} {F:List (List Int)} (hF:iE n F) {h i:Nat} (hi:i<n) (hh:i ||| h<n) (l:List Int):eN (rL h F i) l=gB h (eN F l) i:=by
 unfold rL gB
 split
 ·rw [wL hF hi,wL hF hh,<- wE (by rw [hF.at hi,hF.at hh]),<- wG (by rw [hF.at hi,hF.at hh])]
  simp [eN,List.map_set]
 ·rfl
theorem qP {n h:Nat} (l:List Int):∀ (ys:List Nat) {F:List (List Int)},iE n F->(∀ i∈ys,i<n/\i ||| h<n)->eN (ys.foldl (rL h) F) l=ys.foldl (gB h) (eN F l)/\iE n (ys.foldl (rL h) F)
 | [],F,hF,_=>⟨rfl,hF⟩
 | i :: ys,F,hF,hy=>by
  obtain ⟨a,b⟩:=hy i List.mem_cons_self;rw [List.foldl_cons,List.foldl_cons,<- zz hF a b];exact qP l ys (hF.pair a b) (fun j hj=>hy j (Lx _ hj))
theorem KL {e h i:Nat} (hi:i<2 ^ e) (hh:h<2 ^ e):i ||| h<2 ^ e:=Nat.or_lt_two_pow hi hh
theorem kP {e:Nat} (l:List Int):∀ (k h:Nat) {F:List (List Int)},iE (2 ^ e) F->eN (jh k h F) l=fI k h (eN F l)
 | 0,h,F,hF=>rfl
 | k+1,h,F,hF=>by
  have hl:(eN F l).length=F.length:=by simp [eN]
  unfold jh fI;rw [hl]
  split
  ·rename_i hh
   rw [hF.1] at hh;obtain ⟨a,b⟩:=qP (h:=h) l (List.range F.length) hF (fun i hi=>by
    rw [Md,hF.1] at hi;exact ⟨hi,KL hi hh⟩)
   unfold ud;rw [hl,<- a];exact kP l k (2*h) b
  ·rfl
def IG (n i:Nat):List Int:=(List.range n).map fun j=>if j=i then 1 else 0
def jp (n:Nat):List (List Int):=(List.range n).map (IG n)
theorem qK:∀ (ys:List Nat) (f:Nat->Int) (l:List Int),(∀ j∈ys,f j=0)->dp (ys.map f) l=0
 | [],f,l,_=>by simp [dp]
 | y :: ys,f,[],h=>by simp [dp]
 | y :: ys,f,x :: l,h=>by
  have ih:=qK ys f l (fun j hj=>h j (Lx _ hj));have h0:=h y List.mem_cons_self;simp only [dp,Ma,List.zipWith_cons_cons,List.sum_cons] at ih |-
  rw [ih,h0];simp
theorem tz:∀ (k s i:Nat) (l:List Int),s<=i->i<s+k->l.length=k->dp ((List.range' s k).map fun j=>if j=i then 1 else 0) l=l.getD (i-s) 0
 | 0,s,i,l,h1,h2,_=>by omega
 | k+1,s,i,[],h1,h2,hl=>by cases hl
 | k+1,s,i,x :: l,h1,h2,hl=>by
  rw [List.range'_succ,Ma];by_cases hs:s=i
  ·subst hs
   have hz:=qK (List.range' (s+1) k) (fun j=>if j=s then (1:Int) else 0) l (fun j hj=>by
    have:=(List.mem_range'_1.1 hj).1;exact if_neg Mf)
   simp only [dp,List.zipWith_cons_cons,List.sum_cons,if_true] at hz |-
   rw [hz];simp
  ·have ih:=tz k (s+1) i l Mf Mf (by simpa using hl)
   simp only [dp,List.zipWith_cons_cons,List.sum_cons,if_neg hs] at ih |-
   rw [ih,show i-s=(i-(s+1))+1 by omega];simp
theorem iX {n:Nat} {l:List Int} (hl:l.length=n):eN (jp n) l=l:=by
 apply List.ext_getElem?
 intro i;by_cases hi:i<n
 ·have:=tz n 0 i l (Mc _) Mf hl
  rw [<- List.range_eq_range'] at this;simp only [eN,jp,List.map_map,LG,List.getElem?_range hi,Option.map_some,Function.comp];rw [show dp (IG n i) l=l.getD (i-0) 0 from this];simp [hl,hi]
 ·rw [List.getElem?_eq_none (by simp [eN,jp];omega),List.getElem?_eq_none Mf]
def iU (u x:Nat):Int:=if ((u &&& x) % 2+(u &&& x) / 2 % 2+(u &&& x) / 4 % 2) % 2=0 then 1 else -1
def nw (n k:Nat):List Int:=(List.range (n*n)).map fun i=>iU (k % n) (i % n)*iU (k / n) (i / n)
def qf (n:Nat):List (List Int):=(List.range (n*n)).map (nw n)
theorem JF:jh 7 1 (jp 16)=qf 4:=Mh
theorem JG:jh 7 1 (jp 64)=qf 8:=Mh
theorem pG (n:Nat):iE n (jp n):=⟨by simp [jp],fun c hc=>by
 obtain ⟨i,_,rfl⟩:=List.mem_map.1 hc;simp [IG]⟩
theorem dS {n:Nat} (hn:n=4\/n=8) {l:List Int} (hl:l.length=n*n):bL l=(List.range (n*n)).map fun k=>dp (nw n k) l:=by
 have key:bL l=eN (jh 7 1 (jp (n*n))) l:=by
  unfold bL;rcases hn with rfl | rfl
  ·rw [kP (e:=4) l 7 1 (pG 16),iX hl]
  ·rw [kP (e:=6) l 7 1 (pG 64),iX hl]
 rw [key];rcases hn with rfl | rfl
 ·rw [show (4*4:Nat)=16 from rfl,JF];simp [eN,qf]
 ·rw [show (8*8:Nat)=64 from rfl,JG];simp [eN,qf]
theorem gV {w h v:Int}:io w h v=true↔(8<=w/\w<=32/\w % 8=0)/\(8<=h/\h<=32/\h % 8=0)/\0<=v/\v<=255:=by
 unfold io;rw [Bool.and_eq_true,Bool.and_eq_true,lZ,lZ,iw,decide_eq_true_iff];exact ⟨fun ⟨⟨a,b⟩,c⟩=>⟨a,b,c⟩,fun ⟨a,b,c⟩=>⟨⟨a,b⟩,c⟩⟩
theorem lR {w h v:Int} (hn:io w h v=true):FrOk (ed w h v):=by
 obtain ⟨⟨a,b,c⟩,⟨d,e,f⟩,g,i⟩:=gV.1 hn;have hp:0<=w*h:=Int.mul_nonneg Mf Mf;refine ⟨a,b,c,d,e,f,?_,fun x hx=>?_⟩
 ·show ((List.replicate (w*h).toNat v).length:Int)=w*h
  rw [LJ];omega
 ·have:=(List.mem_replicate.1 hx).2;omega
theorem Ed {W H:Int} {i:Nat} (w0:8<=W) (w1:W<=32) (w8:W % 8=0) (h0:8<=H) (h1:H<=32) (h8:H % 8=0) (hi:(i:Int)<W*H / 64) :
  0<=(i:Int)*8 % W/\(i:Int)*8 % W+8<=W/\0<=(i:Int)*8 / W*8/\(i:Int)*8 / W*8+8<=H:=by
 have hW:W=8\/W=16\/W=24\/W=32:=Mf;rcases hW with rfl | rfl | rfl | rfl <;> omega
def PW (n k hh:Nat) (B:Int):Prop:=∃ p:Nat,(n=16/\p<=4\/n=64/\p<=6)/\hh=2 ^ p/\k=7-p/\B=6266880*2 ^ p
theorem PW.start {n:Nat} (h:n=16\/n=64):PW n 7 1 6266880:=⟨0,Mf,rfl,rfl,rfl⟩
theorem JN {p:Nat} (h:p<=6):p=0\/p=1\/p=2\/p=3\/p=4\/p=5\/p=6:=Mf
theorem PW.next {n k hh:Nat} {B:Int} (h:PW n k hh B) (MO:hh<n):PW n (k-1) (2*hh) (2*B)/\k=(k-1)+1/\(n=16/\hh∈[1,2,4,8]\/n=64/\hh∈[1,2,4,8,16,32])/\hh∈[1,2,4,8,16,32]/\0<=B/\B<=200540160/\1<=hh/\hh<=64:=by
 obtain ⟨p,hp,rfl,rfl,rfl⟩:=h;rcases JN (show p<=6 by omega) with rfl | rfl | rfl | rfl | rfl | rfl | rfl
 ·exact ⟨⟨1,Mf,rfl,rfl,rfl⟩,rfl,by rcases hp with hp | hp <;> simp [hp.1],Mg,Mf,Mf,Mf,Mf⟩
 ·exact ⟨⟨2,Mf,rfl,rfl,rfl⟩,rfl,by rcases hp with hp | hp <;> simp [hp.1],Mg,Mf,Mf,Mf,Mf⟩
 ·exact ⟨⟨3,Mf,rfl,rfl,rfl⟩,rfl,by rcases hp with hp | hp <;> simp [hp.1],Mg,Mf,Mf,Mf,Mf⟩
 ·exact ⟨⟨4,Mf,rfl,rfl,rfl⟩,rfl,by rcases hp with hp | hp <;> simp [hp.1],Mg,Mf,Mf,Mf,Mf⟩
 ·have:n=64:=Mf
  exact ⟨⟨5,Mf,rfl,rfl,rfl⟩,rfl,by simp [this],Mg,Mf,Mf,Mf,Mf⟩
 ·have:n=64:=Mf
  exact ⟨⟨6,Mf,rfl,rfl,rfl⟩,rfl,by simp [this],Mg,Mf,Mf,Mf,Mf⟩
 ·have:n=64:=Mf
  omega
theorem PW.bound {n k hh:Nat} {B:Int} (h:PW n k hh B):0<=B/\B<=401080320/\1<=hh/\hh<=64:=by
 obtain ⟨p,hp,rfl,rfl,rfl⟩:=h;rcases JN (show p<=6 by omega) with rfl | rfl | rfl | rfl | rfl | rfl | rfl <;> omega
theorem yL {k h:Nat} {l:List Int} (MO:h<l.length):fI (k+1) h l=fI k (2*h) (ud h l):=by
 rw [fI,if_pos MO]
theorem AR {k h:Nat} {l:List Int} (hge:¬ h<l.length):fI k h l=l:=by
 cases k with
 | zero=>rfl
 | succ k=>rw [fI,if_neg hge]
theorem Ax {n j:Nat} (h:j<n):(List.range n).drop j=j :: (List.range n).drop (j+1):=by
 rw [LC Ms,List.getElem_range]
theorem ue {n j h:Nat} (hj:j<n) (l:List Int):((List.range n).drop j).foldl (gB h) l=((List.range n).drop (j+1)).foldl (gB h) (gB h l j):=by
 rw [Ax hj,List.foldl_cons]
theorem Gj {n h:Nat} (l:List Int):((List.range n).drop n).foldl (gB h) l=l:=by
 rw [List.drop_eq_nil_of_le Mg];rfl
theorem DT {h i:Nat} {l:List Int} (hz:i &&& h=0):gB h l i=(l.set i (l.getD i 0+l.getD (i ||| h) 0)).set (i ||| h) (l.getD i 0-l.getD (i ||| h) 0):=by
 unfold gB;rw [if_pos hz]
theorem Gh {h i:Nat} {l:List Int} (hz:¬ i &&& h=0):gB h l i=l:=by
 unfold gB;rw [if_neg hz]
theorem nC.pair {B:Int} {h i:Nat} {l:List Int} (hh:h∈[1,2,4,8,16,32]) (hl:l.length<=64) (hi:i<l.length) (ho:i ||| h<l.length) (hz:i &&& h=0) (hm:nC B h i l) :
  (i ||| h≠i)/\(-B<=l.getD i 0/\l.getD i 0<=B)/\-B<=l.getD (i ||| h) 0/\l.getD (i ||| h) 0<=B:=by
 have hf:=Bj (i:=i) (j:=i) hh Mf Mf;unfold Bi at hf;rw [if_pos hz] at hf;simp only [Bool.and_eq_true,Bool.not_eq_true',decide_eq_true_eq,beq_iff_eq] at hf;obtain ⟨⟨⟨⟨f1,f2⟩,f3⟩,f4⟩,-⟩:=hf;have mi:=hm i hi;have mo:=hm (i ||| h) ho;rw [f1] at mi;rw [f2] at mo;simp only [Bool.false_eq_true,if_false] at mi mo;exact ⟨f3,mi,mo⟩
theorem cN.mono {A B:Int} {l:List Int} (h:cN A l) (hAB:A<=B):cN B l:=fun j hj=>by have:=h j hj;omega
end Go.Proofs.YthcafdfdglfabaaGreatDoor
