/- Joined texts: DCoder, DSquare, DFrame, DFrameL, DTurnB, DTurnP, DFrameE, Wht. Conditions: each part names its own. -/
import Derived.Test.YtkigikallkpbcaaGreatDoorC1
import Derived.Test.YtkigikallkpbcaaGreatDoorC3
import Derived.Test.YtkigikallkpbcaaGreatDoorG3
namespace Go.Proofs.YtkigikallkpbcaaGreatDoor
open Go.RowKit
set_option linter.unusedVariables false
set_option linter.unusedSimpArgs false
set_option maxRecDepth 100000
set_option maxHeartbeats 16000000
/-- a range decoder: its bytes, its place, where it stands in its range, the range -/
structure Rac where
 b:List Int
 pos:Nat
 off:Int
 r:Int
/-- a coder that reads: its chances, its range decoder -/
structure Mod where
 p:List Int
 d:Rac
def Rac.byte (d:Rac):Int:=d.b.getD d.pos 0
def Rac.shift (d:Rac):Rac:=⟨d.b,d.pos+1,min (d.off*256+d.byte) (d.r*256),d.r*256⟩
def Rac.fix:Nat→Rac→Rac
 | 0,d=>d
 | k+1,d=>if d.r<16777216 then Rac.fix k d.shift else d
def Rac.narrow (d:Rac) (w:Int):Bool×Rac :=
 if w≤d.off then (true,Rac.fix 2 ⟨d.b,d.pos,d.off-w,d.r-w⟩) else (false,Rac.fix 2 ⟨d.b,d.pos,d.off,w⟩)
def racNew (b:List Int):Rac:=⟨b,4,((b.getD 0 0*256+b.getD 1 0)*256+b.getD 2 0)*256+b.getD 3 0,4294967295⟩
def modNew (b:List Int):Mod:=⟨List.replicate 64 1024,racNew b⟩
def learnV (x:Int) (b:Bool):Int:=if b then x-x / 32 else x+(2048-x) / 32
def bitD (ctx:Nat) (m:Mod):Bool×Mod :=
 ((m.d.narrow (m.d.r / 2048*m.p.getD ctx 0)).1,⟨m.p.set ctx (learnV (m.p.getD ctx 0) (m.d.narrow (m.d.r / 2048*m.p.getD ctx 0)).1),(m.d.narrow (m.d.r / 2048*m.p.getD ctx 0)).2⟩)
def flatD (m:Mod):Bool×Mod:=((m.d.narrow (m.d.r / 2)).1,⟨m.p,(m.d.narrow (m.d.r / 2)).2⟩)
theorem chance_w {r p:Int} (h1:16777216≤r) (h2:r≤4294967295) (p1:1≤p) (p2:p≤2047):8192≤r / 2048*p∧r / 2048*p≤r-8192:=by
 have q1:8192≤r / 2048:=by omega
 have q2:r / 2048*2048≤r:=by omega
 generalize r / 2048=q at *
 have a:=Int.mul_le_mul_of_nonneg_left p1 (show 0≤q by omega)
 have b:=Int.mul_le_mul_of_nonneg_left p2 (show 0≤q by omega)
 constructor <;> omega
theorem learn_in {x:Int} (b:Bool) (h:31≤x∧x≤2017):31≤learnV x b∧learnV x b≤2017:=by
 unfold learnV
 split <;> omega
/-! ### numbers -/
/-- how many ones stand ahead of a zero, at most k -/
def onesD (f:Nat→Nat):Nat→Nat→Mod→Nat×Mod
 | 0,n,m=>(n,m)
 | k+1,n,m=>if (bitD (f n) m).1 then onesD f k (n+1) (bitD (f n) m).2 else (n,(bitD (f n) m).2)
def kindD (m:Mod):Nat×Mod:=onesD (fun n=>min n 63) 3 0 m
def modeD (m:Mod):Nat×Mod :=
 if (bitD 3 m).1 then (if (bitD 5 (bitD 3 m).2).1 then 3 else 2,(bitD 5 (bitD 3 m).2).2) else (if (bitD 4 (bitD 3 m).2).1 then 1 else 0,(bitD 4 (bitD 3 m).2).2)
def signD (s:Bool) (n:Nat):Int:=if s then -(n:Int)-1 else (n:Int)+1
def partD (m:Mod):Int×Mod :=
 if (bitD 6 m).1 then (signD (flatD (bitD 6 m).2).1 (onesD (fun n=>7+min n 6) 14 0 (flatD (bitD 6 m).2).2).1,(onesD (fun n=>7+min n 6) 14 0 (flatD (bitD 6 m).2).2).2) else (0,(bitD 6 m).2)
/-- how many flat ones stand ahead of a flat zero -/
def flatsD:Nat→Nat→Mod→Nat×Mod
 | 0,n,m=>(n,m)
 | k+1,n,m=>if (flatD m).1 then flatsD k (n+1) (flatD m).2 else (n,(flatD m).2)
/-- a number of k flat bits behind n -/
def bitsD:Nat→Nat→Mod→Nat×Mod
 | 0,n,m=>(n,m)
 | k+1,n,m=>bitsD k (if (flatD m).1 then 2*n+1 else 2*n) (flatD m).2
def greatD (m:Mod):Nat×Mod:=bitsD (flatsD 13 0 m).1 1 (flatsD 13 0 m).2
/-- a level's size, less one -/
def sizeD (base:Nat) (m:Mod):Nat×Mod :=
 if (onesD (fun n=>base+17+min n 7) 14 0 m).1=14 then (13+(greatD (onesD (fun n=>base+17+min n 7) 14 0 m).2).1,(greatD (onesD (fun n=>base+17+min n 7) 14 0 m).2).2)
 else onesD (fun n=>base+17+min n 7) 14 0 m
def levelD (base:Nat) (m:Mod):Int×Mod:=(signD (flatD m).1 (sizeD base (flatD m).2).1,(sizeD base (flatD m).2).2)
def sCoef:ByteArray:=⟨#[99,111,101,102]⟩
def sSyntax:ByteArray:=⟨#[115,121,110,116,97,120]⟩
def sDecode:ByteArray:=⟨#[100,101,99,111,100,101]⟩
def rowO (n s k:Nat):List Nat:=if (if s % 2=0 then k else s-k)<n∧(if s % 2=0 then s-k else k)<n then [(if s % 2=0 then s-k else k)*n+(if s % 2=0 then k else s-k)] else []
/-- the order of a square's levels -/
def orderD (n:Nat):List Nat:=(List.range (2*n-1)).flatMap fun s=>(List.range (s+1)).flatMap (rowO n s)
theorem orderD_4:orderD 4=[0,1,4,8,5,2,3,6,9,12,13,10,7,11,14,15]:=by decide +kernel
theorem orderD_8:orderD 8=[0,1,8,16,9,2,3,10,17,24,32,25,18,11,4,5,12,19,26,33,40,48,41,34,27,20,13,6,7,14,21,28,35,42,49,56,57,50,43,36,29,22,15,23,30,37,44,51,58,59,52,45,38,31,39,46,53,60,61,54,47,55,62,63]:=by decide +kernel
theorem orderD_len4:(orderD 4).length=16:=by rw [orderD_4];rfl
theorem orderD_len8:(orderD 8).length=64:=by rw [orderD_8];rfl
theorem orderD_lt4:∀ x∈orderD 4,x<16:=by rw [orderD_4];decide
theorem orderD_lt8:∀ x∈orderD 8,x<64:=by rw [orderD_8];decide
/-- levels, told in their order from the i-th on -/
def coefGo (base last:Nat):List Nat→Nat→List Int→Mod→Except Err (List Int)×Mod
 | [],i,out,m=>(.ok out,m)
 | a :: rest,i,out,m =>
  if i<last then
   if (bitD (base+1+min i 7) m).1 then
    if (levelD base (bitD (base+1+min i 7) m).2).1 < -16320∨16320<(levelD base (bitD (base+1+min i 7) m).2).1 then (.error ⟨[(sCoef,(i:Int))],3⟩,(levelD base (bitD (base+1+min i 7) m).2).2)
    else if (bitD (base+9+min i 7) (levelD base (bitD (base+1+min i 7) m).2).2).1 then (.ok (out.set a (levelD base (bitD (base+1+min i 7) m).2).1),(bitD (base+9+min i 7) (levelD base (bitD (base+1+min i 7) m).2).2).2)
    else coefGo base last rest (i+1) (out.set a (levelD base (bitD (base+1+min i 7) m).2).1) (bitD (base+9+min i 7) (levelD base (bitD (base+1+min i 7) m).2).2).2
   else coefGo base last rest (i+1) out (bitD (base+1+min i 7) m).2
  else
   if (levelD base m).1 < -16320∨16320<(levelD base m).1 then (.error ⟨[(sCoef,(i:Int))],3⟩,(levelD base m).2)
   else coefGo base last rest (i+1) (out.set a (levelD base m).1) (levelD base m).2
def baseD (side:Nat):Nat:=if side=8 then 39 else 14
/-- a list of side * side levels -/
def coefD (side:Nat) (m:Mod):Except Err (List Int)×Mod :=
 if (bitD (baseD side) m).1 then coefGo (baseD side) (side*side-1) (orderD side) 0 (List.replicate (side*side) 0) (bitD (baseD side) m).2
 else (.ok (List.replicate (side*side) 0),(bitD (baseD side) m).2)
/-- levels that may be -/
def LevOk (l:List Int):Prop:=∀ x∈l,-16320≤x∧x≤16320
/-- a square's parts -/
structure SqD where
 kind:Nat
 mode:Nat
 modes:List Int
 vx:Int
 vy:Int
 large:List Int
 small:List (List Int)
def sq0:SqD:=⟨0,0,[0,0,0,0],0,0,[],[[],[],[],[]]⟩
/-- a small square's four parts, from the i-th on: k are left -/
def smallGo:Nat→List Int→List (List Int)→Mod→Except Err (List Int×List (List Int))×Mod
 | 0,ms,ls,m=>(.ok (ms,ls),m)
 | k+1,ms,ls,m =>
  match (coefD 4 (modeD m).2).1 with
  | .error e=>(.error e,(coefD 4 (modeD m).2).2)
  | .ok l=>smallGo k (ms ++ [((modeD m).1:Int)]) (ls ++ [l]) (coefD 4 (modeD m).2).2
def kindK (key:Bool) (m:Mod):Nat×Mod:=if key then (if (flatD m).1 then 3 else 2,(flatD m).2) else kindD m
/-- a square's parts by its kind -/
def partsD (k:Nat) (m:Mod):Except Err SqD×Mod :=
 if k=3 then
  match (smallGo 4 [] [] m).1 with
  | .error e=>(.error e,(smallGo 4 [] [] m).2)
  | .ok x=>(.ok ⟨3,0,x.1,0,0,[],x.2⟩,(smallGo 4 [] [] m).2)
 else if k=0 then (.ok sq0,m)
 else if k=1 then
  match (coefD 8 (partD (partD m).2).2).1 with
  | .error e=>(.error e,(coefD 8 (partD (partD m).2).2).2)
  | .ok l=>(.ok ⟨1,0,[0,0,0,0],(partD m).1,(partD (partD m).2).1,l,[[],[],[],[]]⟩,(coefD 8 (partD (partD m).2).2).2)
 else
  match (coefD 8 (modeD m).2).1 with
  | .error e=>(.error e,(coefD 8 (modeD m).2).2)
  | .ok l=>(.ok ⟨2,(modeD m).1,[0,0,0,0],0,0,l,[[],[],[],[]]⟩,(coefD 8 (modeD m).2).2)
def inD (s:ByteArray) (n:Int) (e:Err):Err:=⟨(s,n) :: e.path,e.code⟩
/-- a square, as the coder reads it -/
def squareD (key:Bool) (m:Mod):Except Err SqD×Mod :=
 match (partsD (kindK key m).1 (kindK key m).2).1 with
 | .error e=>(.error (inD sSyntax (kindK key m).1 e),(partsD (kindK key m).1 (kindK key m).2).2)
 | .ok s=>(.ok s,(partsD (kindK key m).1 (kindK key m).2).2)
/-- a square that the coder reads -/
structure SqOk (s:SqD):Prop where
 kind:s.kind≤3
 mode:s.mode≤3
 large:s.kind=1∨s.kind=2→s.large.length=64∧LevOk s.large
 vec:-15≤s.vx∧s.vx≤15∧-15≤s.vy∧s.vy≤15
 small:s.kind=3→s.modes.length=4∧s.small.length=4∧(∀ x∈s.modes,0≤x∧x≤3)∧∀ l∈s.small,l.length=16∧LevOk l
structure FrameD where
 W:Int
 H:Int
 pix:List Int
def frame0:FrameD:=⟨0,0,[]⟩
def mayF (f:FrameD):Bool:=sideB f.W && sideB f.H && decide ((f.pix.length:Int)=f.W*f.H) && withinB f.pix 0 255
def newF (w h v:Int):FrameD:=⟨w,h,List.replicate (w*h).toNat v⟩
def clipD (v:Int):Int:=min (max v 0) 255
def atD (f:FrameD) (x y:Int):Int:=f.pix.getD (min (max y 0) (f.H-1)*f.W+min (max x 0) (f.W-1)).toNat 0
def halfD (f:FrameD) (hx hy:Int):Int :=
 if hx % 2=0∧hy % 2=0 then atD f (hx / 2) (hy / 2)
 else if hy % 2=0 then (atD f (hx / 2) (hy / 2)+atD f (hx / 2+1) (hy / 2)+1) / 2
 else if hx % 2=0 then (atD f (hx / 2) (hy / 2)+atD f (hx / 2) (hy / 2+1)+1) / 2
 else (atD f (hx / 2) (hy / 2)+atD f (hx / 2+1) (hy / 2)+atD f (hx / 2) (hy / 2+1)+atD f (hx / 2+1) (hy / 2+1)+2) / 4
def blockRow (f:FrameD) (x y:Int) (n:Nat) (vx vy:Int) (j:Nat):List Int:=(List.range n).map fun i:Nat=>halfD f (2*(x+(i:Int))+vx) (2*(y+(j:Int))+vy)
def blockD (f:FrameD) (x y:Int) (n:Nat) (vx vy:Int):List Int:=(List.range n).flatMap (blockRow f x y n vx vy)
def sampleD (f:FrameD) (x y:Int):Int:=if x<0∨y<0 then 128 else f.pix.getD (y*f.W+x).toNat 0
def topD (f:FrameD) (x y:Int) (n:Nat):List Int:=(List.range n).map fun i:Nat=>sampleD f (x+(i:Int)) (y-1)
def leftD (f:FrameD) (x y:Int) (n:Nat):List Int:=(List.range n).map fun i:Nat=>sampleD f (x-1) (y+(i:Int))
def sumD (top left:List Int):Nat→Int
 | 0=>top.length
 | k+1=>sumD top left k+(top.getD k 0+left.getD k 0)
def predAt (mode:Int) (top left:List Int) (corner:Int) (k:Nat):Int :=
 if mode=0 then sumD top left top.length / (2*top.length)
 else if mode=1 then top.getD (k % top.length) 0
 else if mode=2 then left.getD (k / top.length) 0
 else clipD (left.getD (k / top.length) 0+top.getD (k % top.length) 0-corner)
def predD (mode:Int) (top left:List Int) (corner:Int):List Int:=(List.range (top.length*top.length)).map (predAt mode top left corner)
def stepsD:List Int:=[1,2,4,6,8,12,16,24,32,48,64,96,128,192,256,384]
def stepD (qp:Int):Int:=stepsD.getD qp.toNat 0
def valuesD (l:List Int) (qp:Int):List Int:=l.map fun v=>v*stepD qp
/-- one pair of a pass of the transform -/
def pairW (h:Nat) (l:List Int) (i:Nat):List Int:=if i &&& h=0 then (l.set i (l.getD i 0+l.getD (i ||| h) 0)).set (i ||| h) (l.getD i 0-l.getD (i ||| h) 0) else l
def passW (h:Nat) (l:List Int):List Int:=(List.range l.length).foldl (pairW h) l
def turnGo:Nat→Nat→List Int→List Int
 | 0,_,l=>l
 | k+1,h,l=>if h<l.length then turnGo k (2*h) (passW h l) else l
def turnD (l:List Int):List Int:=turnGo 7 1 l
def inverseD (l:List Int):List Int:=(turnD l).map fun v=>(v+(l.length:Int) / 2) / l.length
def restD (l:List Int) (qp:Int):List Int:=inverseD (valuesD l qp)
def addD (p l:List Int) (qp:Int):List Int:=List.zipWith (fun a v=>clipD (a+v)) p (restD l qp)
/-- a row of samples, laid -/
def rowD (pix:List Int) (o:Nat) (row:List Int):List Int:=pix.take o ++ row ++ pix.drop (o+row.length)
def layP (W:Int) (x y:Int) (n:Nat) (b:List Int) (pix:List Int) (j:Nat):List Int:=rowD pix ((y+j)*W+x).toNat ((b.drop (j*n)).take n)
def layD (f:FrameD) (x y:Int) (n:Nat) (b:List Int):FrameD:={ f with pix:=(List.range n).foldl (layP f.W x y n b) f.pix }
def oneD (f:FrameD) (x y:Int) (n:Nat) (mode qp:Int) (l:List Int):FrameD :=
 layD f x y n (addD (predD mode (topD f x y n) (leftD f x y n) (sampleD f (x-1) (y-1))) l qp)
def smallD (x y qp:Int) (s:SqD) (f:FrameD) (i:Nat):FrameD:=oneD f (x+((i % 2:Nat):Int)*4) (y+((i / 2:Nat):Int)*4) 4 (s.modes.getD i 0) qp (s.small.getD i [])
def laySq (f prev:FrameD) (x y qp:Int) (s:SqD):FrameD :=
 if s.kind=0 then layD f x y 8 (blockD prev x y 8 0 0)
 else if s.kind=1 then layD f x y 8 (addD (blockD prev x y 8 s.vx s.vy) s.large qp)
 else if s.kind=2 then oneD f x y 8 s.mode qp s.large
 else (List.range 4).foldl (smallD x y qp s) f
/-- the squares of a frame, from the i-th on: k are left -/
def squaresGo (key:Bool) (prev:FrameD) (qp:Int):Nat→Nat→FrameD→Mod→Except Err FrameD
 | 0,_,f,_=>.ok f
 | k+1,i,f,m =>
  match (squareD key m).1 with
  | .error e=>.error (inD sDecode i e)
  | .ok s=>squaresGo key prev qp k (i+1) (laySq f prev ((i:Int)*8 % f.W) ((i:Int)*8 / f.W*8) qp s) (squareD key m).2
def matesB (prev:FrameD) (w h:Int):Bool:=mayF prev && decide (prev.W=w) && decide (prev.H=h)
/-- what a coded frame means -/
def frameD (c:Coded) (prev:FrameD) (w h:Int):Except Err FrameD :=
 if newB w h 128=false then .error ⟨[],3⟩
 else match readB c with
  | some k=>.error ⟨[],k⟩
  | none =>
   if (c.kind=2∨c.kind=3)∧matesB prev w h=false then .error ⟨[],12⟩
   else if c.kind=4 then .ok (newF w h 128)
   else if c.kind=3 then .ok ⟨w,h,prev.pix⟩
   else squaresGo (decide (c.kind=1)) prev (c.data.getD 0 0) (w*h / 64).toNat 0 (newF w h 128) (modNew (c.data.drop 1))
/-- samples: all within 0 and 255 -/
def SamOk (l:List Int):Prop:=∀ x∈l,0≤x∧x≤255
theorem samOk_iff {l:List Int}:withinB l 0 255=true↔SamOk l:=by
 unfold withinB SamOk
 rw [List.all_eq_true]
 simp
theorem SamOk.at {l:List Int} (h:SamOk l) (i:Nat):0≤l.getD i 0∧l.getD i 0≤255:=by
 rw [List.getD_eq_getElem?_getD]
 cases hx:l[i]? with
 | none=>simp
 | some x=>exact h x (List.mem_of_getElem? hx)
theorem SamOk.append {l m:List Int} (h:SamOk l) (g:SamOk m):SamOk (l ++ m):=fun x hx=>(List.mem_append.1 hx).elim (h x) (g x)
theorem SamOk.take {l:List Int} (h:SamOk l) (n:Nat):SamOk (l.take n):=fun x hx=>h x (List.mem_of_mem_take hx)
theorem SamOk.drop {l:List Int} (h:SamOk l) (n:Nat):SamOk (l.drop n):=fun x hx=>h x (List.mem_of_mem_drop hx)
theorem clipD_in (v:Int):0≤clipD v∧clipD v≤255:=by unfold clipD;omega
/-- a frame that may be -/
structure FrOk (f:FrameD):Prop where
 w0:8≤f.W
 w1:f.W≤32
 w8:f.W % 8=0
 h0:8≤f.H
 h1:f.H≤32
 h8:f.H % 8=0
 len:(f.pix.length:Int)=f.W*f.H
 sam:SamOk f.pix
theorem sideB_iff {n:Int}:sideB n=true↔8≤n∧n≤32∧n % 8=0:=by unfold sideB;exact decide_eq_true_iff
theorem mayF_iff {f:FrameD}:mayF f=true↔FrOk f:=by
 unfold mayF
 rw [Bool.and_eq_true,Bool.and_eq_true,Bool.and_eq_true,sideB_iff,sideB_iff,samOk_iff,decide_eq_true_iff]
 exact ⟨fun ⟨⟨⟨⟨a,b,c⟩,d,e,f⟩,g⟩,h⟩=>⟨a,b,c,d,e,f,g,h⟩,fun ⟨a,b,c,d,e,f,g,h⟩=>⟨⟨⟨⟨a,b,c⟩,d,e,f⟩,g⟩,h⟩⟩
theorem atD_in {f:FrameD} (h:SamOk f.pix) (x y:Int):0≤atD f x y∧atD f x y≤255:=h.at _
theorem halfD_in {f:FrameD} (h:SamOk f.pix) (x y:Int):0≤halfD f x y∧halfD f x y≤255:=by
 have a:=atD_in h (x / 2) (y / 2)
 have b:=atD_in h (x / 2+1) (y / 2)
 have c:=atD_in h (x / 2) (y / 2+1)
 have d:=atD_in h (x / 2+1) (y / 2+1)
 unfold halfD
 split
 ·exact a
 split
 ·omega
 split
 ·omega
 ·omega
theorem flatMap_len {α β:Type} (k:Nat) (g:α→List β):∀ (l:List α),(∀ x∈l,(g x).length=k)→(l.flatMap g).length=l.length*k
 | [],_=>by simp
 | x :: l,h=>by
  rw [List.flatMap_cons,List.length_append,flatMap_len k g l (fun y hy=>h y (List.mem_cons_of_mem _ hy)),h x List.mem_cons_self,List.length_cons,Nat.add_mul]
  omega
theorem blockD_len (f:FrameD) (x y:Int) (n:Nat) (vx vy:Int):(blockD f x y n vx vy).length=n*n:=by
 unfold blockD
 rw [flatMap_len n _ _ (fun j _=>by simp [blockRow]),List.length_range]
theorem blockD_in {f:FrameD} (h:SamOk f.pix) (x y:Int) (n:Nat) (vx vy:Int):SamOk (blockD f x y n vx vy):=by
 intro v hv
 unfold blockD at hv
 obtain ⟨j,_,hv⟩:=List.mem_flatMap.1 hv
 unfold blockRow at hv
 obtain ⟨i,_,rfl⟩:=List.mem_map.1 hv
 exact halfD_in h _ _
theorem sampleD_in {f:FrameD} (h:SamOk f.pix) (x y:Int):0≤sampleD f x y∧sampleD f x y≤255:=by
 unfold sampleD
 split
 ·omega
 ·exact h.at _
theorem topD_len (f:FrameD) (x y:Int) (n:Nat):(topD f x y n).length=n:=by simp [topD]
theorem leftD_len (f:FrameD) (x y:Int) (n:Nat):(leftD f x y n).length=n:=by simp [leftD]
theorem topD_in {f:FrameD} (h:SamOk f.pix) (x y:Int) (n:Nat):SamOk (topD f x y n):=by
 intro v hv
 unfold topD at hv
 obtain ⟨i,_,rfl⟩:=List.mem_map.1 hv
 exact sampleD_in h _ _
theorem leftD_in {f:FrameD} (h:SamOk f.pix) (x y:Int) (n:Nat):SamOk (leftD f x y n):=by
 intro v hv
 unfold leftD at hv
 obtain ⟨i,_,rfl⟩:=List.mem_map.1 hv
 exact sampleD_in h _ _
theorem sumD_in {top left:List Int} (h:SamOk top) (g:SamOk left):∀ k:Nat,(top.length:Int)≤sumD top left k∧sumD top left k≤top.length+510*k
 | 0=>by simp [sumD]
 | k+1=>by
  have a:=sumD_in h g k
  have b:=h.at k
  have c:=g.at k
  unfold sumD
  omega
theorem predD_len (mode:Int) (top left:List Int) (corner:Int):(predD mode top left corner).length=top.length*top.length:=by simp [predD]
theorem predD_in {top left:List Int} (h:SamOk top) (g:SamOk left) (hn:1≤top.length) (mode corner:Int):SamOk (predD mode top left corner):=by
 intro v hv
 unfold predD at hv
 obtain ⟨k,_,rfl⟩:=List.mem_map.1 hv
 unfold predAt
 split
 ·have a:=sumD_in h g top.length
  generalize sumD top left top.length=s at *
  have hp:(0:Int)<2*(top.length:Int):=by omega
  refine ⟨Int.ediv_nonneg (by omega) (by omega),?_⟩
  have:s / (2*(top.length:Int))<256:=Int.ediv_lt_of_lt_mul hp (by omega)
  omega
 split
 ·exact h.at _
 split
 ·exact g.at _
 ·exact clipD_in _
theorem addD_in (p l:List Int) (qp:Int):SamOk (addD p l qp):=by
 intro v hv
 unfold addD at hv
 obtain ⟨i,hi⟩:=List.getElem?_of_mem hv
 rw [List.getElem?_zipWith] at hi
 split at hi
 ·injection hi with hi;subst hi;exact clipD_in _
 ·cases hi
/-! ### the transform keeps lengths and bounds -/
theorem pairW_len (h:Nat) (l:List Int) (i:Nat):(pairW h l i).length=l.length:=by unfold pairW;split <;> simp
theorem foldl_len {α:Type} (g:List Int→α→List Int) (hg:∀ l a,(g l a).length=l.length):∀ (ys:List α) (l:List Int),(ys.foldl g l).length=l.length
 | [],l=>rfl
 | a :: ys,l=>by rw [List.foldl_cons,foldl_len g hg ys,hg]
theorem passW_len (h:Nat) (l:List Int):(passW h l).length=l.length:=foldl_len _ (pairW_len h) _ _
theorem turnGo_len:∀ (k h:Nat) (l:List Int),(turnGo k h l).length=l.length
 | 0,h,l=>rfl
 | k+1,h,l=>by
  unfold turnGo
  split
  ·rw [turnGo_len k,passW_len]
  ·rfl
theorem turnD_len (l:List Int):(turnD l).length=l.length:=turnGo_len _ _ _
theorem valuesD_len (l:List Int) (qp:Int):(valuesD l qp).length=l.length:=by simp [valuesD]
theorem restD_len (l:List Int) (qp:Int):(restD l qp).length=l.length:=by simp [restD,inverseD,turnD_len,valuesD_len]
theorem addD_len {p l:List Int} (h:p.length=l.length) (qp:Int):(addD p l qp).length=p.length:=by
 unfold addD
 rw [List.length_zipWith,restD_len]
 omega
/-! ### laying -/
theorem rowD_len {pix row:List Int} {o:Nat} (h:o+row.length≤pix.length):(rowD pix o row).length=pix.length:=by
 unfold rowD
 simp only [List.length_append,List.length_take,List.length_drop]
 omega
theorem rowD_in {pix row:List Int} (h:SamOk pix) (g:SamOk row) (o:Nat):SamOk (rowD pix o row):=((h.take _).append g).append (h.drop _)
/-- where a row of a square lies -/
theorem place_in {W H x y j n:Int} (hW:0≤W) (hx:0≤x) (hxn:x+n≤W) (hn:0≤n) (hy:0≤y) (hj:0≤j) (hyj:y+j+1≤H):0≤(y+j)*W+x∧(y+j)*W+x+n≤W*H:=by
 have h1:0≤(y+j)*W:=Int.mul_nonneg (by omega) hW
 have h2:(y+j+1)*W≤H*W:=Int.mul_le_mul_of_nonneg_right hyj hW
 rw [Int.add_mul,Int.one_mul,Int.mul_comm H W] at h2
 constructor <;> omega
theorem foldl_inv {α:Type} (P:List Int→Prop) (g:List Int→α→List Int):∀ (ys:List α) (l:List Int),P l→(∀ l a,a∈ys→P l→P (g l a))→P (ys.foldl g l)
 | [],l,h,_=>h
 | a :: ys,l,h,hg=>foldl_inv P g ys (g l a) (hg l a List.mem_cons_self h) (fun l b hb=>hg l b (List.mem_cons_of_mem _ hb))
theorem layD_ok {f:FrameD} (h:FrOk f) {x y:Int} {n:Nat} (hx:0≤x) (hxn:x+n≤f.W) (hy:0≤y) (hyn:y+n≤f.H) {b:List Int} (hb:b.length=n*n) (hs:SamOk b):FrOk (layD f x y n b):=by
 have key:(((List.range n).foldl (layP f.W x y n b) f.pix).length:Int)=f.W*f.H∧SamOk ((List.range n).foldl (layP f.W x y n b) f.pix):=by
  refine foldl_inv (fun l=>(l.length:Int)=f.W*f.H∧SamOk l) _ _ _ ⟨h.len,h.sam⟩ (fun l j hj hl=>?_)
  rw [List.mem_range] at hj
  obtain ⟨p1,p2⟩:=place_in (W:=f.W) (H:=f.H) (x:=x) (y:=y) (j:=j) (n:=n) (by have:=h.w0;omega) hx hxn (by omega) hy (by omega) (by omega)
  have hl2:((b.drop (j*n)).take n).length≤n:=by rw [List.length_take];omega
  refine ⟨?_,rowD_in hl.2 ((hs.drop _).take _) _⟩
  unfold layP
  rw [rowD_len (by omega)]
  exact hl.1
 exact ⟨h.w0,h.w1,h.w8,h.h0,h.h1,h.h8,key.1,key.2⟩
theorem oneD_ok {f:FrameD} (h:FrOk f) {x y:Int} {n:Nat} (hx:0≤x) (hxn:x+n≤f.W) (hy:0≤y) (hyn:y+n≤f.H) {l:List Int} (hl:l.length=n*n) (hn:1≤n) (mode qp:Int):FrOk (oneD f x y n mode qp l):=by
 refine layD_ok h hx hxn hy hyn ?_ (addD_in _ _ _)
 rw [addD_len (by rw [predD_len,topD_len,hl]),predD_len,topD_len]
theorem oneD_W (f:FrameD) (x y:Int) (n:Nat) (mode qp:Int) (l:List Int):(oneD f x y n mode qp l).W=f.W∧(oneD f x y n mode qp l).H=f.H:=⟨rfl,rfl⟩
theorem laySq_W (f prev:FrameD) (x y qp:Int) (s:SqD):(laySq f prev x y qp s).W=f.W∧(laySq f prev x y qp s).H=f.H:=by
 unfold laySq
 split
 ·exact ⟨rfl,rfl⟩
 split
 ·exact ⟨rfl,rfl⟩
 split
 ·exact ⟨rfl,rfl⟩
 ·exact ⟨rfl,rfl⟩
theorem laySq_ok {f prev:FrameD} (h:FrOk f) {s:SqD} (g:s.kind<2→SamOk prev.pix) {x y:Int} (hx:0≤x) (hxn:x+8≤f.W) (hy:0≤y) (hyn:y+8≤f.H) (hs:SqOk s) (qp:Int):FrOk (laySq f prev x y qp s):=by
 unfold laySq
 split
 ·rename_i h0
  exact layD_ok h hx hxn hy hyn (blockD_len _ _ _ _ _ _) (blockD_in (g (by omega)) _ _ _ _ _)
 rename_i h0
 split
 ·rename_i h1
  refine layD_ok h hx hxn hy hyn ?_ (addD_in _ _ _)
  rw [addD_len (by rw [blockD_len,(hs.large (.inl h1)).1]),blockD_len]
 rename_i h1
 split
 ·rename_i h2
  exact oneD_ok (n:=8) h hx hxn hy hyn (hs.large (.inr h2)).1 (by omega) _ _
 ·rename_i h2
  have h3:s.kind=3:=by have:=hs.kind;omega
  obtain ⟨a,b,c,d⟩:=hs.small h3
  have step:∀ (g:FrameD) (i:Nat),i<4→FrOk g→g.W=f.W→g.H=f.H→FrOk (smallD x y qp s g i)∧(smallD x y qp s g i).W=f.W∧(smallD x y qp s g i).H=f.H:=by
   intro g i hi hg hgw hgh
   refine ⟨(show FrOk (oneD g (x+((i % 2:Nat):Int)*4) (y+((i / 2:Nat):Int)*4) 4 (s.modes.getD i 0) qp (s.small.getD i [])) from oneD_ok hg (by omega) (by omega) (by omega) (by omega) ?_ (by omega) _ _),hgw,hgh⟩
   exact (d (s.small.getD i []) (by rw [List.getD_eq_getElem?_getD,List.getElem?_eq_getElem (by omega)];exact List.getElem_mem _)).1
  obtain ⟨h0,w0,e0⟩:=step f 0 (by omega) h rfl rfl
  obtain ⟨h1',w1,e1⟩:=step _ 1 (by omega) h0 w0 e0
  obtain ⟨h2',w2,e2⟩:=step _ 2 (by omega) h1' w1 e1
  exact (step _ 3 (by omega) h2' w2 e2).1
/-- a number's pair is met before the i-th step -/
def procB (h i j:Nat):Bool:=if j &&& h=0 then decide (j<i) else decide (j ^^^ h<i)
def factT (h i j:Nat):Bool :=
 (if i &&& h=0 then !procB h i i && !procB h i (i ||| h) && decide (i ||| h≠i) && (procB h (i+1) j == (procB h i j || decide (j=i) || decide (j=i ||| h))) else true) && (!procB h i j || procB h (i+1) j)
theorem facts_all:([1,2,4,8,16,32].all fun h=>(List.range 64).all fun i=>(List.range 64).all fun j=>factT h i j)=true:=by decide +kernel
theorem facts_lt:(([1,2,4,8,16,32].all fun h=>(List.range 64).all fun i=>decide (i ||| h<64)) && ([1,2,4,8].all fun h=>(List.range 16).all fun i=>decide (i ||| h<16)))=true:=by decide +kernel
def AbsLe (B:Int) (l:List Int):Prop:=∀ j,j<l.length→-B≤l.getD j 0∧l.getD j 0≤B
def MidLe (B:Int) (h i:Nat) (l:List Int):Prop:=∀ j,j<l.length→-(if procB h i j then 2*B else B)≤l.getD j 0∧l.getD j 0≤(if procB h i j then 2*B else B)
theorem fact_at {h i j:Nat} (hh:h∈[1,2,4,8,16,32]) (hi:i<64) (hj:j<64):factT h i j=true:=by
 have:=List.all_eq_true.1 facts_all h hh
 have:=List.all_eq_true.1 this i (List.mem_range.2 hi)
 exact List.all_eq_true.1 this j (List.mem_range.2 hj)
theorem getD_set {l:List Int} {i j:Nat} {x:Int} (hi:i<l.length):(l.set i x).getD j 0=if j=i then x else l.getD j 0:=by
 by_cases e:j=i
 ·subst e
  rw [if_pos rfl,List.getD_eq_getElem?_getD,List.getElem?_set_self hi];rfl
 ·rw [if_neg e,List.getD_eq_getElem?_getD,List.getElem?_set_ne (Ne.symm e),← List.getD_eq_getElem?_getD]
theorem MidLe.step {B:Int} (hB:0≤B) {h i:Nat} {l:List Int} (hh:h∈[1,2,4,8,16,32]) (hl:l.length≤64) (hi:i<l.length) (ho:i ||| h<l.length) (hm:MidLe B h i l):MidLe B h (i+1) (pairW h l i):=by
 intro j hj
 rw [pairW_len] at hj
 have hf:=fact_at (i:=i) (j:=j) hh (by omega) (by omega)
 have mj:=hm j hj
 have mi:=hm i hi
 have mo:=hm (i ||| h) ho
 unfold pairW
 unfold factT at hf
 by_cases hz:i &&& h=0
 ·rw [if_pos hz] at hf ⊢
  simp only [Bool.and_eq_true,Bool.not_eq_true',decide_eq_true_eq,beq_iff_eq] at hf
  obtain ⟨⟨⟨⟨f1,f2⟩,f3⟩,f4⟩,-⟩:=hf
  rw [f1] at mi
  rw [f2] at mo
  simp only [Bool.false_eq_true,if_false] at mi mo
  rw [getD_set (by rw [List.length_set];exact ho),getD_set hi]
  by_cases e1:j=i ||| h
  ·have hp:procB h (i+1) j=true:=by rw [f4];simp [e1]
   rw [hp,if_pos e1]
   simp only [if_true]
   omega
  ·by_cases e2:j=i
   ·have hp:procB h (i+1) j=true:=by rw [f4];simp [e2]
    rw [hp,if_neg e1,if_pos e2]
    simp only [if_true]
    omega
   ·have hp:procB h (i+1) j=procB h i j:=by rw [f4];simp [e1,e2]
    rw [hp,if_neg e1,if_neg e2]
    exact mj
 ·rw [if_neg hz] at hf ⊢
  simp only [Bool.true_and,Bool.or_eq_true,Bool.not_eq_true'] at hf
  rcases hf with hf | hf
  ·rw [hf] at mj
   simp only [Bool.false_eq_true,if_false] at mj
   cases procB h (i+1) j <;> simp only [Bool.false_eq_true,if_false,if_true] <;> omega
  ·rw [hf]
   simp only [if_true]
   cases hp:procB h i j <;> rw [hp] at mj <;> simp only [Bool.false_eq_true,if_false,if_true] at mj <;> omega
theorem midLe_start {B:Int} {h:Nat} {l:List Int} (hl:AbsLe B l):MidLe B h 0 l:=by
 intro j hj
 have hp:procB h 0 j=false:=by unfold procB;split <;> simp
 rw [hp]
 simpa only [Bool.false_eq_true,if_false] using hl j hj
theorem MidLe.all {B:Int} (hB:0≤B) {h i:Nat} {l:List Int} (hm:MidLe B h i l):AbsLe (2*B) l:=by
 intro j hj
 have:=hm j hj
 cases hp:procB h i j <;> rw [hp] at this <;> simp only [Bool.false_eq_true,if_false,if_true] at this <;> omega
theorem or_lt {h i n:Nat} (hn:n=16∧h∈[1,2,4,8]∨n=64∧h∈[1,2,4,8,16,32]) (hi:i<n):i ||| h<n:=by
 have hf:=facts_lt
 rw [Bool.and_eq_true] at hf
 rcases hn with ⟨rfl,hh⟩ | ⟨rfl,hh⟩
 ·exact of_decide_eq_true (List.all_eq_true.1 (List.all_eq_true.1 hf.2 h hh) i (List.mem_range.2 hi))
 ·exact of_decide_eq_true (List.all_eq_true.1 (List.all_eq_true.1 hf.1 h hh) i (List.mem_range.2 hi))
/-- where a pass stands: its step, how many are left, the bound of the numbers -/
def PW (n k hh:Nat) (B:Int):Prop:=∃ p:Nat,(n=16∧p≤4∨n=64∧p≤6)∧hh=2 ^ p∧k=7-p∧B=6266880*2 ^ p
theorem PW.start {n:Nat} (h:n=16∨n=64):PW n 7 1 6266880:=⟨0,by omega,rfl,rfl,rfl⟩
theorem upto6 {p:Nat} (h:p≤6):p=0∨p=1∨p=2∨p=3∨p=4∨p=5∨p=6:=by omega
theorem PW.next {n k hh:Nat} {B:Int} (h:PW n k hh B) (hlt:hh<n):PW n (k-1) (2*hh) (2*B)∧k=(k-1)+1∧(n=16∧hh∈[1,2,4,8]∨n=64∧hh∈[1,2,4,8,16,32])∧hh∈[1,2,4,8,16,32]∧0≤B∧B≤200540160∧1≤hh∧hh≤64:=by
 obtain ⟨p,hp,rfl,rfl,rfl⟩:=h
 rcases upto6 (show p≤6 by omega) with rfl | rfl | rfl | rfl | rfl | rfl | rfl
 ·exact ⟨⟨1,by omega,rfl,rfl,rfl⟩,rfl,by rcases hp with hp | hp <;> simp [hp.1],by simp,by omega,by omega,by omega,by omega⟩
 ·exact ⟨⟨2,by omega,rfl,rfl,rfl⟩,rfl,by rcases hp with hp | hp <;> simp [hp.1],by simp,by omega,by omega,by omega,by omega⟩
 ·exact ⟨⟨3,by omega,rfl,rfl,rfl⟩,rfl,by rcases hp with hp | hp <;> simp [hp.1],by simp,by omega,by omega,by omega,by omega⟩
 ·exact ⟨⟨4,by omega,rfl,rfl,rfl⟩,rfl,by rcases hp with hp | hp <;> simp [hp.1],by simp,by omega,by omega,by omega,by omega⟩
 ·have:n=64:=by omega
  exact ⟨⟨5,by omega,rfl,rfl,rfl⟩,rfl,by simp [this],by simp,by omega,by omega,by omega,by omega⟩
 ·have:n=64:=by omega
  exact ⟨⟨6,by omega,rfl,rfl,rfl⟩,rfl,by simp [this],by simp,by omega,by omega,by omega,by omega⟩
 ·have:n=64:=by omega
  omega
theorem PW.bound {n k hh:Nat} {B:Int} (h:PW n k hh B):0≤B∧B≤401080320∧1≤hh∧hh≤64:=by
 obtain ⟨p,hp,rfl,rfl,rfl⟩:=h
 rcases upto6 (show p≤6 by omega) with rfl | rfl | rfl | rfl | rfl | rfl | rfl <;> omega
theorem turnGo_step {k h:Nat} {l:List Int} (hlt:h<l.length):turnGo (k+1) h l=turnGo k (2*h) (passW h l):=by
 rw [turnGo,if_pos hlt]
theorem turnGo_end {k h:Nat} {l:List Int} (hge:¬ h<l.length):turnGo k h l=l:=by
 cases k with
 | zero=>rfl
 | succ k=>rw [turnGo,if_neg hge]
theorem range_drop {n j:Nat} (h:j<n):(List.range n).drop j=j :: (List.range n).drop (j+1):=by
 rw [List.drop_eq_getElem_cons (by simpa using h),List.getElem_range]
theorem pass_more {n j h:Nat} (hj:j<n) (l:List Int):((List.range n).drop j).foldl (pairW h) l=((List.range n).drop (j+1)).foldl (pairW h) (pairW h l j):=by
 rw [range_drop hj,List.foldl_cons]
theorem pass_end {n h:Nat} (l:List Int):((List.range n).drop n).foldl (pairW h) l=l:=by
 rw [List.drop_eq_nil_of_le (by simp)];rfl
theorem pairW_yes {h i:Nat} {l:List Int} (hz:i &&& h=0):pairW h l i=(l.set i (l.getD i 0+l.getD (i ||| h) 0)).set (i ||| h) (l.getD i 0-l.getD (i ||| h) 0):=by
 unfold pairW;rw [if_pos hz]
theorem pairW_no {h i:Nat} {l:List Int} (hz:¬ i &&& h=0):pairW h l i=l:=by
 unfold pairW;rw [if_neg hz]
theorem MidLe.pair {B:Int} {h i:Nat} {l:List Int} (hh:h∈[1,2,4,8,16,32]) (hl:l.length≤64) (hi:i<l.length) (ho:i ||| h<l.length) (hz:i &&& h=0) (hm:MidLe B h i l) :
  (i ||| h≠i)∧(-B≤l.getD i 0∧l.getD i 0≤B)∧-B≤l.getD (i ||| h) 0∧l.getD (i ||| h) 0≤B:=by
 have hf:=fact_at (i:=i) (j:=i) hh (by omega) (by omega)
 unfold factT at hf
 rw [if_pos hz] at hf
 simp only [Bool.and_eq_true,Bool.not_eq_true',decide_eq_true_eq,beq_iff_eq] at hf
 obtain ⟨⟨⟨⟨f1,f2⟩,f3⟩,f4⟩,-⟩:=hf
 have mi:=hm i hi
 have mo:=hm (i ||| h) ho
 rw [f1] at mi
 rw [f2] at mo
 simp only [Bool.false_eq_true,if_false] at mi mo
 exact ⟨f3,mi,mo⟩
theorem AbsLe.mono {A B:Int} {l:List Int} (h:AbsLe A l) (hAB:A≤B):AbsLe B l:=fun j hj=>by have:=h j hj;omega
theorem newB_iff {w h v:Int}:newB w h v=true↔(8≤w∧w≤32∧w % 8=0)∧(8≤h∧h≤32∧h % 8=0)∧0≤v∧v≤255:=by
 unfold newB
 rw [Bool.and_eq_true,Bool.and_eq_true,sideB_iff,sideB_iff,sampleB,decide_eq_true_iff]
 exact ⟨fun ⟨⟨a,b⟩,c⟩=>⟨a,b,c⟩,fun ⟨a,b,c⟩=>⟨⟨a,b⟩,c⟩⟩
theorem newF_ok {w h v:Int} (hn:newB w h v=true):FrOk (newF w h v):=by
 obtain ⟨⟨a,b,c⟩,⟨d,e,f⟩,g,i⟩:=newB_iff.1 hn
 have hp:0≤w*h:=Int.mul_nonneg (by omega) (by omega)
 refine ⟨a,b,c,d,e,f,?_,fun x hx=>?_⟩
 ·show ((List.replicate (w*h).toNat v).length:Int)=w*h
  rw [List.length_replicate];omega
 ·have:=(List.mem_replicate.1 hx).2;omega
def dotD (c l:List Int):Int:=(List.zipWith (fun a b=>a*b) c l).sum
def addV (c d:List Int):List Int:=List.zipWith (fun a b=>a+b) c d
def subV (c d:List Int):List Int:=List.zipWith (fun a b=>a-b) c d
theorem dotD_add:∀ {c d l:List Int},c.length=d.length→dotD (addV c d) l=dotD c l+dotD d l
 | [],[],l,_=>by simp [dotD,addV]
 | a :: c,b :: d,[],h=>by simp [dotD,addV]
 | a :: c,b :: d,x :: l,h=>by
  have ih:=dotD_add (c:=c) (d:=d) (l:=l) (by simpa using h)
  simp only [dotD,addV,List.zipWith_cons_cons,List.sum_cons] at ih ⊢
  rw [ih,Int.add_mul];omega
 | [],_ :: _,_,h=>by cases h
 | _ :: _,[],_,h=>by cases h
theorem dotD_sub:∀ {c d l:List Int},c.length=d.length→dotD (subV c d) l=dotD c l-dotD d l
 | [],[],l,_=>by simp [dotD,subV]
 | a :: c,b :: d,[],h=>by simp [dotD,subV]
 | a :: c,b :: d,x :: l,h=>by
  have ih:=dotD_sub (c:=c) (d:=d) (l:=l) (by simpa using h)
  simp only [dotD,subV,List.zipWith_cons_cons,List.sum_cons] at ih ⊢
  rw [ih,Int.sub_mul];omega
 | [],_ :: _,_,h=>by cases h
 | _ :: _,[],_,h=>by cases h
/-- a pair of a pass, on rows of coefficients -/
def pairV (h:Nat) (F:List (List Int)) (i:Nat):List (List Int):=if i &&& h=0 then (F.set i (addV (F.getD i []) (F.getD (i ||| h) []))).set (i ||| h) (subV (F.getD i []) (F.getD (i ||| h) [])) else F
def passV (h:Nat) (F:List (List Int)):List (List Int):=(List.range F.length).foldl (pairV h) F
def turnGoV:Nat→Nat→List (List Int)→List (List Int)
 | 0,_,F=>F
 | k+1,h,F=>if h<F.length then turnGoV k (2*h) (passV h F) else F
def evalV (F:List (List Int)) (l:List Int):List Int:=F.map fun c=>dotD c l
def RowsV (n:Nat) (F:List (List Int)):Prop:=F.length=n∧∀ c∈F,c.length=n
theorem RowsV.at {n:Nat} {F:List (List Int)} (h:RowsV n F) {i:Nat} (hi:i<n):(F.getD i []).length=n:=h.2 _ (by
 rw [List.getD_eq_getElem?_getD,List.getElem?_eq_getElem (by have:=h.1;omega)]
 exact List.getElem_mem _)
theorem RowsV.set {n:Nat} {F:List (List Int)} (h:RowsV n F) (i:Nat) {c:List Int} (hc:c.length=n):RowsV n (F.set i c) :=
 ⟨by rw [List.length_set];exact h.1,fun d hd=>by
  rcases List.mem_or_eq_of_mem_set hd with hd | rfl
  ·exact h.2 d hd
  ·exact hc⟩
theorem RowsV.pair {n:Nat} {F:List (List Int)} (hF:RowsV n F) {h i:Nat} (hi:i<n) (hh:i ||| h<n):RowsV n (pairV h F i):=by
 unfold pairV
 split
 ·exact (hF.set _ (by rw [addV,List.length_zipWith,hF.at hi,hF.at hh,Nat.min_self])).set _ (by rw [subV,List.length_zipWith,hF.at hi,hF.at hh,Nat.min_self])
 ·exact hF
theorem evalV_at {n:Nat} {F:List (List Int)} (hF:RowsV n F) {i:Nat} (hi:i<n) (l:List Int):(evalV F l).getD i 0=dotD (F.getD i []) l:=by
 have h1:i<F.length:=by rw [hF.1];exact hi
 rw [List.getD_eq_getElem?_getD,List.getD_eq_getElem?_getD,evalV,List.getElem?_map,List.getElem?_eq_getElem h1]
 rfl
theorem evalV_pair {n:Nat} {F:List (List Int)} (hF:RowsV n F) {h i:Nat} (hi:i<n) (hh:i ||| h<n) (l:List Int):evalV (pairV h F i) l=pairW h (evalV F l) i:=by
 unfold pairV pairW
 split
 ·rw [evalV_at hF hi,evalV_at hF hh,← dotD_add (by rw [hF.at hi,hF.at hh]),← dotD_sub (by rw [hF.at hi,hF.at hh])]
  simp [evalV,List.map_set]
 ·rfl
theorem evalV_fold {n h:Nat} (l:List Int):∀ (ys:List Nat) {F:List (List Int)},RowsV n F→(∀ i∈ys,i<n∧i ||| h<n)→evalV (ys.foldl (pairV h) F) l=ys.foldl (pairW h) (evalV F l)∧RowsV n (ys.foldl (pairV h) F)
 | [],F,hF,_=>⟨rfl,hF⟩
 | i :: ys,F,hF,hy=>by
  obtain ⟨a,b⟩:=hy i List.mem_cons_self
  rw [List.foldl_cons,List.foldl_cons,← evalV_pair hF a b]
  exact evalV_fold l ys (hF.pair a b) (fun j hj=>hy j (List.mem_cons_of_mem _ hj))
theorem or_in {e h i:Nat} (hi:i<2 ^ e) (hh:h<2 ^ e):i ||| h<2 ^ e:=Nat.or_lt_two_pow hi hh
theorem evalV_go {e:Nat} (l:List Int):∀ (k h:Nat) {F:List (List Int)},RowsV (2 ^ e) F→evalV (turnGoV k h F) l=turnGo k h (evalV F l)
 | 0,h,F,hF=>rfl
 | k+1,h,F,hF=>by
  have hl:(evalV F l).length=F.length:=by simp [evalV]
  unfold turnGoV turnGo
  rw [hl]
  split
  ·rename_i hh
   rw [hF.1] at hh
   obtain ⟨a,b⟩:=evalV_fold (h:=h) l (List.range F.length) hF (fun i hi=>by
    rw [List.mem_range,hF.1] at hi
    exact ⟨hi,or_in hi hh⟩)
   unfold passW
   rw [hl,← a]
   exact evalV_go l k (2*h) b
  ·rfl
def unitV (n i:Nat):List Int:=(List.range n).map fun j=>if j=i then 1 else 0
def identV (n:Nat):List (List Int):=(List.range n).map (unitV n)
theorem dotD_zeros:∀ (ys:List Nat) (f:Nat→Int) (l:List Int),(∀ j∈ys,f j=0)→dotD (ys.map f) l=0
 | [],f,l,_=>by simp [dotD]
 | y :: ys,f,[],h=>by simp [dotD]
 | y :: ys,f,x :: l,h=>by
  have ih:=dotD_zeros ys f l (fun j hj=>h j (List.mem_cons_of_mem _ hj))
  have h0:=h y List.mem_cons_self
  simp only [dotD,List.map_cons,List.zipWith_cons_cons,List.sum_cons] at ih ⊢
  rw [ih,h0];simp
theorem dotD_unit:∀ (k s i:Nat) (l:List Int),s≤i→i<s+k→l.length=k→dotD ((List.range' s k).map fun j=>if j=i then 1 else 0) l=l.getD (i-s) 0
 | 0,s,i,l,h1,h2,_=>by omega
 | k+1,s,i,[],h1,h2,hl=>by cases hl
 | k+1,s,i,x :: l,h1,h2,hl=>by
  rw [List.range'_succ,List.map_cons]
  by_cases hs:s=i
  ·subst hs
   have hz:=dotD_zeros (List.range' (s+1) k) (fun j=>if j=s then (1:Int) else 0) l (fun j hj=>by
    have:=(List.mem_range'_1.1 hj).1
    exact if_neg (by omega))
   simp only [dotD,List.zipWith_cons_cons,List.sum_cons,if_true] at hz ⊢
   rw [hz];simp
  ·have ih:=dotD_unit k (s+1) i l (by omega) (by omega) (by simpa using hl)
   simp only [dotD,List.zipWith_cons_cons,List.sum_cons,if_neg hs] at ih ⊢
   rw [ih,show i-s=(i-(s+1))+1 by omega]
   simp
theorem evalV_ident {n:Nat} {l:List Int} (hl:l.length=n):evalV (identV n) l=l:=by
 apply List.ext_getElem?
 intro i
 by_cases hi:i<n
 ·have:=dotD_unit n 0 i l (Nat.zero_le _) (by omega) hl
  rw [← List.range_eq_range'] at this
  simp only [evalV,identV,List.map_map,List.getElem?_map,List.getElem?_range hi,Option.map_some,Function.comp]
  rw [show dotD (unitV n i) l=l.getD (i-0) 0 from this]
  simp [hl,hi]
 ·rw [List.getElem?_eq_none (by simp [evalV,identV];omega),List.getElem?_eq_none (by omega)]
/-- the sign of an input in an output -/
def sgnD (u x:Nat):Int:=if ((u &&& x) % 2+(u &&& x) / 2 % 2+(u &&& x) / 4 % 2) % 2=0 then 1 else -1
def sgnRow (n k:Nat):List Int:=(List.range (n*n)).map fun i=>sgnD (k % n) (i % n)*sgnD (k / n) (i / n)
def sgnV (n:Nat):List (List Int):=(List.range (n*n)).map (sgnRow n)
theorem turnV_4:turnGoV 7 1 (identV 16)=sgnV 4:=by kernel_rfl
theorem turnV_8:turnGoV 7 1 (identV 64)=sgnV 8:=by kernel_rfl
theorem identV_rows (n:Nat):RowsV n (identV n):=⟨by simp [identV],fun c hc=>by
 obtain ⟨i,_,rfl⟩:=List.mem_map.1 hc
 simp [unitV]⟩
theorem turnD_sums {n:Nat} (hn:n=4∨n=8) {l:List Int} (hl:l.length=n*n):turnD l=(List.range (n*n)).map fun k=>dotD (sgnRow n k) l:=by
 have key:turnD l=evalV (turnGoV 7 1 (identV (n*n))) l:=by
  unfold turnD
  rcases hn with rfl | rfl
  ·rw [evalV_go (e:=4) l 7 1 (identV_rows 16),evalV_ident hl]
  ·rw [evalV_go (e:=6) l 7 1 (identV_rows 64),evalV_ident hl]
 rw [key]
 rcases hn with rfl | rfl
 ·rw [show (4*4:Nat)=16 from rfl,turnV_4];simp [evalV,sgnV]
 ·rw [show (8*8:Nat)=64 from rfl,turnV_8];simp [evalV,sgnV]
end Go.Proofs.YtkigikallkpbcaaGreatDoor
