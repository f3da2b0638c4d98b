/- Joined texts: DCoder, DSquare, DFrame, DFrameL, DTurnB, DTurnP, DFrameE. Conditions: each part names its own. -/
import Derived.Test.YtmdobcffijnaoaaGreatDoorC1
import Derived.Test.YtmdobcffijnaoaaGreatDoorC3
import Derived.Test.YtmdobcffijnaoaaGreatDoorG3
namespace Go.Proofs.YtmdobcffijnaoaaGreatDoor
open Go.RowKit
set_option linter.unusedVariables false
set_option linter.unusedSimpArgs false
set_option maxRecDepth 100000
set_option maxHeartbeats 16000000
/-- a range decoder: its bytes, its place, where it stands in its range, the range -/
structure Rac where
 b:List Int
 pos:Nat
 off:Int
 r:Int
/-- a coder that reads: its chances, its range decoder -/
structure Mod where
 p:List Int
 d:Rac
def Rac.byte (d:Rac):Int:=d.b.getD d.pos 0
def Rac.shift (d:Rac):Rac:=⟨d.b,d.pos+1,min (d.off*256+d.byte) (d.r*256),d.r*256⟩
def Rac.fix:Nat→Rac→Rac
 | 0,d=>d
 | k+1,d=>if d.r<16777216 then Rac.fix k d.shift else d
def Rac.narrow (d:Rac) (w:Int):Bool×Rac :=
 if w≤d.off then (true,Rac.fix 2 ⟨d.b,d.pos,d.off-w,d.r-w⟩) else (false,Rac.fix 2 ⟨d.b,d.pos,d.off,w⟩)
def racNew (b:List Int):Rac:=⟨b,4,((b.getD 0 0*256+b.getD 1 0)*256+b.getD 2 0)*256+b.getD 3 0,4294967295⟩
def modNew (b:List Int):Mod:=⟨List.replicate 64 1024,racNew b⟩
def learnV (x:Int) (b:Bool):Int:=if b then x-x / 32 else x+(2048-x) / 32
def bitD (ctx:Nat) (m:Mod):Bool×Mod :=
 ((m.d.narrow (m.d.r / 2048*m.p.getD ctx 0)).1,⟨m.p.set ctx (learnV (m.p.getD ctx 0) (m.d.narrow (m.d.r / 2048*m.p.getD ctx 0)).1),(m.d.narrow (m.d.r / 2048*m.p.getD ctx 0)).2⟩)
def flatD (m:Mod):Bool×Mod:=((m.d.narrow (m.d.r / 2)).1,⟨m.p,(m.d.narrow (m.d.r / 2)).2⟩)
/-- may a range decoder stand so? -/
structure RacOk (d:Rac):Prop where
 r8:∀ x∈d.b,InK .u8 x
 lo:16777216≤d.r
 hi:d.r≤4294967295
 o0:0≤d.off
 o1:d.off≤d.r
structure ModOk (m:Mod):Prop where
 len:m.p.length=64
 ch:∀ x∈m.p,31≤x∧x≤2017
 d:RacOk m.d
/-- a coder that went on: it may stand so, over the same bytes, at most n bytes on -/
structure Adv (n:Nat) (m m':Mod):Prop where
 ok:ModOk m'
 b:m'.d.b=m.d.b
 pos:m'.d.pos≤m.d.pos+n
theorem Adv.refl {m:Mod} (h:ModOk m):Adv 0 m m:=⟨h,rfl,Nat.le_refl _⟩
theorem Adv.trans {n k:Nat} {a b c:Mod} (h:Adv n a b) (g:Adv k b c):Adv (n+k) a c:=⟨g.ok,g.b.trans h.b,by have:=h.pos;have:=g.pos;omega⟩
theorem Adv.le {n k:Nat} {a b:Mod} (h:Adv n a b) (hn:n≤k):Adv k a b:=⟨h.ok,h.b,by have:=h.pos;omega⟩
theorem Rac.byte_in {d:Rac} (h:∀ x∈d.b,InK .u8 x):0≤d.byte∧d.byte≤255:=by
 unfold Rac.byte
 rw [List.getD_eq_getElem?_getD]
 cases hx:d.b[d.pos]? with
 | none=>simp
 | some x=>have:=h x (List.mem_of_getElem? hx);simp only [InK] at this;simpa using this
/-- a range that is not yet wide enough -/
structure RacMid (n:Nat) (d:Rac):Prop where
 r8:∀ x∈d.b,InK .u8 x
 lo:16777216≤d.r*256 ^ n
 r0:1≤d.r
 hi:d.r≤4294967295
 o0:0≤d.off
 o1:d.off≤d.r
theorem RacMid.shift {n:Nat} {d:Rac} (h:RacMid (n+1) d) (hr:d.r<16777216):RacMid n d.shift:=by
 have hb:=Rac.byte_in h.r8
 obtain ⟨h1,h2,h3,h4,h5,h6⟩:=h
 refine ⟨h1,?_,?_,?_,?_,?_⟩
 ·show 16777216≤d.r*256*256 ^ n
  rw [Int.pow_succ,Int.mul_comm (256 ^ n) 256,← Int.mul_assoc] at h2;exact h2
 ·show 1≤d.r*256;omega
 ·show d.r*256≤_;omega
 ·show 0≤min (d.off*256+d.byte) (d.r*256);omega
 ·show min (d.off*256+d.byte) (d.r*256)≤d.r*256;omega
theorem RacMid.fix:∀ {n:Nat} {d:Rac},RacMid n d→RacOk (Rac.fix n d)∧(Rac.fix n d).b=d.b∧(Rac.fix n d).pos≤d.pos+n
 | 0,d,h=>⟨⟨h.r8,by have:=h.lo;rw [Int.pow_zero,Int.mul_one] at this;exact this,h.hi,h.o0,h.o1⟩,rfl,Nat.le_refl _⟩
 | n+1,d,h=>by
  unfold Rac.fix
  split
  ·rename_i hr
   obtain ⟨a,b,c⟩:=(h.shift hr).fix
   exact ⟨a,b,by have:d.shift.pos=d.pos+1:=rfl;omega⟩
  ·rename_i hr
   exact ⟨⟨h.r8,by omega,h.hi,h.o0,h.o1⟩,rfl,by omega⟩
theorem narrow_mid {d:Rac} (h:RacOk d) {w:Int} (h1:8192≤w) (h2:w≤d.r-8192) :
  (w≤d.off→RacMid 2 ⟨d.b,d.pos,d.off-w,d.r-w⟩)∧(¬ w≤d.off→RacMid 2 ⟨d.b,d.pos,d.off,w⟩):=by
 obtain ⟨a,b,c,e,f⟩:=h
 refine ⟨fun hw=>⟨a,?_,?_,?_,?_,?_⟩,fun hw=>⟨a,?_,?_,?_,?_,?_⟩⟩ <;> simp only <;> omega
theorem narrow_ok {d:Rac} (h:RacOk d) {w:Int} (h1:8192≤w) (h2:w≤d.r-8192):RacOk (d.narrow w).2∧(d.narrow w).2.b=d.b∧(d.narrow w).2.pos≤d.pos+2:=by
 obtain ⟨m1,m2⟩:=narrow_mid h h1 h2
 unfold Rac.narrow
 split
 ·rename_i hw;exact (m1 hw).fix
 ·rename_i hw;exact (m2 hw).fix
theorem chance_w {r p:Int} (h1:16777216≤r) (h2:r≤4294967295) (p1:1≤p) (p2:p≤2047):8192≤r / 2048*p∧r / 2048*p≤r-8192:=by
 have q1:8192≤r / 2048:=by omega
 have q2:r / 2048*2048≤r:=by omega
 generalize r / 2048=q at *
 have a:=Int.mul_le_mul_of_nonneg_left p1 (show 0≤q by omega)
 have b:=Int.mul_le_mul_of_nonneg_left p2 (show 0≤q by omega)
 constructor <;> omega
theorem ch_at {m:Mod} (h:ModOk m) {c:Nat} (hc:c<64):31≤m.p.getD c 0∧m.p.getD c 0≤2017:=h.ch _ (by
 have:=h.len
 rw [List.getD_eq_getElem?_getD,List.getElem?_eq_getElem (by omega)]
 exact List.getElem_mem _)
theorem learn_in {x:Int} (b:Bool) (h:31≤x∧x≤2017):31≤learnV x b∧learnV x b≤2017:=by
 unfold learnV
 split <;> omega
theorem bitD_adv {m:Mod} (h:ModOk m) {c:Nat} (hc:c<64):Adv 2 m (bitD c m).2:=by
 have hx:=ch_at h hc
 obtain ⟨w1,w2⟩:=chance_w h.d.lo h.d.hi (p:=m.p.getD c 0) (by omega) (by omega)
 obtain ⟨n1,n2,n3⟩:=narrow_ok h.d w1 w2
 refine ⟨⟨?_,?_,n1⟩,n2,n3⟩
 ·show (m.p.set _ _).length=64
  rw [List.length_set];exact h.len
 ·intro y hy
  rcases List.mem_or_eq_of_mem_set hy with hy | rfl
  ·exact h.ch y hy
  ·exact learn_in _ hx
theorem flatD_adv {m:Mod} (h:ModOk m):Adv 2 m (flatD m).2:=by
 have:=h.d.lo
 have:=h.d.hi
 obtain ⟨n1,n2,n3⟩:=narrow_ok h.d (w:=m.d.r / 2) (by omega) (by omega)
 exact ⟨⟨h.len,h.ch,n1⟩,n2,n3⟩
theorem modNew_ok {b:List Int} (h:∀ x∈b,InK .u8 x):ModOk (modNew b):=by
 have hb:∀ i,0≤b.getD i 0∧b.getD i 0≤255:=fun i=>Rac.byte_in (d:=⟨b,i,0,0⟩) h
 refine ⟨by simp [modNew],fun x hx=>?_,⟨h,by simp [modNew,racNew],by simp [modNew,racNew],?_,?_⟩⟩
 ·have:=(List.mem_replicate.1 hx).2;omega
 all_goals
  have:=hb 0;have:=hb 1;have:=hb 2;have:=hb 3
  simp only [modNew,racNew]
  omega
/-! ### numbers -/
/-- how many ones stand ahead of a zero, at most k -/
def onesD (f:Nat→Nat):Nat→Nat→Mod→Nat×Mod
 | 0,n,m=>(n,m)
 | k+1,n,m=>if (bitD (f n) m).1 then onesD f k (n+1) (bitD (f n) m).2 else (n,(bitD (f n) m).2)
theorem onesD_adv {f:Nat→Nat} (hf:∀ i,f i<64):∀ (k n:Nat) {m:Mod},ModOk m→Adv (2*k) m (onesD f k n m).2∧n≤(onesD f k n m).1∧(onesD f k n m).1≤n+k
 | 0,n,m,h=>⟨Adv.refl h,Nat.le_refl _,Nat.le_refl _⟩
 | k+1,n,m,h=>by
  have a:=bitD_adv h (hf n)
  unfold onesD
  split
  ·obtain ⟨x,y,z⟩:=onesD_adv hf k (n+1) a.ok
   exact ⟨(a.trans x).le (by omega),by omega,by omega⟩
  ·exact ⟨a.le (by omega),by simp,by simp⟩
def kindD (m:Mod):Nat×Mod:=onesD (fun n=>min n 63) 3 0 m
def modeD (m:Mod):Nat×Mod :=
 if (bitD 3 m).1 then (if (bitD 5 (bitD 3 m).2).1 then 3 else 2,(bitD 5 (bitD 3 m).2).2) else (if (bitD 4 (bitD 3 m).2).1 then 1 else 0,(bitD 4 (bitD 3 m).2).2)
def signD (s:Bool) (n:Nat):Int:=if s then -(n:Int)-1 else (n:Int)+1
def partD (m:Mod):Int×Mod :=
 if (bitD 6 m).1 then (signD (flatD (bitD 6 m).2).1 (onesD (fun n=>7+min n 6) 14 0 (flatD (bitD 6 m).2).2).1,(onesD (fun n=>7+min n 6) 14 0 (flatD (bitD 6 m).2).2).2) else (0,(bitD 6 m).2)
theorem kindD_adv {m:Mod} (h:ModOk m):Adv 6 m (kindD m).2∧(kindD m).1≤3:=by
 obtain ⟨a,b,c⟩:=onesD_adv (f:=fun n=>min n 63) (fun i=>by omega) 3 0 h
 exact ⟨a,by unfold kindD;omega⟩
theorem modeD_adv {m:Mod} (h:ModOk m):Adv 4 m (modeD m).2∧(modeD m).1≤3:=by
 have a:=bitD_adv h (c:=3) (by omega)
 unfold modeD
 split
 ·exact ⟨a.trans (bitD_adv a.ok (by omega)),by simp only;split <;> omega⟩
 ·exact ⟨a.trans (bitD_adv a.ok (by omega)),by simp only;split <;> omega⟩
theorem partD_adv {m:Mod} (h:ModOk m):Adv 32 m (partD m).2∧-15≤(partD m).1∧(partD m).1≤15:=by
 have a:=bitD_adv h (c:=6) (by omega)
 unfold partD
 split
 ·have b:=flatD_adv a.ok
  obtain ⟨c,d,e⟩:=onesD_adv (f:=fun n=>7+min n 6) (fun i=>by omega) 14 0 b.ok
  refine ⟨(a.trans (b.trans c)).le (by omega),?_⟩
  simp only [signD]
  split <;> omega
 ·exact ⟨a.le (by omega),by simp,by simp⟩
/-- how many flat ones stand ahead of a flat zero -/
def flatsD:Nat→Nat→Mod→Nat×Mod
 | 0,n,m=>(n,m)
 | k+1,n,m=>if (flatD m).1 then flatsD k (n+1) (flatD m).2 else (n,(flatD m).2)
theorem flatsD_adv:∀ (k n:Nat) {m:Mod},ModOk m→Adv (2*k) m (flatsD k n m).2∧n≤(flatsD k n m).1∧(flatsD k n m).1≤n+k
 | 0,n,m,h=>⟨Adv.refl h,Nat.le_refl _,Nat.le_refl _⟩
 | k+1,n,m,h=>by
  have a:=flatD_adv h
  unfold flatsD
  split
  ·obtain ⟨x,y,z⟩:=flatsD_adv k (n+1) a.ok
   exact ⟨(a.trans x).le (by omega),by omega,by omega⟩
  ·exact ⟨a.le (by omega),by simp,by simp⟩
/-- a number of k flat bits behind n -/
def bitsD:Nat→Nat→Mod→Nat×Mod
 | 0,n,m=>(n,m)
 | k+1,n,m=>bitsD k (if (flatD m).1 then 2*n+1 else 2*n) (flatD m).2
theorem bitsD_adv:∀ (k n:Nat) {m:Mod},ModOk m→Adv (2*k) m (bitsD k n m).2∧n*2 ^ k≤(bitsD k n m).1∧(bitsD k n m).1<(n+1)*2 ^ k
 | 0,n,m,h=>⟨Adv.refl h,by simp [bitsD],by simp [bitsD]⟩
 | k+1,n,m,h=>by
  have a:=flatD_adv h
  unfold bitsD
  obtain ⟨x,y,z⟩:=bitsD_adv k (if (flatD m).1 then 2*n+1 else 2*n) a.ok
  refine ⟨(a.trans x).le (by omega),?_,?_⟩
  ·refine Nat.le_trans ?_ y
   rw [Nat.pow_succ]
   split <;> (generalize 2 ^ k=q;simp only [Nat.mul_comm,Nat.mul_left_comm,Nat.add_mul,Nat.mul_add];omega)
  ·refine Nat.lt_of_lt_of_le z ?_
   rw [Nat.pow_succ]
   split <;> (generalize 2 ^ k=q;simp only [Nat.mul_comm,Nat.mul_left_comm,Nat.add_mul,Nat.mul_add];omega)
def greatD (m:Mod):Nat×Mod:=bitsD (flatsD 13 0 m).1 1 (flatsD 13 0 m).2
theorem greatD_adv {m:Mod} (h:ModOk m):Adv 52 m (greatD m).2∧1≤(greatD m).1∧(greatD m).1<16384:=by
 obtain ⟨a,b,c⟩:=flatsD_adv 13 0 h
 obtain ⟨x,y,z⟩:=bitsD_adv (flatsD 13 0 m).1 1 a.ok
 have h2:2 ^ (flatsD 13 0 m).1≤2 ^ 13:=Nat.pow_le_pow_right (by omega) (by omega)
 have h3:1≤2 ^ (flatsD 13 0 m).1:=Nat.one_le_two_pow
 refine ⟨(a.trans x).le (by omega),?_,?_⟩ <;> unfold greatD <;> omega
/-- a level's size, less one -/
def sizeD (base:Nat) (m:Mod):Nat×Mod :=
 if (onesD (fun n=>base+17+min n 7) 14 0 m).1=14 then (13+(greatD (onesD (fun n=>base+17+min n 7) 14 0 m).2).1,(greatD (onesD (fun n=>base+17+min n 7) 14 0 m).2).2)
 else onesD (fun n=>base+17+min n 7) 14 0 m
theorem sizeD_adv {base:Nat} (hb:base≤39) {m:Mod} (h:ModOk m):Adv 80 m (sizeD base m).2∧(sizeD base m).1≤16400:=by
 obtain ⟨a,b,c⟩:=onesD_adv (f:=fun n=>base+17+min n 7) (fun i=>by omega) 14 0 h
 unfold sizeD
 split
 ·obtain ⟨x,y,z⟩:=greatD_adv a.ok
  exact ⟨(a.trans x).le (by omega),by simp only;omega⟩
 ·exact ⟨a.le (by omega),by omega⟩
def levelD (base:Nat) (m:Mod):Int×Mod:=(signD (flatD m).1 (sizeD base (flatD m).2).1,(sizeD base (flatD m).2).2)
theorem levelD_adv {base:Nat} (hb:base≤39) {m:Mod} (h:ModOk m):Adv 82 m (levelD base m).2∧-16401≤(levelD base m).1∧(levelD base m).1≤16401:=by
 have a:=flatD_adv h
 obtain ⟨x,y⟩:=sizeD_adv hb a.ok
 refine ⟨(a.trans x).le (by omega),?_⟩
 unfold levelD signD
 simp only
 split <;> omega
def sCoef:ByteArray:=⟨#[99,111,101,102]⟩
def sSyntax:ByteArray:=⟨#[115,121,110,116,97,120]⟩
def sDecode:ByteArray:=⟨#[100,101,99,111,100,101]⟩
def sFrames:ByteArray:=⟨#[102,114,97,109,101,115]⟩
def rowO (n s k:Nat):List Nat:=if (if s % 2=0 then k else s-k)<n∧(if s % 2=0 then s-k else k)<n then [(if s % 2=0 then s-k else k)*n+(if s % 2=0 then k else s-k)] else []
/-- the order of a square's levels -/
def orderD (n:Nat):List Nat:=(List.range (2*n-1)).flatMap fun s=>(List.range (s+1)).flatMap (rowO n s)
theorem orderD_4:orderD 4=[0,1,4,8,5,2,3,6,9,12,13,10,7,11,14,15]:=by decide +kernel
theorem orderD_8:orderD 8=[0,1,8,16,9,2,3,10,17,24,32,25,18,11,4,5,12,19,26,33,40,48,41,34,27,20,13,6,7,14,21,28,35,42,49,56,57,50,43,36,29,22,15,23,30,37,44,51,58,59,52,45,38,31,39,46,53,60,61,54,47,55,62,63]:=by decide +kernel
theorem orderD_len4:(orderD 4).length=16:=by rw [orderD_4];rfl
theorem orderD_len8:(orderD 8).length=64:=by rw [orderD_8];rfl
theorem orderD_lt4:∀ x∈orderD 4,x<16:=by rw [orderD_4];decide
theorem orderD_lt8:∀ x∈orderD 8,x<64:=by rw [orderD_8];decide
/-- levels, told in their order from the i-th on -/
def coefGo (base last:Nat):List Nat→Nat→List Int→Mod→Except Err (List Int)×Mod
 | [],i,out,m=>(.ok out,m)
 | a :: rest,i,out,m =>
  if i<last then
   if (bitD (base+1+min i 7) m).1 then
    if (levelD base (bitD (base+1+min i 7) m).2).1 < -16320∨16320<(levelD base (bitD (base+1+min i 7) m).2).1 then (.error ⟨[(sCoef,(i:Int))],3⟩,(levelD base (bitD (base+1+min i 7) m).2).2)
    else if (bitD (base+9+min i 7) (levelD base (bitD (base+1+min i 7) m).2).2).1 then (.ok (out.set a (levelD base (bitD (base+1+min i 7) m).2).1),(bitD (base+9+min i 7) (levelD base (bitD (base+1+min i 7) m).2).2).2)
    else coefGo base last rest (i+1) (out.set a (levelD base (bitD (base+1+min i 7) m).2).1) (bitD (base+9+min i 7) (levelD base (bitD (base+1+min i 7) m).2).2).2
   else coefGo base last rest (i+1) out (bitD (base+1+min i 7) m).2
  else
   if (levelD base m).1 < -16320∨16320<(levelD base m).1 then (.error ⟨[(sCoef,(i:Int))],3⟩,(levelD base m).2)
   else coefGo base last rest (i+1) (out.set a (levelD base m).1) (levelD base m).2
def baseD (side:Nat):Nat:=if side=8 then 39 else 14
/-- a list of side * side levels -/
def coefD (side:Nat) (m:Mod):Except Err (List Int)×Mod :=
 if (bitD (baseD side) m).1 then coefGo (baseD side) (side*side-1) (orderD side) 0 (List.replicate (side*side) 0) (bitD (baseD side) m).2
 else (.ok (List.replicate (side*side) 0),(bitD (baseD side) m).2)
/-- levels that may be -/
def LevOk (l:List Int):Prop:=∀ x∈l,-16320≤x∧x≤16320
theorem LevOk.set {l:List Int} (h:LevOk l) {x:Int} (hx:-16320≤x∧x≤16320) (i:Nat):LevOk (l.set i x):=fun y hy=>by
 rcases List.mem_or_eq_of_mem_set hy with hy | rfl
 ·exact h y hy
 ·exact hx
theorem LevOk.zeros (n:Nat):LevOk (List.replicate n 0):=fun x hx=>by rw [(List.mem_replicate.1 hx).2];omega
theorem coefGo_adv {base last:Nat} (hb:base≤39):∀ (l:List Nat) (i:Nat) (out:List Int) {m:Mod},ModOk m→LevOk out →
  Adv (86*l.length) m (coefGo base last l i out m).2∧(∀ o,(coefGo base last l i out m).1=.ok o→o.length=out.length∧LevOk o)∧(∀ e,(coefGo base last l i out m).1=.error e→e.code=3∧e.path.length=1)
 | [],i,out,m,h,ho=>⟨Adv.refl h,fun o e=>by cases e;exact ⟨rfl,ho⟩,fun e he=>by cases he⟩
 | a :: rest,i,out,m,h,ho=>by
  unfold coefGo
  have hl:(a :: rest).length=rest.length+1:=rfl
  by_cases hi:i<last
  ·rw [if_pos hi]
   have A:=bitD_adv h (c:=base+1+min i 7) (by omega)
   cases hx:(bitD (base+1+min i 7) m).1 with
   | true =>
    rw [if_pos rfl]
    obtain ⟨B,_⟩:=levelD_adv hb A.ok
    have AB:=A.trans B
    by_cases hv:(levelD base (bitD (base+1+min i 7) m).2).1 < -16320∨16320<(levelD base (bitD (base+1+min i 7) m).2).1
    ·rw [if_pos hv]
     exact ⟨AB.le (by omega),fun o e=>(by cases e),fun e he=>by cases he;exact ⟨rfl,rfl⟩⟩
    ·rw [if_neg hv]
     have hset:=ho.set (x:=(levelD base (bitD (base+1+min i 7) m).2).1) (by omega) a
     have C:=bitD_adv AB.ok (c:=base+9+min i 7) (by omega)
     have ABC:=AB.trans C
     cases hy:(bitD (base+9+min i 7) (levelD base (bitD (base+1+min i 7) m).2).2).1 with
     | true =>
      rw [if_pos rfl]
      exact ⟨ABC.le (by omega),fun o e=>by cases e;exact ⟨List.length_set,hset⟩,fun e he=>by cases he⟩
     | false =>
      rw [if_neg (by simp)]
      obtain ⟨p,q,r⟩:=coefGo_adv hb (last:=last) rest (i+1) _ ABC.ok hset
      exact ⟨(ABC.trans p).le (by omega),fun o e=>by obtain ⟨u,v⟩:=q o e;exact ⟨by rw [u,List.length_set],v⟩,r⟩
   | false =>
    rw [if_neg (by simp)]
    obtain ⟨p,q,r⟩:=coefGo_adv hb (last:=last) rest (i+1) out A.ok ho
    exact ⟨(A.trans p).le (by omega),q,r⟩
  ·rw [if_neg hi]
   obtain ⟨B,_⟩:=levelD_adv hb h
   by_cases hv:(levelD base m).1 < -16320∨16320<(levelD base m).1
   ·rw [if_pos hv]
    exact ⟨B.le (by omega),fun o e=>(by cases e),fun e he=>by cases he;exact ⟨rfl,rfl⟩⟩
   ·rw [if_neg hv]
    have hset:=ho.set (x:=(levelD base m).1) (by omega) a
    obtain ⟨p,q,r⟩:=coefGo_adv hb (last:=last) rest (i+1) _ B.ok hset
    exact ⟨(B.trans p).le (by omega),fun o e=>by obtain ⟨u,v⟩:=q o e;exact ⟨by rw [u,List.length_set],v⟩,r⟩
theorem coefD_adv {side:Nat} (hs:side=4∨side=8) {m:Mod} (h:ModOk m):Adv 5600 m (coefD side m).2∧(∀ o,(coefD side m).1=.ok o→o.length=side*side∧LevOk o)∧(∀ e,(coefD side m).1=.error e→e.code=3∧e.path.length=1):=by
 have hb:baseD side≤39:=by unfold baseD;split <;> omega
 have A:=bitD_adv h (c:=baseD side) (by omega)
 have hlen:(orderD side).length≤64:=by rcases hs with rfl | rfl;rw [orderD_len4];omega;rw [orderD_len8];omega
 unfold coefD
 split
 ·obtain ⟨p,q,r⟩:=coefGo_adv hb (last:=side*side-1) (orderD side) 0 (List.replicate (side*side) 0) A.ok (LevOk.zeros _)
  exact ⟨(A.trans p).le (by omega),fun o e=>by obtain ⟨u,v⟩:=q o e;exact ⟨by rw [u,List.length_replicate],v⟩,r⟩
 ·exact ⟨A.le (by omega),fun o e=>by cases e;exact ⟨List.length_replicate,LevOk.zeros _⟩,fun e he=>by cases he⟩
/-- a square's parts -/
structure SqD where
 kind:Nat
 mode:Nat
 modes:List Int
 vx:Int
 vy:Int
 large:List Int
 small:List (List Int)
def sq0:SqD:=⟨0,0,[0,0,0,0],0,0,[],[[],[],[],[]]⟩
/-- a small square's four parts, from the i-th on: k are left -/
def smallGo:Nat→List Int→List (List Int)→Mod→Except Err (List Int×List (List Int))×Mod
 | 0,ms,ls,m=>(.ok (ms,ls),m)
 | k+1,ms,ls,m =>
  match (coefD 4 (modeD m).2).1 with
  | .error e=>(.error e,(coefD 4 (modeD m).2).2)
  | .ok l=>smallGo k (ms ++ [((modeD m).1:Int)]) (ls ++ [l]) (coefD 4 (modeD m).2).2
def kindK (key:Bool) (m:Mod):Nat×Mod:=if key then (if (flatD m).1 then 3 else 2,(flatD m).2) else kindD m
/-- a square's parts by its kind -/
def partsD (k:Nat) (m:Mod):Except Err SqD×Mod :=
 if k=3 then
  match (smallGo 4 [] [] m).1 with
  | .error e=>(.error e,(smallGo 4 [] [] m).2)
  | .ok x=>(.ok ⟨3,0,x.1,0,0,[],x.2⟩,(smallGo 4 [] [] m).2)
 else if k=0 then (.ok sq0,m)
 else if k=1 then
  match (coefD 8 (partD (partD m).2).2).1 with
  | .error e=>(.error e,(coefD 8 (partD (partD m).2).2).2)
  | .ok l=>(.ok ⟨1,0,[0,0,0,0],(partD m).1,(partD (partD m).2).1,l,[[],[],[],[]]⟩,(coefD 8 (partD (partD m).2).2).2)
 else
  match (coefD 8 (modeD m).2).1 with
  | .error e=>(.error e,(coefD 8 (modeD m).2).2)
  | .ok l=>(.ok ⟨2,(modeD m).1,[0,0,0,0],0,0,l,[[],[],[],[]]⟩,(coefD 8 (modeD m).2).2)
def inD (s:ByteArray) (n:Int) (e:Err):Err:=⟨(s,n) :: e.path,e.code⟩
/-- a square, as the coder reads it -/
def squareD (key:Bool) (m:Mod):Except Err SqD×Mod :=
 match (partsD (kindK key m).1 (kindK key m).2).1 with
 | .error e=>(.error (inD sSyntax (kindK key m).1 e),(partsD (kindK key m).1 (kindK key m).2).2)
 | .ok s=>(.ok s,(partsD (kindK key m).1 (kindK key m).2).2)
/-- a square that the coder reads -/
structure SqOk (s:SqD):Prop where
 kind:s.kind≤3
 mode:s.mode≤3
 large:s.kind=1∨s.kind=2→s.large.length=64∧LevOk s.large
 vec:-15≤s.vx∧s.vx≤15∧-15≤s.vy∧s.vy≤15
 small:s.kind=3→s.modes.length=4∧s.small.length=4∧(∀ x∈s.modes,0≤x∧x≤3)∧∀ l∈s.small,l.length=16∧LevOk l
theorem smallGo_adv:∀ (k:Nat) (ms:List Int) (ls:List (List Int)) {m:Mod},ModOk m→(∀ x∈ms,0≤x∧x≤3)→(∀ l∈ls,l.length=16∧LevOk l) →
  Adv (5604*k) m (smallGo k ms ls m).2∧(∀ x,(smallGo k ms ls m).1=.ok x→x.1.length=ms.length+k∧x.2.length=ls.length+k∧(∀ y∈x.1,0≤y∧y≤3)∧∀ l∈x.2,l.length=16∧LevOk l)∧(∀ e,(smallGo k ms ls m).1=.error e→e.code=3∧e.path.length=1)
 | 0,ms,ls,m,h,hm,hl=>⟨Adv.refl h,fun x e=>by cases e;exact ⟨rfl,rfl,hm,hl⟩,fun e he=>by cases he⟩
 | k+1,ms,ls,m,h,hm,hl=>by
  obtain ⟨A,hA⟩:=modeD_adv h
  obtain ⟨B,hB,hE⟩:=coefD_adv (side:=4) (.inl rfl) A.ok
  unfold smallGo
  cases hc:(coefD 4 (modeD m).2).1 with
  | error e=>exact ⟨(A.trans B).le (by omega),fun x e=>(by cases e),fun e' he=>by cases he;exact hE _ hc⟩
  | ok l =>
   simp only
   obtain ⟨p,q,r⟩:=smallGo_adv k (ms ++ [((modeD m).1:Int)]) (ls ++ [l]) B.ok
    (fun x hx=>by rcases List.mem_append.1 hx with hx | hx;exact hm x hx;rw [mSg] at hx;omega)
    (fun x hx=>by rcases List.mem_append.1 hx with hx | hx;exact hl x hx;rw [mSg] at hx;rw [hx];exact hB l hc)
   exact ⟨((A.trans B).trans p).le (by omega),fun x e=>by obtain ⟨u,v,y,z⟩:=q x e;rw [List.length_append,List.length_singleton] at u v;exact ⟨by omega,by omega,y,z⟩,r⟩
theorem kindK_adv (key:Bool) {m:Mod} (h:ModOk m):Adv 6 m (kindK key m).2∧(kindK key m).1≤3∧(key=true→2≤(kindK key m).1):=by
 unfold kindK
 cases key with
 | true =>
  rw [if_pos rfl]
  exact ⟨(flatD_adv h).le (by omega),by simp only;split <;> omega,fun _=>by simp only;split <;> omega⟩
 | false =>
  rw [if_neg (by simp)]
  exact ⟨(kindD_adv h).1,(kindD_adv h).2,fun h=>by cases h⟩
theorem partsD_adv {k:Nat} (hk:k≤3) {m:Mod} (h:ModOk m):Adv 23000 m (partsD k m).2∧(∀ s,(partsD k m).1=.ok s→s.kind=k∧SqOk s)∧(∀ e,(partsD k m).1=.error e→e.code=3∧e.path.length=1):=by
 unfold partsD
 by_cases h3:k=3
 ·rw [if_pos h3]
  obtain ⟨p,q,r⟩:=smallGo_adv 4 [] [] h (by simp) (by simp)
  cases hs:(smallGo 4 [] [] m).1 with
  | error e=>exact ⟨p.le (by omega),fun s e=>(by cases e),fun e' he=>by cases he;exact r _ hs⟩
  | ok x =>
   refine ⟨p.le (by omega),fun s e=>?_,fun e he=>by cases he⟩
   cases e
   obtain ⟨a,b,c,d⟩:=q x hs
   exact ⟨h3.symm,⟨Nat.le_refl _,Nat.zero_le _,(fun h=>by rcases h with h | h <;> cases h),by simp,fun _=>⟨by simpa using a,by simpa using b,c,d⟩⟩⟩
 rw [if_neg h3]
 by_cases h0:k=0
 ·rw [if_pos h0]
  exact ⟨(Adv.refl h).le (by omega),fun s e=>by cases e;exact ⟨h0.symm,⟨Nat.zero_le _,Nat.zero_le _,(fun h=>by rcases h with h | h <;> cases h),by decide,fun h=>by cases h⟩⟩,fun e he=>by cases he⟩
 rw [if_neg h0]
 by_cases h1:k=1
 ·rw [if_pos h1]
  obtain ⟨A,a1,a2⟩:=partD_adv h
  obtain ⟨B,b1,b2⟩:=partD_adv A.ok
  obtain ⟨C,c1,c2⟩:=coefD_adv (side:=8) (.inr rfl) B.ok
  have ABC:=(A.trans B).trans C
  cases hs:(coefD 8 (partD (partD m).2).2).1 with
  | error e=>exact ⟨ABC.le (by omega),fun s e=>(by cases e),fun e' he=>by cases he;exact c2 _ hs⟩
  | ok l =>
   refine ⟨ABC.le (by omega),fun s e=>?_,fun e he=>by cases he⟩
   cases e
   exact ⟨h1.symm,⟨(show 1≤3 by omega),Nat.zero_le _,fun _=>c1 l hs,⟨a1,a2,b1,b2⟩,fun h=>by cases h⟩⟩
 rw [if_neg h1]
 obtain ⟨A,a1⟩:=modeD_adv h
 obtain ⟨C,c1,c2⟩:=coefD_adv (side:=8) (.inr rfl) A.ok
 cases hs:(coefD 8 (modeD m).2).1 with
 | error e=>exact ⟨(A.trans C).le (by omega),fun s e=>(by cases e),fun e' he=>by cases he;exact c2 _ hs⟩
 | ok l =>
  refine ⟨(A.trans C).le (by omega),fun s e=>?_,fun e he=>by cases he⟩
  cases e
  exact ⟨(show 2=k by omega),⟨(show 2≤3 by omega),a1,fun _=>c1 l hs,by simp,fun h=>by cases h⟩⟩
theorem squareD_adv (key:Bool) {m:Mod} (h:ModOk m):Adv 23006 m (squareD key m).2∧(∀ s,(squareD key m).1=.ok s→SqOk s∧(key=true→2≤s.kind))∧(∀ e,(squareD key m).1=.error e→e.code=3∧e.path.length=2):=by
 obtain ⟨A,a1,a2⟩:=kindK_adv key h
 obtain ⟨B,b1,b2⟩:=partsD_adv a1 A.ok
 unfold squareD
 cases hs:(partsD (kindK key m).1 (kindK key m).2).1 with
 | error e =>
  refine ⟨(A.trans B).le (by omega),fun s e=>(by cases e),fun e' he=>?_⟩
  cases he
  obtain ⟨x,y⟩:=b2 e hs
  exact ⟨x,by show e.path.length+1=2;omega⟩
 | ok s =>
  refine ⟨(A.trans B).le (by omega),fun s' e=>?_,fun e he=>by cases he⟩
  cases e
  obtain ⟨x,y⟩:=b1 s hs
  exact ⟨y,fun hk=>by rw [x];exact a2 hk⟩
structure FrameD where
 W:Int
 H:Int
 pix:List Int
def frame0:FrameD:=⟨0,0,[]⟩
def mayF (f:FrameD):Bool:=sideB f.W && sideB f.H && decide ((f.pix.length:Int)=f.W*f.H) && withinB f.pix 0 255
def newF (w h v:Int):FrameD:=⟨w,h,List.replicate (w*h).toNat v⟩
def clipD (v:Int):Int:=min (max v 0) 255
def atD (f:FrameD) (x y:Int):Int:=f.pix.getD (min (max y 0) (f.H-1)*f.W+min (max x 0) (f.W-1)).toNat 0
def halfD (f:FrameD) (hx hy:Int):Int :=
 if hx % 2=0∧hy % 2=0 then atD f (hx / 2) (hy / 2)
 else if hy % 2=0 then (atD f (hx / 2) (hy / 2)+atD f (hx / 2+1) (hy / 2)+1) / 2
 else if hx % 2=0 then (atD f (hx / 2) (hy / 2)+atD f (hx / 2) (hy / 2+1)+1) / 2
 else (atD f (hx / 2) (hy / 2)+atD f (hx / 2+1) (hy / 2)+atD f (hx / 2) (hy / 2+1)+atD f (hx / 2+1) (hy / 2+1)+2) / 4
def blockRow (f:FrameD) (x y:Int) (n:Nat) (vx vy:Int) (j:Nat):List Int:=(List.range n).map fun i:Nat=>halfD f (2*(x+(i:Int))+vx) (2*(y+(j:Int))+vy)
def blockD (f:FrameD) (x y:Int) (n:Nat) (vx vy:Int):List Int:=(List.range n).flatMap (blockRow f x y n vx vy)
def sampleD (f:FrameD) (x y:Int):Int:=if x<0∨y<0 then 128 else f.pix.getD (y*f.W+x).toNat 0
def topD (f:FrameD) (x y:Int) (n:Nat):List Int:=(List.range n).map fun i:Nat=>sampleD f (x+(i:Int)) (y-1)
def leftD (f:FrameD) (x y:Int) (n:Nat):List Int:=(List.range n).map fun i:Nat=>sampleD f (x-1) (y+(i:Int))
def sumD (top left:List Int):Nat→Int
 | 0=>top.length
 | k+1=>sumD top left k+(top.getD k 0+left.getD k 0)
def predAt (mode:Int) (top left:List Int) (corner:Int) (k:Nat):Int :=
 if mode=0 then sumD top left top.length / (2*top.length)
 else if mode=1 then top.getD (k % top.length) 0
 else if mode=2 then left.getD (k / top.length) 0
 else clipD (left.getD (k / top.length) 0+top.getD (k % top.length) 0-corner)
def predD (mode:Int) (top left:List Int) (corner:Int):List Int:=(List.range (top.length*top.length)).map (predAt mode top left corner)
def stepsD:List Int:=[1,2,4,6,8,12,16,24,32,48,64,96,128,192,256,384]
def stepD (qp:Int):Int:=stepsD.getD qp.toNat 0
def valuesD (l:List Int) (qp:Int):List Int:=l.map fun v=>v*stepD qp
/-- one pair of a pass of the transform -/
def pairW (h:Nat) (l:List Int) (i:Nat):List Int:=if i &&& h=0 then (l.set i (l.getD i 0+l.getD (i ||| h) 0)).set (i ||| h) (l.getD i 0-l.getD (i ||| h) 0) else l
def passW (h:Nat) (l:List Int):List Int:=(List.range l.length).foldl (pairW h) l
def turnGo:Nat→Nat→List Int→List Int
 | 0,_,l=>l
 | k+1,h,l=>if h<l.length then turnGo k (2*h) (passW h l) else l
def turnD (l:List Int):List Int:=turnGo 7 1 l
def inverseD (l:List Int):List Int:=(turnD l).map fun v=>(v+(l.length:Int) / 2) / l.length
def restD (l:List Int) (qp:Int):List Int:=inverseD (valuesD l qp)
def addD (p l:List Int) (qp:Int):List Int:=List.zipWith (fun a v=>clipD (a+v)) p (restD l qp)
/-- a row of samples, laid -/
def rowD (pix:List Int) (o:Nat) (row:List Int):List Int:=pix.take o ++ row ++ pix.drop (o+row.length)
def layP (W:Int) (x y:Int) (n:Nat) (b:List Int) (pix:List Int) (j:Nat):List Int:=rowD pix ((y+j)*W+x).toNat ((b.drop (j*n)).take n)
def layD (f:FrameD) (x y:Int) (n:Nat) (b:List Int):FrameD:={ f with pix:=(List.range n).foldl (layP f.W x y n b) f.pix }
def oneD (f:FrameD) (x y:Int) (n:Nat) (mode qp:Int) (l:List Int):FrameD :=
 layD f x y n (addD (predD mode (topD f x y n) (leftD f x y n) (sampleD f (x-1) (y-1))) l qp)
def smallD (x y qp:Int) (s:SqD) (f:FrameD) (i:Nat):FrameD:=oneD f (x+((i % 2:Nat):Int)*4) (y+((i / 2:Nat):Int)*4) 4 (s.modes.getD i 0) qp (s.small.getD i [])
def laySq (f prev:FrameD) (x y qp:Int) (s:SqD):FrameD :=
 if s.kind=0 then layD f x y 8 (blockD prev x y 8 0 0)
 else if s.kind=1 then layD f x y 8 (addD (blockD prev x y 8 s.vx s.vy) s.large qp)
 else if s.kind=2 then oneD f x y 8 s.mode qp s.large
 else (List.range 4).foldl (smallD x y qp s) f
/-- the squares of a frame, from the i-th on: k are left -/
def squaresGo (key:Bool) (prev:FrameD) (qp:Int):Nat→Nat→FrameD→Mod→Except Err FrameD
 | 0,_,f,_=>.ok f
 | k+1,i,f,m =>
  match (squareD key m).1 with
  | .error e=>.error (inD sDecode i e)
  | .ok s=>squaresGo key prev qp k (i+1) (laySq f prev ((i:Int)*8 % f.W) ((i:Int)*8 / f.W*8) qp s) (squareD key m).2
def matesB (prev:FrameD) (w h:Int):Bool:=mayF prev && decide (prev.W=w) && decide (prev.H=h)
/-- what a coded frame means -/
def frameD (c:Coded) (prev:FrameD) (w h:Int):Except Err FrameD :=
 if newB w h 128=false then .error ⟨[],3⟩
 else match readB c with
  | some k=>.error ⟨[],k⟩
  | none =>
   if (c.kind=2∨c.kind=3)∧matesB prev w h=false then .error ⟨[],12⟩
   else if c.kind=4 then .ok (newF w h 128)
   else if c.kind=3 then .ok ⟨w,h,prev.pix⟩
   else squaresGo (decide (c.kind=1)) prev (c.data.getD 0 0) (w*h / 64).toNat 0 (newF w h 128) (modNew (c.data.drop 1))
/-- samples: all within 0 and 255 -/
def SamOk (l:List Int):Prop:=∀ x∈l,0≤x∧x≤255
theorem samOk_iff {l:List Int}:withinB l 0 255=true↔SamOk l:=by
 unfold withinB SamOk
 rw [List.all_eq_true]
 simp
theorem SamOk.at {l:List Int} (h:SamOk l) (i:Nat):0≤l.getD i 0∧l.getD i 0≤255:=by
 rw [List.getD_eq_getElem?_getD]
 cases hx:l[i]? with
 | none=>simp
 | some x=>exact h x (List.mem_of_getElem? hx)
theorem SamOk.append {l m:List Int} (h:SamOk l) (g:SamOk m):SamOk (l ++ m):=fun x hx=>(List.mem_append.1 hx).elim (h x) (g x)
theorem SamOk.take {l:List Int} (h:SamOk l) (n:Nat):SamOk (l.take n):=fun x hx=>h x (List.mem_of_mem_take hx)
theorem SamOk.drop {l:List Int} (h:SamOk l) (n:Nat):SamOk (l.drop n):=fun x hx=>h x (List.mem_of_mem_drop hx)
theorem clipD_in (v:Int):0≤clipD v∧clipD v≤255:=by unfold clipD;omega
/-- a frame that may be -/
structure FrOk (f:FrameD):Prop where
 w0:8≤f.W
 w1:f.W≤32
 w8:f.W % 8=0
 h0:8≤f.H
 h1:f.H≤32
 h8:f.H % 8=0
 len:(f.pix.length:Int)=f.W*f.H
 sam:SamOk f.pix
theorem sideB_iff {n:Int}:sideB n=true↔8≤n∧n≤32∧n % 8=0:=by unfold sideB;exact decide_eq_true_iff
theorem mayF_iff {f:FrameD}:mayF f=true↔FrOk f:=by
 unfold mayF
 rw [Bool.and_eq_true,Bool.and_eq_true,Bool.and_eq_true,sideB_iff,sideB_iff,samOk_iff,decide_eq_true_iff]
 exact ⟨fun ⟨⟨⟨⟨a,b,c⟩,d,e,f⟩,g⟩,h⟩=>⟨a,b,c,d,e,f,g,h⟩,fun ⟨a,b,c,d,e,f,g,h⟩=>⟨⟨⟨⟨a,b,c⟩,d,e,f⟩,g⟩,h⟩⟩
theorem atD_in {f:FrameD} (h:SamOk f.pix) (x y:Int):0≤atD f x y∧atD f x y≤255:=h.at _
theorem halfD_in {f:FrameD} (h:SamOk f.pix) (x y:Int):0≤halfD f x y∧halfD f x y≤255:=by
 have a:=atD_in h (x / 2) (y / 2)
 have b:=atD_in h (x / 2+1) (y / 2)
 have c:=atD_in h (x / 2) (y / 2+1)
 have d:=atD_in h (x / 2+1) (y / 2+1)
 unfold halfD
 split
 ·exact a
 split
 ·omega
 split
 ·omega
 ·omega
theorem flatMap_len {α β:Type} (k:Nat) (g:α→List β):∀ (l:List α),(∀ x∈l,(g x).length=k)→(l.flatMap g).length=l.length*k
 | [],_=>by simp
 | x :: l,h=>by
  rw [List.flatMap_cons,List.length_append,flatMap_len k g l (fun y hy=>h y (List.mem_cons_of_mem _ hy)),h x List.mem_cons_self,List.length_cons,Nat.add_mul]
  omega
theorem blockD_len (f:FrameD) (x y:Int) (n:Nat) (vx vy:Int):(blockD f x y n vx vy).length=n*n:=by
 unfold blockD
 rw [flatMap_len n _ _ (fun j _=>by simp [blockRow]),List.length_range]
theorem blockD_in {f:FrameD} (h:SamOk f.pix) (x y:Int) (n:Nat) (vx vy:Int):SamOk (blockD f x y n vx vy):=by
 intro v hv
 unfold blockD at hv
 obtain ⟨j,_,hv⟩:=List.mem_flatMap.1 hv
 unfold blockRow at hv
 obtain ⟨i,_,rfl⟩:=List.mem_map.1 hv
 exact halfD_in h _ _
theorem sampleD_in {f:FrameD} (h:SamOk f.pix) (x y:Int):0≤sampleD f x y∧sampleD f x y≤255:=by
 unfold sampleD
 split
 ·omega
 ·exact h.at _
theorem topD_len (f:FrameD) (x y:Int) (n:Nat):(topD f x y n).length=n:=by simp [topD]
theorem leftD_len (f:FrameD) (x y:Int) (n:Nat):(leftD f x y n).length=n:=by simp [leftD]
theorem topD_in {f:FrameD} (h:SamOk f.pix) (x y:Int) (n:Nat):SamOk (topD f x y n):=by
 intro v hv
 unfold topD at hv
 obtain ⟨i,_,rfl⟩:=List.mem_map.1 hv
 exact sampleD_in h _ _
theorem leftD_in {f:FrameD} (h:SamOk f.pix) (x y:Int) (n:Nat):SamOk (leftD f x y n):=by
 intro v hv
 unfold leftD at hv
 obtain ⟨i,_,rfl⟩:=List.mem_map.1 hv
 exact sampleD_in h _ _
theorem sumD_in {top left:List Int} (h:SamOk top) (g:SamOk left):∀ k:Nat,(top.length:Int)≤sumD top left k∧sumD top left k≤top.length+510*k
 | 0=>by simp [sumD]
 | k+1=>by
  have a:=sumD_in h g k
  have b:=h.at k
  have c:=g.at k
  unfold sumD
  omega
theorem predD_len (mode:Int) (top left:List Int) (corner:Int):(predD mode top left corner).length=top.length*top.length:=by simp [predD]
theorem predD_in {top left:List Int} (h:SamOk top) (g:SamOk left) (hn:1≤top.length) (mode corner:Int):SamOk (predD mode top left corner):=by
 intro v hv
 unfold predD at hv
 obtain ⟨k,_,rfl⟩:=List.mem_map.1 hv
 unfold predAt
 split
 ·have a:=sumD_in h g top.length
  generalize sumD top left top.length=s at *
  have hp:(0:Int)<2*(top.length:Int):=by omega
  refine ⟨Int.ediv_nonneg (by omega) (by omega),?_⟩
  have:s / (2*(top.length:Int))<256:=Int.ediv_lt_of_lt_mul hp (by omega)
  omega
 split
 ·exact h.at _
 split
 ·exact g.at _
 ·exact clipD_in _
theorem addD_in (p l:List Int) (qp:Int):SamOk (addD p l qp):=by
 intro v hv
 unfold addD at hv
 obtain ⟨i,hi⟩:=List.getElem?_of_mem hv
 rw [List.getElem?_zipWith] at hi
 split at hi
 ·injection hi with hi;subst hi;exact clipD_in _
 ·cases hi
/-! ### the transform keeps lengths and bounds -/
theorem pairW_len (h:Nat) (l:List Int) (i:Nat):(pairW h l i).length=l.length:=by unfold pairW;split <;> simp
theorem foldl_len {α:Type} (g:List Int→α→List Int) (hg:∀ l a,(g l a).length=l.length):∀ (ys:List α) (l:List Int),(ys.foldl g l).length=l.length
 | [],l=>rfl
 | a :: ys,l=>by rw [List.foldl_cons,foldl_len g hg ys,hg]
theorem passW_len (h:Nat) (l:List Int):(passW h l).length=l.length:=foldl_len _ (pairW_len h) _ _
theorem turnGo_len:∀ (k h:Nat) (l:List Int),(turnGo k h l).length=l.length
 | 0,h,l=>rfl
 | k+1,h,l=>by
  unfold turnGo
  split
  ·rw [turnGo_len k,passW_len]
  ·rfl
theorem turnD_len (l:List Int):(turnD l).length=l.length:=turnGo_len _ _ _
theorem valuesD_len (l:List Int) (qp:Int):(valuesD l qp).length=l.length:=by simp [valuesD]
theorem restD_len (l:List Int) (qp:Int):(restD l qp).length=l.length:=by simp [restD,inverseD,turnD_len,valuesD_len]
theorem addD_len {p l:List Int} (h:p.length=l.length) (qp:Int):(addD p l qp).length=p.length:=by
 unfold addD
 rw [List.length_zipWith,restD_len]
 omega
/-! ### laying -/
theorem rowD_len {pix row:List Int} {o:Nat} (h:o+row.length≤pix.length):(rowD pix o row).length=pix.length:=by
 unfold rowD
 simp only [List.length_append,List.length_take,List.length_drop]
 omega
theorem rowD_in {pix row:List Int} (h:SamOk pix) (g:SamOk row) (o:Nat):SamOk (rowD pix o row):=((h.take _).append g).append (h.drop _)
/-- where a row of a square lies -/
theorem place_in {W H x y j n:Int} (hW:0≤W) (hx:0≤x) (hxn:x+n≤W) (hn:0≤n) (hy:0≤y) (hj:0≤j) (hyj:y+j+1≤H):0≤(y+j)*W+x∧(y+j)*W+x+n≤W*H:=by
 have h1:0≤(y+j)*W:=Int.mul_nonneg (by omega) hW
 have h2:(y+j+1)*W≤H*W:=Int.mul_le_mul_of_nonneg_right hyj hW
 rw [Int.add_mul,Int.one_mul,Int.mul_comm H W] at h2
 constructor <;> omega
theorem foldl_inv {α:Type} (P:List Int→Prop) (g:List Int→α→List Int):∀ (ys:List α) (l:List Int),P l→(∀ l a,a∈ys→P l→P (g l a))→P (ys.foldl g l)
 | [],l,h,_=>h
 | a :: ys,l,h,hg=>foldl_inv P g ys (g l a) (hg l a List.mem_cons_self h) (fun l b hb=>hg l b (List.mem_cons_of_mem _ hb))
theorem layD_ok {f:FrameD} (h:FrOk f) {x y:Int} {n:Nat} (hx:0≤x) (hxn:x+n≤f.W) (hy:0≤y) (hyn:y+n≤f.H) {b:List Int} (hb:b.length=n*n) (hs:SamOk b):FrOk (layD f x y n b):=by
 have key:(((List.range n).foldl (layP f.W x y n b) f.pix).length:Int)=f.W*f.H∧SamOk ((List.range n).foldl (layP f.W x y n b) f.pix):=by
  refine foldl_inv (fun l=>(l.length:Int)=f.W*f.H∧SamOk l) _ _ _ ⟨h.len,h.sam⟩ (fun l j hj hl=>?_)
  rw [List.mem_range] at hj
  obtain ⟨p1,p2⟩:=place_in (W:=f.W) (H:=f.H) (x:=x) (y:=y) (j:=j) (n:=n) (by have:=h.w0;omega) hx hxn (by omega) hy (by omega) (by omega)
  have hl2:((b.drop (j*n)).take n).length≤n:=by rw [List.length_take];omega
  refine ⟨?_,rowD_in hl.2 ((hs.drop _).take _) _⟩
  unfold layP
  rw [rowD_len (by omega)]
  exact hl.1
 exact ⟨h.w0,h.w1,h.w8,h.h0,h.h1,h.h8,key.1,key.2⟩
theorem oneD_ok {f:FrameD} (h:FrOk f) {x y:Int} {n:Nat} (hx:0≤x) (hxn:x+n≤f.W) (hy:0≤y) (hyn:y+n≤f.H) {l:List Int} (hl:l.length=n*n) (hn:1≤n) (mode qp:Int):FrOk (oneD f x y n mode qp l):=by
 refine layD_ok h hx hxn hy hyn ?_ (addD_in _ _ _)
 rw [addD_len (by rw [predD_len,topD_len,hl]),predD_len,topD_len]
theorem laySq_W (f prev:FrameD) (x y qp:Int) (s:SqD):(laySq f prev x y qp s).W=f.W∧(laySq f prev x y qp s).H=f.H:=by
 unfold laySq
 split
 ·exact ⟨rfl,rfl⟩
 split
 ·exact ⟨rfl,rfl⟩
 split
 ·exact ⟨rfl,rfl⟩
 ·exact ⟨rfl,rfl⟩
theorem laySq_ok {f prev:FrameD} (h:FrOk f) {s:SqD} (g:s.kind<2→SamOk prev.pix) {x y:Int} (hx:0≤x) (hxn:x+8≤f.W) (hy:0≤y) (hyn:y+8≤f.H) (hs:SqOk s) (qp:Int):FrOk (laySq f prev x y qp s):=by
 unfold laySq
 split
 ·rename_i h0
  exact layD_ok h hx hxn hy hyn (blockD_len _ _ _ _ _ _) (blockD_in (g (by omega)) _ _ _ _ _)
 rename_i h0
 split
 ·rename_i h1
  refine layD_ok h hx hxn hy hyn ?_ (addD_in _ _ _)
  rw [addD_len (by rw [blockD_len,(hs.large (.inl h1)).1]),blockD_len]
 rename_i h1
 split
 ·rename_i h2
  exact oneD_ok (n:=8) h hx hxn hy hyn (hs.large (.inr h2)).1 (by omega) _ _
 ·rename_i h2
  have h3:s.kind=3:=by have:=hs.kind;omega
  obtain ⟨a,b,c,d⟩:=hs.small h3
  have step:∀ (g:FrameD) (i:Nat),i<4→FrOk g→g.W=f.W→g.H=f.H→FrOk (smallD x y qp s g i)∧(smallD x y qp s g i).W=f.W∧(smallD x y qp s g i).H=f.H:=by
   intro g i hi hg hgw hgh
   refine ⟨(show FrOk (oneD g (x+((i % 2:Nat):Int)*4) (y+((i / 2:Nat):Int)*4) 4 (s.modes.getD i 0) qp (s.small.getD i [])) from oneD_ok hg (by omega) (by omega) (by omega) (by omega) ?_ (by omega) _ _),hgw,hgh⟩
   exact (d (s.small.getD i []) (by rw [List.getD_eq_getElem?_getD,List.getElem?_eq_getElem (by omega)];exact List.getElem_mem _)).1
  obtain ⟨h0,w0,e0⟩:=step f 0 (by omega) h rfl rfl
  obtain ⟨h1',w1,e1⟩:=step _ 1 (by omega) h0 w0 e0
  obtain ⟨h2',w2,e2⟩:=step _ 2 (by omega) h1' w1 e1
  exact (step _ 3 (by omega) h2' w2 e2).1
/-- a number's pair is met before the i-th step -/
def procB (h i j:Nat):Bool:=if j &&& h=0 then decide (j<i) else decide (j ^^^ h<i)
def factT (h i j:Nat):Bool :=
 (if i &&& h=0 then !procB h i i && !procB h i (i ||| h) && decide (i ||| h≠i) && (procB h (i+1) j == (procB h i j || decide (j=i) || decide (j=i ||| h))) else true) && (!procB h i j || procB h (i+1) j)
theorem facts_all:([1,2,4,8,16,32].all fun h=>(List.range 64).all fun i=>(List.range 64).all fun j=>factT h i j)=true:=by decide +kernel
theorem facts_lt:(([1,2,4,8,16,32].all fun h=>(List.range 64).all fun i=>decide (i ||| h<64)) && ([1,2,4,8].all fun h=>(List.range 16).all fun i=>decide (i ||| h<16)))=true:=by decide +kernel
def AbsLe (B:Int) (l:List Int):Prop:=∀ j,j<l.length→-B≤l.getD j 0∧l.getD j 0≤B
def MidLe (B:Int) (h i:Nat) (l:List Int):Prop:=∀ j,j<l.length→-(if procB h i j then 2*B else B)≤l.getD j 0∧l.getD j 0≤(if procB h i j then 2*B else B)
theorem fact_at {h i j:Nat} (hh:h∈[1,2,4,8,16,32]) (hi:i<64) (hj:j<64):factT h i j=true:=by
 have:=List.all_eq_true.1 facts_all h hh
 have:=List.all_eq_true.1 this i (List.mem_range.2 hi)
 exact List.all_eq_true.1 this j (List.mem_range.2 hj)
theorem getD_set {l:List Int} {i j:Nat} {x:Int} (hi:i<l.length):(l.set i x).getD j 0=if j=i then x else l.getD j 0:=by
 by_cases e:j=i
 ·subst e
  rw [if_pos rfl,List.getD_eq_getElem?_getD,List.getElem?_set_self hi];rfl
 ·rw [if_neg e,List.getD_eq_getElem?_getD,List.getElem?_set_ne (Ne.symm e),← List.getD_eq_getElem?_getD]
theorem MidLe.step {B:Int} (hB:0≤B) {h i:Nat} {l:List Int} (hh:h∈[1,2,4,8,16,32]) (hl:l.length≤64) (hi:i<l.length) (ho:i ||| h<l.length) (hm:MidLe B h i l):MidLe B h (i+1) (pairW h l i):=by
 intro j hj
 rw [pairW_len] at hj
 have hf:=fact_at (i:=i) (j:=j) hh (by omega) (by omega)
 have mj:=hm j hj
 have mi:=hm i hi
 have mo:=hm (i ||| h) ho
 unfold pairW
 unfold factT at hf
 by_cases hz:i &&& h=0
 ·rw [if_pos hz] at hf ⊢
  simp only [Bool.and_eq_true,Bool.not_eq_true',decide_eq_true_eq,beq_iff_eq] at hf
  obtain ⟨⟨⟨⟨f1,f2⟩,f3⟩,f4⟩,-⟩:=hf
  rw [f1] at mi
  rw [f2] at mo
  simp only [Bool.false_eq_true,if_false] at mi mo
  rw [getD_set (by rw [List.length_set];exact ho),getD_set hi]
  by_cases e1:j=i ||| h
  ·have hp:procB h (i+1) j=true:=by rw [f4];simp [e1]
   rw [hp,if_pos e1]
   simp only [if_true]
   omega
  ·by_cases e2:j=i
   ·have hp:procB h (i+1) j=true:=by rw [f4];simp [e2]
    rw [hp,if_neg e1,if_pos e2]
    simp only [if_true]
    omega
   ·have hp:procB h (i+1) j=procB h i j:=by rw [f4];simp [e1,e2]
    rw [hp,if_neg e1,if_neg e2]
    exact mj
 ·rw [if_neg hz] at hf ⊢
  simp only [Bool.true_and,Bool.or_eq_true,Bool.not_eq_true'] at hf
  rcases hf with hf | hf
  ·rw [hf] at mj
   simp only [Bool.false_eq_true,if_false] at mj
   cases procB h (i+1) j <;> simp only [Bool.false_eq_true,if_false,if_true] <;> omega
  ·rw [hf]
   simp only [if_true]
   cases hp:procB h i j <;> rw [hp] at mj <;> simp only [Bool.false_eq_true,if_false,if_true] at mj <;> omega
theorem midLe_start {B:Int} {h:Nat} {l:List Int} (hl:AbsLe B l):MidLe B h 0 l:=by
 intro j hj
 have hp:procB h 0 j=false:=by unfold procB;split <;> simp
 rw [hp]
 simpa only [Bool.false_eq_true,if_false] using hl j hj
theorem MidLe.all {B:Int} (hB:0≤B) {h i:Nat} {l:List Int} (hm:MidLe B h i l):AbsLe (2*B) l:=by
 intro j hj
 have:=hm j hj
 cases hp:procB h i j <;> rw [hp] at this <;> simp only [Bool.false_eq_true,if_false,if_true] at this <;> omega
theorem or_lt {h i n:Nat} (hn:n=16∧h∈[1,2,4,8]∨n=64∧h∈[1,2,4,8,16,32]) (hi:i<n):i ||| h<n:=by
 have hf:=facts_lt
 rw [Bool.and_eq_true] at hf
 rcases hn with ⟨rfl,hh⟩ | ⟨rfl,hh⟩
 ·exact of_decide_eq_true (List.all_eq_true.1 (List.all_eq_true.1 hf.2 h hh) i (List.mem_range.2 hi))
 ·exact of_decide_eq_true (List.all_eq_true.1 (List.all_eq_true.1 hf.1 h hh) i (List.mem_range.2 hi))
/-- where a pass stands: its step, how many are left, the bound of the numbers -/
def PW (n k hh:Nat) (B:Int):Prop:=∃ p:Nat,(n=16∧p≤4∨n=64∧p≤6)∧hh=2 ^ p∧k=7-p∧B=6266880*2 ^ p
theorem PW.start {n:Nat} (h:n=16∨n=64):PW n 7 1 6266880:=⟨0,by omega,rfl,rfl,rfl⟩
theorem upto6 {p:Nat} (h:p≤6):p=0∨p=1∨p=2∨p=3∨p=4∨p=5∨p=6:=by omega
theorem PW.next {n k hh:Nat} {B:Int} (h:PW n k hh B) (hlt:hh<n):PW n (k-1) (2*hh) (2*B)∧k=(k-1)+1∧(n=16∧hh∈[1,2,4,8]∨n=64∧hh∈[1,2,4,8,16,32])∧hh∈[1,2,4,8,16,32]∧0≤B∧B≤200540160∧1≤hh∧hh≤64:=by
 obtain ⟨p,hp,rfl,rfl,rfl⟩:=h
 rcases upto6 (show p≤6 by omega) with rfl | rfl | rfl | rfl | rfl | rfl | rfl
 ·exact ⟨⟨1,by omega,rfl,rfl,rfl⟩,rfl,by rcases hp with hp | hp <;> simp [hp.1],by simp,by omega,by omega,by omega,by omega⟩
 ·exact ⟨⟨2,by omega,rfl,rfl,rfl⟩,rfl,by rcases hp with hp | hp <;> simp [hp.1],by simp,by omega,by omega,by omega,by omega⟩
 ·exact ⟨⟨3,by omega,rfl,rfl,rfl⟩,rfl,by rcases hp with hp | hp <;> simp [hp.1],by simp,by omega,by omega,by omega,by omega⟩
 ·exact ⟨⟨4,by omega,rfl,rfl,rfl⟩,rfl,by rcases hp with hp | hp <;> simp [hp.1],by simp,by omega,by omega,by omega,by omega⟩
 ·have:n=64:=by omega
  exact ⟨⟨5,by omega,rfl,rfl,rfl⟩,rfl,by simp [this],by simp,by omega,by omega,by omega,by omega⟩
 ·have:n=64:=by omega
  exact ⟨⟨6,by omega,rfl,rfl,rfl⟩,rfl,by simp [this],by simp,by omega,by omega,by omega,by omega⟩
 ·have:n=64:=by omega
  omega
theorem PW.bound {n k hh:Nat} {B:Int} (h:PW n k hh B):0≤B∧B≤401080320∧1≤hh∧hh≤64:=by
 obtain ⟨p,hp,rfl,rfl,rfl⟩:=h
 rcases upto6 (show p≤6 by omega) with rfl | rfl | rfl | rfl | rfl | rfl | rfl <;> omega
theorem turnGo_step {k h:Nat} {l:List Int} (hlt:h<l.length):turnGo (k+1) h l=turnGo k (2*h) (passW h l):=by
 rw [turnGo,if_pos hlt]
theorem turnGo_end {k h:Nat} {l:List Int} (hge:¬ h<l.length):turnGo k h l=l:=by
 cases k with
 | zero=>rfl
 | succ k=>rw [turnGo,if_neg hge]
theorem range_drop {n j:Nat} (h:j<n):(List.range n).drop j=j :: (List.range n).drop (j+1):=by
 rw [List.drop_eq_getElem_cons (by simpa using h),List.getElem_range]
theorem pass_more {n j h:Nat} (hj:j<n) (l:List Int):((List.range n).drop j).foldl (pairW h) l=((List.range n).drop (j+1)).foldl (pairW h) (pairW h l j):=by
 rw [range_drop hj,List.foldl_cons]
theorem pass_end {n h:Nat} (l:List Int):((List.range n).drop n).foldl (pairW h) l=l:=by
 rw [List.drop_eq_nil_of_le (by simp)];rfl
theorem pairW_yes {h i:Nat} {l:List Int} (hz:i &&& h=0):pairW h l i=(l.set i (l.getD i 0+l.getD (i ||| h) 0)).set (i ||| h) (l.getD i 0-l.getD (i ||| h) 0):=by
 unfold pairW;rw [if_pos hz]
theorem pairW_no {h i:Nat} {l:List Int} (hz:¬ i &&& h=0):pairW h l i=l:=by
 unfold pairW;rw [if_neg hz]
theorem MidLe.pair {B:Int} {h i:Nat} {l:List Int} (hh:h∈[1,2,4,8,16,32]) (hl:l.length≤64) (hi:i<l.length) (ho:i ||| h<l.length) (hz:i &&& h=0) (hm:MidLe B h i l) :
  (i ||| h≠i)∧(-B≤l.getD i 0∧l.getD i 0≤B)∧-B≤l.getD (i ||| h) 0∧l.getD (i ||| h) 0≤B:=by
 have hf:=fact_at (i:=i) (j:=i) hh (by omega) (by omega)
 unfold factT at hf
 rw [if_pos hz] at hf
 simp only [Bool.and_eq_true,Bool.not_eq_true',decide_eq_true_eq,beq_iff_eq] at hf
 obtain ⟨⟨⟨⟨f1,f2⟩,f3⟩,f4⟩,-⟩:=hf
 have mi:=hm i hi
 have mo:=hm (i ||| h) ho
 rw [f1] at mi
 rw [f2] at mo
 simp only [Bool.false_eq_true,if_false] at mi mo
 exact ⟨f3,mi,mo⟩
theorem AbsLe.mono {A B:Int} {l:List Int} (h:AbsLe A l) (hAB:A≤B):AbsLe B l:=fun j hj=>by have:=h j hj;omega
theorem newB_iff {w h v:Int}:newB w h v=true↔(8≤w∧w≤32∧w % 8=0)∧(8≤h∧h≤32∧h % 8=0)∧0≤v∧v≤255:=by
 unfold newB
 rw [Bool.and_eq_true,Bool.and_eq_true,sideB_iff,sideB_iff,sampleB,decide_eq_true_iff]
 exact ⟨fun ⟨⟨a,b⟩,c⟩=>⟨a,b,c⟩,fun ⟨a,b,c⟩=>⟨⟨a,b⟩,c⟩⟩
theorem newF_ok {w h v:Int} (hn:newB w h v=true):FrOk (newF w h v):=by
 obtain ⟨⟨a,b,c⟩,⟨d,e,f⟩,g,i⟩:=newB_iff.1 hn
 have hp:0≤w*h:=Int.mul_nonneg (by omega) (by omega)
 refine ⟨a,b,c,d,e,f,?_,fun x hx=>?_⟩
 ·show ((List.replicate (w*h).toNat v).length:Int)=w*h
  rw [List.length_replicate];omega
 ·have:=(List.mem_replicate.1 hx).2;omega
/-- where the i-th square of a frame lies -/
theorem square_in {W H:Int} {i:Nat} (w0:8≤W) (w1:W≤32) (w8:W % 8=0) (h0:8≤H) (h1:H≤32) (h8:H % 8=0) (hi:(i:Int)<W*H / 64) :
  0≤(i:Int)*8 % W∧(i:Int)*8 % W+8≤W∧0≤(i:Int)*8 / W*8∧(i:Int)*8 / W*8+8≤H:=by
 have hW:W=8∨W=16∨W=24∨W=32:=by omega
 rcases hW with rfl | rfl | rfl | rfl <;> omega
theorem squaresGo_ok (key:Bool) {prev:FrameD} (g:key=false→SamOk prev.pix) (qp:Int):∀ (k i:Nat) {f:FrameD} {m:Mod},FrOk f→ModOk m→(i:Int)+k≤f.W*f.H / 64 →
  (∀ o,squaresGo key prev qp k i f m=.ok o→FrOk o∧o.W=f.W∧o.H=f.H)∧(∀ e,squaresGo key prev qp k i f m=.error e→e.code=3∧e.path.length=3)
 | 0,i,f,m,hf,hm,hi=>⟨fun o e=>by cases e;exact ⟨hf,rfl,rfl⟩,fun e he=>by cases he⟩
 | k+1,i,f,m,hf,hm,hi=>by
  obtain ⟨A,a1,a2⟩:=squareD_adv key hm
  unfold squaresGo
  cases hs:(squareD key m).1 with
  | error e =>
   refine ⟨fun o e=>(by cases e),fun e' he=>?_⟩
   cases he
   obtain ⟨x,y⟩:=a2 e hs
   exact ⟨x,by show e.path.length+1=3;omega⟩
  | ok s =>
   simp only
   obtain ⟨p1,p2,p3,p4⟩:=square_in (i:=i) hf.w0 hf.w1 hf.w8 hf.h0 hf.h1 hf.h8 (by omega)
   have hf':=laySq_ok hf (s:=s) (fun hk=>g (by cases key with | false=>rfl | true=>have:=(a1 s hs).2 rfl;omega)) p1 p2 p3 p4 (a1 s hs).1 qp
   obtain ⟨w1,h1⟩:=laySq_W f prev ((i:Int)*8 % f.W) ((i:Int)*8 / f.W*8) qp s
   have ih:=squaresGo_ok key g qp k (i+1) hf' A.ok (by rw [w1,h1];omega)
   rw [w1,h1] at ih
   exact ih
theorem readB_codes {c:Coded} {k:Int} (h:readB c=some k):k=13∨k=2∨k=1∨k=3∨k=5:=by
 unfold readB at h
 split at h
 ·injection h with h;omega
 split at h
 ·split at h
  ·injection h with h;omega
  ·cases h
 split at h
 ·injection h with h;omega
 split at h
 ·injection h with h;omega
 split at h
 ·injection h with h;omega
 ·cases h
theorem readB_kind {c:Coded} (h:readB c=none):1≤c.kind∧c.kind≤4:=by
 unfold readB at h
 split at h
 ·cases h
 ·rename_i hq
  cases hk:kindB c.kind with
  | false=>exact absurd hk hq
  | true=>unfold kindB at hk;rw [decide_eq_true_iff] at hk;exact hk
theorem frameD_both {c:Coded} {prev:FrameD} {w h:Int} (hd:∀ x∈c.data,InK .u8 x) :
  (∀ f,frameD c prev w h=.ok f→FrOk f∧f.W=w∧f.H=h)∧∀ e,frameD c prev w h=.error e→e.path.length≤3∧(e.code=3∨e.code=13∨e.code=12∨e.code=2∨e.code=1∨e.code=5):=by
 unfold frameD
 by_cases hn:newB w h 128=false
 ·rw [if_pos hn]
  exact ⟨fun f e=>(by cases e),fun e he=>by cases he;exact ⟨by simp,.inl rfl⟩⟩
 rw [if_neg hn]
 have hnt:newB w h 128=true:=by simpa using hn
 cases hr:readB c with
 | some k =>
  refine ⟨fun f e=>(by cases e),fun e he=>?_⟩
  cases he
  refine ⟨by simp,?_⟩
  have:=readB_codes hr
  simp only
  omega
 | none =>
  simp only
  by_cases hm:(c.kind=2∨c.kind=3)∧matesB prev w h=false
  ·rw [if_pos hm]
   exact ⟨fun f e=>(by cases e),fun e he=>by cases he;exact ⟨by simp,.inr (.inr (.inl rfl))⟩⟩
  rw [if_neg hm]
  have hmt:c.kind=2∨c.kind=3→FrOk prev∧prev.W=w∧prev.H=h:=fun hk=>by
   have:matesB prev w h=true:=by
    cases hb:matesB prev w h with
    | true=>rfl
    | false=>exact absurd ⟨hk,hb⟩ hm
   unfold matesB at this
   rw [Bool.and_eq_true,Bool.and_eq_true,mayF_iff,decide_eq_true_iff,decide_eq_true_iff] at this
   exact ⟨this.1.1,this.1.2,this.2⟩
  have hF:=newF_ok hnt
  by_cases h4:c.kind=4
  ·rw [if_pos h4]
   exact ⟨fun f e=>by cases e;exact ⟨hF,rfl,rfl⟩,fun e he=>(by cases he)⟩
  rw [if_neg h4]
  by_cases h3:c.kind=3
  ·rw [if_pos h3]
   obtain ⟨hp,p1,p2⟩:=hmt (.inr h3)
   exact ⟨fun f e=>by cases e;exact ⟨⟨by rw [← p1];exact hp.w0,by rw [← p1];exact hp.w1,by rw [← p1];exact hp.w8,by rw [← p2];exact hp.h0,by rw [← p2];exact hp.h1,by rw [← p2];exact hp.h8,by rw [← p1,← p2];exact hp.len,hp.sam⟩,rfl,rfl⟩,fun e he=>(by cases he)⟩
  rw [if_neg h3]
  have hk:decide (c.kind=1)=false→SamOk prev.pix:=fun hk=>by
   have h12:c.kind=2:=by
    rw [decide_eq_false_iff_not] at hk
    have:=readB_kind hr
    omega
   exact (hmt (.inl h12)).1.sam
  obtain ⟨x,y⟩:=squaresGo_ok (decide (c.kind=1)) hk (c.data.getD 0 0) (w*h / 64).toNat 0 hF (modNew_ok (fun z hz=>hd z (List.mem_of_mem_drop hz))) (by
   have:0≤w*h:=Int.mul_nonneg (by have:=hF.w0;exact Int.le_trans (by omega) this) (by have:=hF.h0;exact Int.le_trans (by omega) this)
   show ((0:Nat):Int)+((w*h / 64).toNat:Int)≤w*h / 64
   omega)
  exact ⟨x,fun e he=>by obtain ⟨a,b⟩:=y e he;exact ⟨by omega,.inl a⟩⟩
end Go.Proofs.YtmdobcffijnaoaaGreatDoor
