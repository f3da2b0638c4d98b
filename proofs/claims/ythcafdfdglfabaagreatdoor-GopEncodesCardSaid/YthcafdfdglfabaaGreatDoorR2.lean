/- Joined texts: DRow2, DCod, DRk13, DRkN, DRkO, DRkC. Conditions: each part names its own. -/
import Derived.Test.YthcafdfdglfabaaGreatDoorK2
import Derived.Deep.DeepCutAuto
namespace Go.Proofs.YthcafdfdglfabaaGreatDoor
open Tryz
open Go.RowKit
set_option linter.unusedVariables false
set_option linter.unusedSimpArgs false
set_option maxRecDepth 100000
set_option maxHeartbeats 16000000
theorem aJ {w:World} {g:Nat} {a b x y:Value} {t:TypeId} (h:w.heap[g]?=some (.cells #[a,b] t)) :
  ((w.setCell ⟨g,0,none⟩ x).setCell ⟨g,1,none⟩ y).heap[g]?=some (.cells #[x,y] t)/\ae [g] w ((w.setCell ⟨g,0,none⟩ x).setCell ⟨g,1,none⟩ y):=by
 have h1:=WG w g 0 _ _ x h;have D:=WG _ g 1 _ _ y h1;exact ⟨D,((AY).setCell Qb _).setCell Qb _⟩
theorem aA {P:Program} {J:Func} {p q:Tmp} {ty:TypeId} (h:J.results=#[.tmp q,.cell p ty]) (D:Array Value) (w:World) (g:Nat) (t:TypeId) (E:Array Value) (fr:Nat×Nat) (d:TypeDesc) (v:Value)
  (hp:D.getD p undef=.pointer g) (hq:D.getD q undef=v) (M:w.heap[g]?=some (.cells E t fr))
  (hu:P.underlying ty=some d) (L:(match d with | .struct _ | .array _ _=>true | _=>false)=true) (hi:(P.info? ty).map (·.size)=some E.size) :
  (results J D).run P w=.ok (.tuple #[v,.agg E]) w:=by
 have F:D[p]?.getD undef=.pointer g:=Qw;have I:D[q]?.getD undef=v:=Qx;simp [results,h,F,I,asAddr,run_loadVar_row w g t ty E fr d M hu L hi]
theorem aG (D:Array Value) (h:D.size=2):(prog.info? 39).map (·.size)=some D.size:=by rw [h];kernel_rfl
structure lX (σ:Type) where
 bit:Nat->Bool->σ->Bool×σ
 flat:Bool->σ->Bool×σ
section
variable {σ:Type} (C:lX σ)
def aW (f:Nat->Nat) (v:Int):Nat->Nat->σ->Nat×σ
 | 0,n,s=>(n,s)
 | k+1,n,s=>if (C.bit (f n) (decide ((n:Int)<v)) s).1 then aW f v k (n+1) (C.bit (f n) (decide ((n:Int)<v)) s).2 else (n,(C.bit (f n) (decide ((n:Int)<v)) s).2)
def lT (v:Int) (s:σ):Nat×σ:=aW C (fun n=>min n 63) v 3 0 s
def lB (m:Int) (s:σ):Nat×σ :=
 if (C.bit 3 (decide (1<m)) s).1 then (if (C.bit 5 (decide (m % 2=1)) (C.bit 3 (decide (1<m)) s).2).1 then 3 else 2,(C.bit 5 (decide (m % 2=1)) (C.bit 3 (decide (1<m)) s).2).2)
 else (if (C.bit 4 (decide (m % 2=1)) (C.bit 3 (decide (1<m)) s).2).1 then 1 else 0,(C.bit 4 (decide (m % 2=1)) (C.bit 3 (decide (1<m)) s).2).2)
def bO (v:Int) (s:σ):Nat×σ:=lB C (min (max v 0) 3) s
def ie (v:Int) (b:Bool) (s:σ):Int×σ:=(dW b (aW C (fun n=>7+min n 6) (max v (-v)-1) 14 0 s).1,(aW C (fun n=>7+min n 6) (max v (-v)-1) 14 0 s).2)
def ib (v:Int) (s:σ):Int×σ :=
 if (C.bit 6 (decide (v≠0)) s).1 then ie C v (C.flat (decide (v<0)) (C.bit 6 (decide (v≠0)) s).2).1 (C.flat (decide (v<0)) (C.bit 6 (decide (v≠0)) s).2).2 else (0,(C.bit 6 (decide (v≠0)) s).2)
def bT (v:Int) (s:σ):Int×σ:=ib C (min (max v (-15)) 15) s
def bF (u:Int):Nat->Nat->σ->Nat×σ
 | 0,n,s=>(n,s)
 | k+1,n,s=>if (C.flat (decide ((2:Int) ^ (n+1)<=u)) s).1 then bF u k (n+1) (C.flat (decide ((2:Int) ^ (n+1)<=u)) s).2 else (n,(C.flat (decide ((2:Int) ^ (n+1)<=u)) s).2)
def cB (u:Int):Nat->Nat->σ->Nat×σ
 | 0,n,s=>(n,s)
 | k+1,n,s=>cB u k (if (C.flat (decide (u / (2:Int) ^ k % 2=1)) s).1 then 2*n+1 else 2*n) (C.flat (decide (u / (2:Int) ^ k % 2=1)) s).2
def cH (u:Int) (s:σ):Nat×σ:=cB C u (bF C u 13 0 s).1 1 (bF C u 13 0 s).2
def dz (base:Nat) (v:Int) (s:σ):Nat×σ :=
 if (aW C (fun n=>base+17+min n 7) v 14 0 s).1=14 then (13+(cH C (v-13) (aW C (fun n=>base+17+min n 7) v 14 0 s).2).1,(cH C (v-13) (aW C (fun n=>base+17+min n 7) v 14 0 s).2).2)
 else aW C (fun n=>base+17+min n 7) v 14 0 s
def aV (base:Nat) (v:Int) (s:σ):Int×σ:=(dW (C.flat (decide (v<0)) s).1 (dz C base (max v (-v)-1) (C.flat (decide (v<0)) s).2).1,(dz C base (max v (-v)-1) (C.flat (decide (v<0)) s).2).2)
def bR (l:List Int) (o:List Nat):Bool:=o.all fun a=>l.getD a 0 == 0
def aH (base last:Nat) (l:List Int):List Nat->Nat->List Int->σ->Except l4 (List Int)×σ
 | [],i,out,m=>(.ok out,m)
 | a :: rest,i,out,m =>
  if i<last then
   if (C.bit (base+1+min i 7) (decide (l.getD a 0≠0)) m).1 then
    if (aV C base (l.getD a 0) (C.bit (base+1+min i 7) (decide (l.getD a 0≠0)) m).2).1 < -16320\/16320<(aV C base (l.getD a 0) (C.bit (base+1+min i 7) (decide (l.getD a 0≠0)) m).2).1 then (.error ⟨[(kP,(i:Int))],3⟩,(aV C base (l.getD a 0) (C.bit (base+1+min i 7) (decide (l.getD a 0≠0)) m).2).2)
    else if (C.bit (base+9+min i 7) (bR l rest) (aV C base (l.getD a 0) (C.bit (base+1+min i 7) (decide (l.getD a 0≠0)) m).2).2).1 then (.ok (out.set a (aV C base (l.getD a 0) (C.bit (base+1+min i 7) (decide (l.getD a 0≠0)) m).2).1),(C.bit (base+9+min i 7) (bR l rest) (aV C base (l.getD a 0) (C.bit (base+1+min i 7) (decide (l.getD a 0≠0)) m).2).2).2)
    else aH base last l rest (i+1) (out.set a (aV C base (l.getD a 0) (C.bit (base+1+min i 7) (decide (l.getD a 0≠0)) m).2).1) (C.bit (base+9+min i 7) (bR l rest) (aV C base (l.getD a 0) (C.bit (base+1+min i 7) (decide (l.getD a 0≠0)) m).2).2).2
   else aH base last l rest (i+1) out (C.bit (base+1+min i 7) (decide (l.getD a 0≠0)) m).2
  else
   if (aV C base (l.getD a 0) m).1 < -16320\/16320<(aV C base (l.getD a 0) m).1 then (.error ⟨[(kP,(i:Int))],3⟩,(aV C base (l.getD a 0) m).2)
   else aH base last l rest (i+1) (out.set a (aV C base (l.getD a 0) m).1) (aV C base (l.getD a 0) m).2
def cN (l:List Int):Bool:=l.all (· == 0)
def aR (side:Nat) (l:List Int) (m:σ):Except l4 (List Int)×σ :=
 if (C.bit (jB side) (!cN l) m).1 then aH C (jB side) (side*side-1) l (aD side) 0 (List.replicate (side*side) 0) (C.bit (jB side) (!cN l) m).2
 else (.ok (List.replicate (side*side) 0),(C.bit (jB side) (!cN l) m).2)
def bq (qm:List Int) (ql:List (List Int)):Nat->List Int->List (List Int)->σ->Except l4 (List Int×List (List Int))×σ
 | 0,ms,ls,m=>(.ok (ms,ls),m)
 | k+1,ms,ls,m =>
  match (aR C 4 (ql.getD ls.length []) (bO C (qm.getD ms.length 0) m).2).1 with
  | .error e=>(.error e,(aR C 4 (ql.getD ls.length []) (bO C (qm.getD ms.length 0) m).2).2)
  | .ok l=>bq qm ql k (ms ++ [((bO C (qm.getD ms.length 0) m).1:Int)]) (ls ++ [l]) (aR C 4 (ql.getD ls.length []) (bO C (qm.getD ms.length 0) m).2).2
structure rN where
 kind:Int
 mode:Int
 modes:List Int
 vx:Int
 vy:Int
 large:List Int
 small:List (List Int)
def bL (key:Bool) (k:Int) (m:σ):Nat×σ:=if key then (if (C.flat (decide (k=3)) m).1 then 3 else 2,(C.flat (decide (k=3)) m).2) else lT C k m
def cz (q:rN) (k:Nat) (m:σ):Except l4 j4×σ :=
 if k=3 then
  match (bq C q.modes q.small 4 [] [] m).1 with
  | .error e=>(.error e,(bq C q.modes q.small 4 [] [] m).2)
  | .ok x=>(.ok ⟨3,0,x.1,0,0,[],x.2⟩,(bq C q.modes q.small 4 [] [] m).2)
 else if k=0 then (.ok r6,m)
 else if k=1 then
  match (aR C 8 q.large (bT C q.vy (bT C q.vx m).2).2).1 with
  | .error e=>(.error e,(aR C 8 q.large (bT C q.vy (bT C q.vx m).2).2).2)
  | .ok l=>(.ok ⟨1,0,[0,0,0,0],(bT C q.vx m).1,(bT C q.vy (bT C q.vx m).2).1,l,[[],[],[],[]]⟩,(aR C 8 q.large (bT C q.vy (bT C q.vx m).2).2).2)
 else
  match (aR C 8 q.large (bO C q.mode m).2).1 with
  | .error e=>(.error e,(aR C 8 q.large (bO C q.mode m).2).2)
  | .ok l=>(.ok ⟨2,(bO C q.mode m).1,[0,0,0,0],0,0,l,[[],[],[],[]]⟩,(aR C 8 q.large (bO C q.mode m).2).2)
def dE (key:Bool) (q:rN) (m:σ):Except l4 j4×σ :=
 match (cz C q (bL C key q.kind m).1 (bL C key q.kind m).2).1 with
 | .error e=>(.error (C6 nR (bL C key q.kind m).1 e),(cz C q (bL C key q.kind m).1 (bL C key q.kind m).2).2)
 | .ok s=>(.ok s,(cz C q (bL C key q.kind m).1 (bL C key q.kind m).2).2)
end
def j5:lX j7:=⟨fun c _ m=>dV c m,fun _ m=>gO m⟩
theorem pQ (f:Nat->Nat) (v:Int):∀ (k n:Nat) (m:j7),aW j5 f v k n m=pP f k n m
 | 0,n,m=>rfl
 | k+1,n,m=>by
  show (if (dV (f n) m).1 then aW j5 f v k (n+1) (dV (f n) m).2 else _)=_;rw [pQ f v k]
  rfl
theorem vU (u:Int):∀ (k n:Nat) (m:j7),bF j5 u k n m=xM k n m
 | 0,n,m=>rfl
 | k+1,n,m=>by
  show (if (gO m).1 then bF j5 u k (n+1) (gO m).2 else _)=_;rw [vU u k]
  rfl
theorem yN (u:Int):∀ (k n:Nat) (m:j7),cB j5 u k n m=IQ k n m
 | 0,n,m=>rfl
 | k+1,n,m=>yN u k _ _
theorem JR (v:Int) (m:j7):lT j5 v m=Nl m:=pQ _ _ _ _ _
theorem Ar (v:Int) (m:j7):bO j5 v m=pM m:=rfl
theorem Kr (v:Int) (m:j7):bT j5 v m=mP m:=by
 unfold bT ib ie mP;rw [pQ]
 rfl
theorem Gn (u:Int) (m:j7):cH j5 u m=xS m:=by
 unfold cH xS;rw [vU,yN]
theorem LI (base:Nat) (v:Int) (m:j7):dz j5 base v m=Fu base m:=by
 unfold dz Fu;rw [pQ,Gn]
theorem GP (base:Nat) (v:Int) (m:j7):aV j5 base v m=gJ base m:=by
 unfold aV gJ;rw [LI]
 rfl
theorem sH (base last:Nat) (l:List Int):∀ (o:List Nat) (i:Nat) (out:List Int) (m:j7),aH j5 base last l o i out m=qI base last o i out m
 | [],i,out,m=>rfl
 | a :: rest,i,out,m=>by
  unfold aH qI;simp only [GP,sH base last l rest]
  rfl
theorem zj (side:Nat) (l:List Int) (m:j7):aR j5 side l m=mE side m:=by
 unfold aR mE;rw [sH]
 rfl
theorem rI (F:List Int) (E:List (List Int)):∀ (k:Nat) (ms:List Int) (D:List (List Int)) (m:j7),bq j5 F E k ms D m=nV k ms D m
 | 0,ms,D,m=>rfl
 | k+1,ms,D,m=>by
  unfold bq nV;simp only [zj,Ar,rI F E k]
  rfl
theorem Gz (key:Bool) (k:Int) (m:j7):bL j5 key k m=pK key m:=by
 unfold bL pK;rw [JR]
 rfl
theorem Hy (q:rN) (k:Nat) (m:j7):cz j5 q k m=ub k m:=by
 unfold cz ub;simp only [rI,zj,Ar,Kr]
 rfl
theorem DW (key:Bool) (q:rN) (m:j7):dE j5 key q m=lJ key m:=by
 unfold dE lJ;simp only [Gz,Hy]
 rfl
def nE (rd:Bool) (e d:Value) (p:List Int):List Value:=.bool rd :: e :: d :: p.map (Value.int .i64)
abbrev iG (R:Nat) (w:World) (rd:Bool) (e d:Value) (p:List Int):Prop:=w.heap[R]?=some (.cells (nE rd e d p).toArray 102)
theorem iG.cells {R:Nat} {w:World} {D:Bool} {e d:Value} {p:List Int} (h:iG R w D e d p):w.cell? ⟨R,0,none⟩=some (.bool D)/\w.cell? ⟨R,1,none⟩=some e/\w.cell? ⟨R,2,none⟩=some d:=by
 refine ⟨?_,?_,?_⟩ <;> (rw [RG h];rfl)
theorem iG.at {R:Nat} {w:World} {F:Bool} {e d:Value} {p:List Int} (h:iG R w F e d p) {c:Nat} (D:c<p.length) {k:Nat} (E:k=3+c):w.cell? ⟨R,k,none⟩=some (.int .i64 (p.getD c 0)):=by
 subst E;rw [RG h];unfold nE;rw [C4,show 3+c=c+1+1+1 by omega];simp [D]
theorem iG.set {R:Nat} {w:World} {D:Bool} {e d:Value} {p:List Int} (h:iG R w D e d p) {c:Nat} {k:Nat} (E:k=3+c) (x:Int) :
  iG R (w.setCell ⟨R,k,none⟩ (.int .i64 x)) D e d (p.set c x)/\ae [R] w (w.setCell ⟨R,k,none⟩ (.int .i64 x)):=by
 subst E;refine ⟨?_,(AY).setCell Qb _⟩;have hr:=WG w R (3+c) _ _ (.int .i64 x) h;rw [iG,hr]
 congr 2
 rw [Pf,show 3+c=c+1+1+1 by omega];simp [nE,List.map_set]
theorem iG.only {R:Nat} {w w':World} {D:Bool} {e d:Value} {p:List Int} {S:List Nat} (h:iG R w D e d p) (o:ae S w w') (E:R∉S):iG R w' D e d p:=o.rowAt h E
theorem Dh {R:Nat} {w:World} {I:Bool} {e d:Value} {p:List Int} (h:iG R w I e d p) (V:p.length=64) :
  Calls prog 89 #[.pointer R] w fun en w'=>en=.returned (.pointer R)/\iG R w' I e d (List.replicate 64 1024)/\ae [R] w w':=by
 have Z:=lh h;have Hp:=lh V;clear h V;go_enter func89,ntmps89;go_wp2_with fail;go_loopw [3] (fun i wr=>∃ (k:Nat) (q:List Int),k<=64/\i=.int .i64 k/\Hid (iG R wr I e d q)/\Hid (q.length=64)/\Hid (∀ j,j<k->q.getD j 0=1024)/\Hid (ae [R] w wr)) (fun i _=>64-(intOf i).toNat)
 case atStart=>exact ⟨0,p,Qa,rfl,Z,Hp,lh (fun j F=>absurd F Qa),lh (AY)⟩
 case round =>
  obtain ⟨k,q,hk,rfl,E,D,M,J⟩:=hrel;by_cases N:k<64
  ·have Rt:(k:Int)<64:=Qa
   have RA:(0:Int)<=(k:Int):=Qa;have c0:=E.out.at (c:=k) (bC D N) rfl;have f0:=Sz wr R (3+k) _ _ E.out;have L:=lh (fun (j:Nat) (F:j=3+k)=>E.out.set (c:=k) F 1024);have Sj:=lh N;go_wp2_with fail;refine ⟨⟨k+1,q.set k 1024,Qa,Qh,lh (L.out _ Qa).1,lh (by rw [PF];exact D.out),lh (fun j F=>?_),lh (J.out.trans (L.out _ Qa).2 (fun g h _=>h) (fun g h _=>h))⟩,Qf⟩;rw [Pd];by_cases O:j=k
   ·subst O;rw [PT (by rw [D.out];exact Sj.out)];rfl
   ·rw [PS (Ne.symm O),<- Pd];exact M.out j Qa
  ·obtain rfl:k=64:=Qa
   have Rt:¬ ((64:Nat):Int)<64:=Qa;have Y:q=List.replicate 64 1024:=by
    refine List.ext_getElem (by rw [D.out,PE]) (fun j h1 h2=>?_);have:=M.out j (j0 D.out);rw [Pd,Pe h1] at this;rw [List.getElem_replicate];exact this
   rw [Y] at E;clear Y;go_wp2_with fail;go_ret;exact ⟨rfl,E.out,J.out⟩
section
variable {lo hi R D:Nat} {bv:Value} {w w':World} {m:j7} {S:List Nat}
end
def bA (F:List Nat) (w:World) (F':List Nat) (w':World):Prop:=ae F w w'/\∀ g∈F',g∈F\/w.heap.size<=g
theorem bA.refl (F:List Nat) (w:World):bA F w F w:=⟨AY,fun g h=>.inl h⟩
theorem bA.trans {F E I:List Nat} {w w1 J:World} (h:bA F w E w1) (k:bA E w1 I J):bA F w I J :=
 ⟨h.1.trans k.1 (fun g h _=>h) (fun g D L=>(h.2 g D).resolve_right Qa),fun g D=>(k.2 g D).elim (fun a=>h.2 g a) (fun a=>.inr (Pw h.1.size a))⟩
theorem bA.q {F D:List Nat} {w w1 E:World} (h:bA F w D w1) (k:ae [] w1 E):bA F w D E:=⟨h.1.trans k (fun g h _=>h) Qb,h.2⟩
theorem bA.ahead {F D:List Nat} {w w1 E:World} (k:ae [] w w1) (h:bA F w1 D E):bA F w D E:=⟨k.trans h.1 Qb (fun g h _=>h),fun g I=>(h.2 g I).imp_right (fun a=>Pw k.size a)⟩
structure KC (R:Nat) where
 σ:Type
 C:lX σ
 reads:Bool
 base:Nat
 At:List Nat->World->σ->Prop
 Ok:Nat->σ->Prop
 ok_le:∀ {n k:Nat} {s:σ},Ok n s->n<=k->Ok k s
 ok_bit:∀ {n:Nat} {s:σ} (c:Nat) (b:Bool),Ok n s->c<64->Ok (n+2) (C.bit c b s).2
 ok_flat:∀ {n:Nat} {s:σ} (b:Bool),Ok n s->Ok (n+2) (C.flat b s).2
 only:∀ {F S:List Nat} {w w':World} {s:σ},At F w s->ae S w w'->(∀ g∈S,base<=g/\g∉F)->At F w' s
 lt:∀ {F:List Nat} {w:World} {s:σ},At F w s->∀ g∈F,g<w.heap.size
 base_le:∀ {F:List Nat} {w:World} {s:σ},At F w s->base<=w.heap.size
 cell:∀ {F:List Nat} {w:World} {s:σ},At F w s->w.cell? ⟨R,0,none⟩=some (.bool reads)
 bit:∀ {F:List Nat} {w:World} {s:σ} {n:Nat} (c:Nat) (b:Bool),At F w s->Ok n s->n<=900000000->c<64 ->
  Calls prog 163 #[.pointer R,c,.bool b] w fun e w'=>e=.returned (.bool (C.bit c b s).1)/\∃ F',At F' w' (C.bit c b s).2/\bA F w F' w'
 flat:∀ {F:List Nat} {w:World} {s:σ} {n:Nat} (b:Bool),At F w s->Ok n s->n<=900000000 ->
  Calls prog 162 #[.pointer R,.bool b] w fun e w'=>e=.returned (.bool (C.flat b s).1)/\∃ F',At F' w' (C.flat b s).2/\bA F w F' w'
theorem KC.quiet {R:Nat} (X:KC R) {F:List Nat} {w w':World} {s:X.σ} (h:X.At F w s) (o:ae [] w w'):X.At F w' s:=X.only h o Qb
section
variable {R:Nat} (X:KC R)
def IK (F:List Nat) (w:World) (r:Int×X.σ) (e:Ending) (w':World):Prop:=e=.returned (.int .i64 r.1)/\∃ F',X.At F' w' r.2/\bA F w F' w'
theorem bG (a b:Int):(a != b)=decide (a≠b):=by by_cases h:a=b <;> simp [h]
theorem aX (a b:Int):(a == b)=decide (a=b):=by by_cases h:a=b <;> simp [h]
theorem Ay {f:Nat->Nat} (D:∀ i,f i<64) (v:Int):∀ (k i:Nat) {n:Nat} {s:X.σ},X.Ok n s->X.Ok (n+2*k) (aW X.C f v k i s).2/\i<=(aW X.C f v k i s).1/\(aW X.C f v k i s).1<=i+k
 | 0,i,n,s,h=>⟨h,Pm _,Pm _⟩
 | k+1,i,n,s,h=>by
  have a:=X.ok_bit (f i) (decide ((i:Int)<v)) h (D i);unfold aW
  split
  ·obtain ⟨x,y,z⟩:=Ay D v k (i+1) a
   exact ⟨X.ok_le x Qa,Qa,Qa⟩
  ·exact ⟨X.ok_le a Qa,Qb,Qb⟩
theorem vT (u:Int):∀ (k i:Nat) {n:Nat} {s:X.σ},X.Ok n s->X.Ok (n+2*k) (bF X.C u k i s).2/\i<=(bF X.C u k i s).1/\(bF X.C u k i s).1<=i+k
 | 0,i,n,s,h=>⟨h,Pm _,Pm _⟩
 | k+1,i,n,s,h=>by
  have a:=X.ok_flat (decide ((2:Int) ^ (i+1)<=u)) h;unfold bF
  split
  ·obtain ⟨x,y,z⟩:=vT u k (i+1) a
   exact ⟨X.ok_le x Qa,Qa,Qa⟩
  ·exact ⟨X.ok_le a Qa,Qb,Qb⟩
theorem iJ (u:Int):∀ (k i:Nat) {n:Nat} {s:X.σ},X.Ok n s->X.Ok (n+2*k) (cB X.C u k i s).2/\i*2 ^ k<=(cB X.C u k i s).1/\(cB X.C u k i s).1<(i+1)*2 ^ k
 | 0,i,n,s,h=>⟨h,by simp [cB],by simp [cB]⟩
 | k+1,i,n,s,h=>by
  have a:=X.ok_flat (decide (u / (2:Int) ^ k % 2=1)) h;unfold cB;obtain ⟨x,y,z⟩:=iJ u k (if (X.C.flat (decide (u / (2:Int) ^ k % 2=1)) s).1 then 2*i+1 else 2*i) a;refine ⟨X.ok_le x Qa,?_,?_⟩
  ·refine Pw ?_ y
   rw [Nat.pow_succ]
   split <;> (generalize 2 ^ k=q;simp only [Nat.mul_comm,Nat.mul_left_comm,Nat.add_mul,Nat.mul_add];omega)
  ·refine PH z ?_
   rw [Nat.pow_succ]
   split <;> (generalize 2 ^ k=q;simp only [Nat.mul_comm,Nat.mul_left_comm,Nat.add_mul,Nat.mul_add];omega)
theorem Dq {C:lX X.σ} {f:Nat->Nat} {v:Int} {k n:Nat} {s:X.σ} (h:(C.bit (f n) (decide ((n:Int)<v)) s).1=true):aW C f v (k+1) n s=aW C f v k (n+1) (C.bit (f n) (decide ((n:Int)<v)) s).2:=if_pos h
theorem oQ {C:lX X.σ} {f:Nat->Nat} {v:Int} {k n:Nat} {s:X.σ} (h:(C.bit (f n) (decide ((n:Int)<v)) s).1=false):aW C f v (k+1) n s=(n,(C.bit (f n) (decide ((n:Int)<v)) s).2):=if_neg (by rw [h];simp)
theorem zE {C:lX X.σ} {u:Int} {k n:Nat} {s:X.σ} (h:(C.flat (decide ((2:Int) ^ (n+1)<=u)) s).1=true):bF C u (k+1) n s=bF C u k (n+1) (C.flat (decide ((2:Int) ^ (n+1)<=u)) s).2:=if_pos h
theorem zF {C:lX X.σ} {u:Int} {k n:Nat} {s:X.σ} (h:(C.flat (decide ((2:Int) ^ (n+1)<=u)) s).1=false):bF C u (k+1) n s=(n,(C.flat (decide ((2:Int) ^ (n+1)<=u)) s).2):=if_neg (by rw [h];simp)
theorem DF {p:Prop} (h:p:=by
 refine (HB.out _ ?_ _ ?_).mono ?_
 ·first | rfl | exact bG _ _ | exact aX _ _ | (simp;done) | (simp;omega)
 ·first | rfl | omega
 rintro e w2 ⟨rfl,F2,RM,Rj⟩;have Tw:=lh RM;have Ug:=lh (Hg.out.trans Rj);clear RM Rj HB;go_wp2_with fail;exact ⟨⟨c+1,F2,_,by have:=Sj.out;omega,Qh,Tw,Ug,lh (by rw [Hn3.out.2,Sm.out];exact (Dq X Hb.out).symm),lh (X.ok_le WW.out Qa)⟩,by simp [intOf];have:=Sj.out;omega⟩):p:=h
theorem Gi {F:List Nat} {w:World} {s:X.σ} {n:Nat} (h:X.At F w s) (v:Int) (ok:X.Ok n s) (hn:n<=800000000) :
  Calls prog 161 #[.pointer R,v] w (IK X F w (((lT X.C v s).1:Int),(lT X.C v s).2)):=by
 refine aK fun Q V=>?_
 have HK:=lh h;have QX:=lh ok;clear h ok;go_enter func161,ntmps161;go_wp2_with fail;go_loopw [5] (fun i wr=>∃ (c:Nat) (Fc:List Nat) (E:X.σ),c<=3/\i=.int .i64 c/\Hid (X.At Fc wr E)/\Hid (bA F w Fc wr)/\Hid (aW X.C (fun n=>min n 63) v (3-c) c E=aW X.C (fun n=>min n 63) v 3 0 s)/\Hid (X.Ok (n+2*c) E)) (fun i _=>3-(intOf i).toNat)
 case atStart=>exact ⟨0,_,_,Qa,rfl,HK,lh (bA.refl _ _),lh rfl,QX⟩
 case round =>
  obtain ⟨c,Fc,E,hc,rfl,N,Hg,M,O⟩:=hrel;by_cases QH:c<3
  ·have Tl:(c:Int)<3:=Qa
   have TM:(0:Int)<=(c:Int):=Qa;have J:(fun n=>min n 63) c<64:=by show min c 63<64;omega
   have HB:=lh (fun (b:Bool) (D:b=decide ((c:Int)<v)) (y:Int) (hy:y=((min c 63:Nat):Int))=>(by subst D;subst hy;exact X.bit ((fun n=>min n 63) c) _ N.out O.out Qa J:Calls prog 163 #[.pointer R,y,.bool b] wr _));have WW:=lh (X.ok_bit ((fun n=>min n 63) c) (decide ((c:Int)<v)) O.out J);obtain ⟨I,Y⟩:∃ I,3-c=I+1:=⟨3-c-1,Qa⟩
   have Z:3-(c+1)=I:=Qa;have Hn3:=lh (VL Y Z);have Sj:=lh QH;clear Y Z J;have Sm:Hid (aW X.C (fun n=>min n 63) v 3 0 s=aW X.C (fun n=>min n 63) v (I+1) c E):=lh (by rw [<- Hn3.out.1,M.out]);cases D:(X.C.bit ((fun n=>min n 63) c) (decide ((c:Int)<v)) E).1 with
   | true =>
    rw [D] at HB;have Hb:=lh D;clear D;go_wp2_with fail;exact DF
   | false =>
    rw [D] at HB;have Hb:=lh D;clear D;go_wp2_with fail;refine (HB.out _ ?_ _ ?_).mono ?_
    ·first | rfl | exact bG _ _ | exact aX _ _ | (simp;done) | (simp;omega)
    ·first | rfl | omega
    rintro e w2 ⟨rfl,F2,RM,Rj⟩;have Tw:=lh RM;have Ug:=lh (Hg.out.trans Rj);clear RM Rj HB;have L:Hid (aW X.C (fun n=>min n 63) v 3 0 s=(c,(X.C.bit ((fun n=>min n 63) c) (decide ((c:Int)<v)) E).2)):=Sm.out.trans (oQ X Hb.out);go_wp2_with fail;refine V.out _ _ ?_;unfold lT;rw [L.out];exact ⟨rfl,F2,Tw.out,Ug.out⟩
  ·obtain rfl:c=3:=Qa
   have Tl:¬ ((3:Nat):Int)<3:=Qa;have L:Hid (aW X.C (fun n=>min n 63) v 3 0 s=(3,E)):=M.out.symm.trans rfl;go_wp2_with fail;refine V.out _ _ ?_;unfold lT;rw [L.out];exact ⟨rfl,Fc,N.out,Hg.out⟩
theorem yx {p:Prop} (h:p:=by
 go_wp2_with fail;refine (TR.out _ _ HK.out _ ?_).mono ?_
 ·first | rfl | exact bG _ _ | exact aX _ _ | (simp;done) | (simp [Hm2.out];done) | (simp;omega)
 rintro e w1 ⟨rfl,F1,TW,ST⟩;have Hk1:=lh TW;have Hg1:=lh (ST);clear TW ST;go_wp2_with fail;refine (Si.out _ _ Hk1.out _ ?_).mono ?_
 ·first | rfl | exact bG _ _ | exact aX _ _ | (simp;done) | (simp [Hm2.out];done) | (simp;omega)
 rintro e w2 ⟨rfl,F2,RM,Rj⟩;have Tw:=lh RM;have Ug:=lh (Hg1.out.trans Rj);clear RM Rj;go_wp2_with fail;refine QF.out _ _ ?_;rw [HM.out];exact ⟨rfl,F2,Tw.out,Ug.out⟩):p:=h
theorem Gj {F:List Nat} {w:World} {s:X.σ} {n:Nat} (h:X.At F w s) (v:Int) (ok:X.Ok n s) (hn:n<=800000000) :
  Calls prog 104 #[.pointer R,v] w (IK X F w (((bO X.C v s).1:Int),(bO X.C v s).2)):=by
 refine aK fun Q QF=>?_
 have HK:=lh h;have Y:=lh ok;clear h ok;go_enter func104,ntmps104;go_upto_region 1 with (fail)
 go_cut [1] (fun D wx=>D=.int .i64 (min (max v 0) 3)/\w=wx)
 case first =>
  go_wp2_with fail
  all_goals (go_meet;exact ⟨by congr 1;omega,rfl⟩)
 case rest =>
  obtain ⟨rfl,rfl⟩:=hcut;have V:Hid (bO X.C v s=lB X.C (min (max v 0) 3) s):=lh rfl;rw [V.out] at QF;have I:0<=min (max v 0) 3/\min (max v 0) 3<=3:=Qa;generalize min (max v 0) 3=m at *
  clear V;have N:m.tmod 2=m % 2:=PR I.1;have Hm2:=lh N;clear I;have L:=X.ok_bit 3 (decide (1<m)) Y.out Qa;have TR:=lh (fun (wx:World) (Fx:List Nat) (hx:X.At Fx wx s) (b:Bool) (E:b=decide (1<m))=>(by subst E;exact X.bit 3 _ hx Y.out Qa Qa:Calls prog 163 #[.pointer R,.int .i64 3,.bool b] wx _));have HM:Hid (lB X.C m s=if (X.C.bit 3 (decide (1<m)) s).1 then (if (X.C.bit 5 (decide (m % 2=1)) (X.C.bit 3 (decide (1<m)) s).2).1 then 3 else 2,(X.C.bit 5 (decide (m % 2=1)) (X.C.bit 3 (decide (1<m)) s).2).2) else (if (X.C.bit 4 (decide (m % 2=1)) (X.C.bit 3 (decide (1<m)) s).2).1 then 1 else 0,(X.C.bit 4 (decide (m % 2=1)) (X.C.bit 3 (decide (1<m)) s).2).2)):=lh rfl;generalize X.C.bit 3 (decide (1<m)) s=b1 at *
  obtain ⟨t1,D⟩:=b1;simp only at L TR HM;have J:=lh L;clear L;cases t1 with
  | true =>
   have M:=X.ok_bit 5 (decide (m % 2=1)) J.out Qa;have Si:=lh (fun (wx:World) (Fx:List Nat) (hx:X.At Fx wx D) (b:Bool) (E:b=decide (m % 2=1))=>(by subst E;exact X.bit 5 _ hx J.out Qa Qa:Calls prog 163 #[.pointer R,.int .i64 5,.bool b] wx _));generalize X.C.bit 5 (decide (m % 2=1)) D=b2 at *
   obtain ⟨O,Z⟩:=b2;simp only at Si HM;clear M;cases O with
   | true =>
    exact yx
   | false =>
    exact yx
  | false =>
   have M:=X.ok_bit 4 (decide (m % 2=1)) J.out Qa;have Si:=lh (fun (wx:World) (Fx:List Nat) (hx:X.At Fx wx D) (b:Bool) (E:b=decide (m % 2=1))=>(by subst E;exact X.bit 4 _ hx J.out Qa Qa:Calls prog 163 #[.pointer R,.int .i64 4,.bool b] wx _));generalize X.C.bit 4 (decide (m % 2=1)) D=b2 at *
   obtain ⟨O,Z⟩:=b2;simp only at Si HM;clear M;cases O with
   | true =>
    exact yx
   | false =>
    exact yx
theorem Gm {F:List Nat} {w:World} {s:X.σ} {n:Nat} (h:X.At F w s) (v:Int) (ok:X.Ok n s) (hn:n<=800000000) :
  Calls prog 103 #[.pointer R,v] w (IK X F w ((bT X.C v s).1,(bT X.C v s).2)):=by
 refine aK fun Q V=>?_
 have HK:=lh h;have QX:=lh ok;clear h ok;go_enter func103,ntmps103;go_upto_region 1 with (fail)
 go_cut [1] (fun s1 wx=>s1=.int .i64 (min (max v (-15)) 15)/\w=wx)
 case first =>
  go_wp2_with fail
  all_goals (go_meet;exact ⟨by congr 1;omega,rfl⟩)
 case rest =>
  obtain ⟨rfl,rfl⟩:=hcut;have HP:Hid (bT X.C v s=ib X.C (min (max v (-15)) 15) s):=lh rfl;rw [HP.out] at V;have hm0:-15<=min (max v (-15)) 15/\min (max v (-15)) 15<=15:=Qa;generalize min (max v (-15)) 15=m at *
  clear HP;have XD:=X.ok_bit 6 (decide (m≠0)) QX.out Qa;have TR:=lh (fun (wx:World) (Fx:List Nat) (hx:X.At Fx wx s) (b:Bool) (D:b=decide (m≠0))=>(by subst D;exact X.bit 6 _ hx QX.out Qa Qa:Calls prog 163 #[.pointer R,.int .i64 6,.bool b] wx _));have M:Hid (ib X.C m s=if (X.C.bit 6 (decide (m≠0)) s).1 then ie X.C m (X.C.flat (decide (m<0)) (X.C.bit 6 (decide (m≠0)) s).2).1 (X.C.flat (decide (m<0)) (X.C.bit 6 (decide (m≠0)) s).2).2 else (0,(X.C.bit 6 (decide (m≠0)) s).2)):=lh rfl;generalize X.C.bit 6 (decide (m≠0)) s=b1 at *
  obtain ⟨t1,s1⟩:=b1;simp only at XD TR M;have WY:=lh XD;clear XD;cases t1 with
  | false =>
   go_wp2_with fail;refine (TR.out _ _ HK.out _ ?_).mono ?_
   ·first | rfl | exact bG _ _ | exact aX _ _ | (simp;done) | (simp;omega)
   rintro e w1 ⟨rfl,F1,Z,ST⟩;have O:=lh Z;have N:=lh (ST);clear Z ST;go_wp2_with fail;refine V.out _ _ ?_;rw [M.out];exact ⟨rfl,F1,O.out,N.out⟩
  | true =>
   have XE:=X.ok_flat (decide (m<0)) WY.out;have Si:=lh (fun (wx:World) (Fx:List Nat) (hx:X.At Fx wx s1) (b:Bool) (D:b=decide (m<0))=>(by subst D;exact X.flat _ hx WY.out Qa:Calls prog 162 #[.pointer R,.bool b] wx _));generalize X.C.flat (decide (m<0)) s1=b2 at *
   obtain ⟨L,J⟩:=b2;simp only at XE Si M;have Ok2:=lh XE;clear XE;go_wp2_with fail;refine (TR.out _ _ HK.out _ ?_).mono ?_
   ·first | rfl | exact bG _ _ | exact aX _ _ | (simp;done) | (simp;omega)
   rintro e w1 ⟨rfl,F1,Z,ST⟩;have O:=lh Z;have N:=lh (ST);clear Z ST;go_wp2_with fail;refine (Si.out _ _ O.out _ ?_).mono ?_
   ·first | rfl | exact bG _ _ | exact aX _ _ | (simp;done) | (simp;omega)
   rintro e w2 ⟨rfl,F2,RM,Rj⟩;have Tw:=lh RM;have Ug:=lh (N.out.trans Rj);clear RM Rj;go_upto_region 5 with (fail)
   go_cut [6] (fun s6 wx=>s6=.int .i64 (max m (-m)-1)/\w2=wx)
   case first =>
    go_wp2_with fail
    all_goals (go_meet;exact ⟨by congr 1;omega,rfl⟩)
   case rest =>
    obtain ⟨rfl,rfl⟩:=hcut;have I:=Ug;have HV:Hid (ie X.C m L J=(dW L (aW X.C (fun n=>7+min n 6) (max m (-m)-1) 14 0 J).1,(aW X.C (fun n=>7+min n 6) (max m (-m)-1) 14 0 J).2)):=lh rfl;generalize max m (-m)-1=vv at *
    go_wp2_with fail;go_loopw [7] (fun i wr=>∃ (c:Nat) (Fc:List Nat) (E:X.σ),c<=14/\i=.int .i64 c/\Hid (X.At Fc wr E)/\Hid (bA F2 w2 Fc wr)/\Hid (aW X.C (fun n=>7+min n 6) vv (14-c) c E=aW X.C (fun n=>7+min n 6) vv 14 0 J)/\Hid (X.Ok ((n+2+2)+2*c) E)) (fun i _=>14-(intOf i).toNat)
    case atStart=>exact ⟨0,_,_,Qa,rfl,Tw,lh (bA.refl _ _),lh rfl,Ok2⟩
    case round =>
     obtain ⟨c,Fc,E,hc,rfl,Hk,Hg,He,Ho⟩:=hrel;by_cases QH:c<14
     ·have Tl:(c:Int)<14:=Qa
      have TM:(0:Int)<=(c:Int):=Qa;have Ua:(fun n=>7+min n 6) c<64:=by show 7+min c 6<64;omega
      have HB:=lh (fun (b:Bool) (D:b=decide ((c:Int)<vv)) (y:Int) (hy:y=((7+min c 6:Nat):Int))=>(by subst D;subst hy;exact X.bit ((fun n=>7+min n 6) c) _ Hk.out Ho.out Qa Ua:Calls prog 163 #[.pointer R,y,.bool b] wr _));have WW:=lh (X.ok_bit ((fun n=>7+min n 6) c) (decide ((c:Int)<vv)) Ho.out Ua);obtain ⟨k3,Ub⟩:∃ k3,14-c=k3+1:=⟨14-c-1,Qa⟩
      have Uc:14-(c+1)=k3:=Qa;have Hn3:=lh (VL Ub Uc);have Sj:=lh QH;clear Ub Uc Ua;have Sm:Hid (aW X.C (fun n=>7+min n 6) vv 14 0 J=aW X.C (fun n=>7+min n 6) vv (k3+1) c E):=lh (by rw [<- Hn3.out.1,He.out]);cases D:(X.C.bit ((fun n=>7+min n 6) c) (decide ((c:Int)<vv)) E).1 with
      | true =>
       rw [D] at HB;have Hb:=lh D;clear D;go_wp2_with fail
       all_goals
        exact DF
      | false =>
       rw [D] at HB;have Hb:=lh D;clear D;go_wp2_with fail
       all_goals
        refine (HB.out _ ?_ _ ?_).mono ?_
        ·first | rfl | exact bG _ _ | exact aX _ _ | (simp;done) | (simp;omega)
        ·first | rfl | omega
        rintro e w2 ⟨rfl,F2,RM,Rj⟩;have Tw:=lh RM;have Ug:=lh (Hg.out.trans Rj);clear RM Rj HB;have Vs:Hid (aW X.C (fun n=>7+min n 6) vv 14 0 J=(c,(X.C.bit ((fun n=>7+min n 6) c) (decide ((c:Int)<vv)) E).2)):=Sm.out.trans (oQ X Hb.out);have Y:Hid (ib X.C m s=(dW L c,(X.C.bit ((fun n=>7+min n 6) c) (decide ((c:Int)<vv)) E).2)):=lh (by rw [M.out];show ie X.C m L J=_;rw [HV.out,Vs.out]);clear M;cases L with
        | true =>
         go_wp2_with fail;refine V.out _ _ ?_;rw [Y.out];exact ⟨rfl,F2,Tw.out,(I.out.trans Ug.out)⟩
        | false =>
         go_wp2_with fail;refine V.out _ _ ?_;rw [Y.out];exact ⟨rfl,F2,Tw.out,(I.out.trans Ug.out)⟩
     ·obtain rfl:c=14:=Qa
      have Tl:¬ ((14:Nat):Int)<14:=Qa;have Vs:Hid (aW X.C (fun n=>7+min n 6) vv 14 0 J=(14,E)):=He.out.symm.trans rfl;have Y:Hid (ib X.C m s=(dW L 14,E)):=lh (by rw [M.out];show ie X.C m L J=_;rw [HV.out,Vs.out]);clear M;cases L with
      | true =>
       go_wp2_with fail;refine V.out _ _ ?_;rw [Y.out];exact ⟨rfl,Fc,Hk.out,(I.out.trans Hg.out)⟩
      | false =>
       go_wp2_with fail;refine V.out _ _ ?_;rw [Y.out];exact ⟨rfl,Fc,Hk.out,(I.out.trans Hg.out)⟩
theorem EJ {k:Nat} (h:k<=13):(2:Int) ^ k<=8192/\(0:Int)<=(2:Int) ^ k:=by
 rcases (by omega:k=0\/k=1\/k=2\/k=3\/k=4\/k=5\/k=6\/k=7\/k=8\/k=9\/k=10\/k=11\/k=12\/k=13) with rfl | rfl | rfl | rfl | rfl | rfl | rfl | rfl | rfl | rfl | rfl | rfl | rfl | rfl <;> decide
theorem KU {p:Prop} (h:p:=by
 rw [hb] at HB Hst;clear hb;go_wp2_with fail;refine (HB.out _ ?_).mono ?_
 ·(rw [bK];exact aX _ _)
 rintro e w5 ⟨rfl,F5,RM,Rj⟩;have Tw:=lh RM;have Ug:=lh (Hgd.out.trans Rj);clear RM Rj HB;go_wp2_with fail;exact ⟨⟨j,2*gn+1,F5,_,by have:=Hj.out;omega,Qh,Qh,Tw,Ug,lh (by rw [<- Hed.out,Hst.out];rfl),lh (X.ok_le WW.out (j0 Hj.out))⟩,by simp [intOf];try omega⟩):p:=h
theorem KV {p:Prop} (h:p:=by
 rw [hb] at HB Hst;clear hb;go_wp2_with fail;refine (HB.out _ ?_).mono ?_
 ·(rw [bK];exact aX _ _)
 rintro e w5 ⟨rfl,F5,RM,Rj⟩;have Tw:=lh RM;have Ug:=lh (Hgd.out.trans Rj);clear RM Rj HB;go_wp2_with fail;exact ⟨⟨j,2*gn,F5,_,by have:=Hj.out;omega,Qh,Qh,Tw,Ug,lh (by rw [<- Hed.out,Hst.out];rfl),lh (X.ok_le WW.out (j0 Hj.out))⟩,by simp [intOf];try omega⟩):p:=h
theorem KW {p:Prop} (h:p:=by
 have Jba:¬ ((0:Nat):Int)-1>=0:=Qa;have hgs:=Hgn.out;rw [Nat.pow_zero,Nat.mul_one] at hgs;have Jhm:Hid (cH X.C u s2=(gn,sd)):=HT.out.trans Hed.out.symm;go_wp2_with fail;refine QF.out _ _ ?_;rw [HS.out,Jhm.out];exact ⟨by congr 2;try simp,Fd,Hkd.out,Hgd.out⟩):p:=h
theorem wb {F:List Nat} {w:World} {s:X.σ} {n:Nat} (h:X.At F w s) {base:Nat} (hb:base<=39) (v:Int) (hv:-100000<=v/\v<=100000) (ok:X.Ok n s) (hn:n<=800000000) :
  Calls prog 166 #[.pointer R,base,v] w (IK X F w (((dz X.C base v s).1:Int),(dz X.C base v s).2)):=by
 refine aK fun Q QF=>?_
 have HK:=lh h;have QX:=lh ok;clear h ok;have hbi:(base:Int)<=39:=Qa;have WZ:(0:Int)<=(base:Int):=Qa;go_enter func166,ntmps166;go_wp2_with fail;go_loopw [7] (fun i wr=>∃ (c:Nat) (Fc:List Nat) (D:X.σ),c<=14/\i=.int .i64 c/\Hid (X.At Fc wr D)/\Hid (bA F w Fc wr)/\Hid (aW X.C (fun n=>base+17+min n 7) v (14-c) c D=aW X.C (fun n=>base+17+min n 7) v 14 0 s)/\Hid (X.Ok (n+2*c) D)) (fun i _=>14-(intOf i).toNat)
 case atStart=>exact ⟨0,_,_,Qa,rfl,HK,lh (bA.refl _ _),lh rfl,QX⟩
 case round =>
  obtain ⟨c,Fc,D,hc,rfl,Hk,Hg,He,Z⟩:=hrel;by_cases QH:c<14
  ·have Tl:(c:Int)<14:=Qa
   have TM:(0:Int)<=(c:Int):=Qa;have Ua:(fun n=>base+17+min n 7) c<64:=by show base+17+min c 7<64;omega
   have HB:=lh (fun (b:Bool) (hb:b=decide ((c:Int)<v)) (y:Int) (hy:y=((base+17+min c 7:Nat):Int))=>(by subst hb;subst hy;exact X.bit ((fun n=>base+17+min n 7) c) _ Hk.out Z.out Qa Ua:Calls prog 163 #[.pointer R,y,.bool b] wr _));have WW:=lh (X.ok_bit ((fun n=>base+17+min n 7) c) (decide ((c:Int)<v)) Z.out Ua);obtain ⟨Y,Ub⟩:∃ Y,14-c=Y+1:=⟨14-c-1,Qa⟩
   have Uc:14-(c+1)=Y:=Qa;have Hn3:=lh (VL Ub Uc);have Sj:=lh QH;clear Ub Uc Ua;have Sm:Hid (aW X.C (fun n=>base+17+min n 7) v 14 0 s=aW X.C (fun n=>base+17+min n 7) v (Y+1) c D):=lh (by rw [<- Hn3.out.1,He.out]);cases hb:(X.C.bit ((fun n=>base+17+min n 7) c) (decide ((c:Int)<v)) D).1 with
   | true =>
    rw [hb] at HB;have Hb:=lh hb;clear hb;go_wp2_with fail
    all_goals
     exact DF
   | false =>
    rw [hb] at HB;have Hb:=lh hb;clear hb;go_wp2_with fail
    all_goals
     refine (HB.out _ ?_ _ ?_).mono ?_
     ·first | rfl | exact bG _ _ | exact aX _ _ | (simp;done) | (simp;omega)
     ·first | rfl | omega
     rintro e w2 ⟨rfl,F2,RM,Rj⟩;have Tw:=lh RM;have Ug:=lh (Hg.out.trans Rj);clear RM Rj HB;have N:Hid (aW X.C (fun n=>base+17+min n 7) v 14 0 s=(c,(X.C.bit ((fun n=>base+17+min n 7) c) (decide ((c:Int)<v)) D).2)):=Sm.out.trans (oQ X Hb.out);have JhL:¬ c=14:=dT Sj
     have HR:Hid (dz X.C base v s=(c,(X.C.bit ((fun n=>base+17+min n 7) c) (decide ((c:Int)<v)) D).2)):=lh (by unfold dz;rw [N.out];exact if_neg JhL);clear JhL;go_wp2_with fail;refine QF.out _ _ ?_;rw [HR.out];exact ⟨rfl,F2,Tw.out,Ug.out⟩
  ·obtain rfl:c=14:=Qa
   have Tl:¬ ((14:Nat):Int)<14:=Qa;have N:Hid (aW X.C (fun n=>base+17+min n 7) v 14 0 s=(14,D)):=He.out.symm.trans rfl;obtain ⟨s2,Rz⟩:∃ x,x=D:=⟨_,rfl⟩
   have HS:Hid (dz X.C base v s=(13+(cH X.C (v-13) s2).1,(cH X.C (v-13) s2).2)):=lh (by unfold dz;rw [N.out,Rz];exact if_pos rfl);rw [<- Rz] at Hk;have HkA:=Hk;have HgA:=Hg;have HoA:Hid (X.Ok (n+28+2*0) s2):=lh (by rw [Rz];exact X.ok_le Z.out Qa);have hub:-100020<=v-13/\v-13<=100000:=Qa;have hu:IntKind.i64.wrap (v-13)=v-13:=Qe;clear He Z Hk Hg Rz N;generalize hug:v-13=u at *
   go_wp2_with fail;go_loopw [9] (fun i wr=>∃ (c:Nat) (Fc:List Nat) (D:X.σ),c<=13/\i=.int .i64 c/\Hid (X.At Fc wr D)/\Hid (bA F w Fc wr)/\Hid (bF X.C u (13-c) c D=bF X.C u 13 0 s2)/\Hid (X.Ok (n+28+2*c) D)) (fun i _=>13-(intOf i).toNat)
   case atStart=>exact ⟨0,_,_,Qa,rfl,HkA,HgA,lh rfl,HoA⟩
   case round =>
    obtain ⟨c,Fc,D,hc,rfl,Hk,Hg,He,Z⟩:=hrel;by_cases QH:c<13
    ·have Tl:(c:Int)<13:=Qa
     have TM:(0:Int)<=(c:Int):=Qa;have Yt:(2:Int) ^ (c+1)<=8192/\(0:Int)<=(2:Int) ^ (c+1):=EJ Qa;have Hsh:=lh Yt;clear Yt;have HB:=lh (fun (b:Bool) (hb:b=decide ((2:Int) ^ (c+1)<=u))=>(by subst hb;exact X.flat _ Hk.out Z.out Qa:Calls prog 162 #[.pointer R,.bool b] wr _));have WW:=lh (X.ok_flat (decide ((2:Int) ^ (c+1)<=u)) Z.out);obtain ⟨Y,Ub⟩:∃ Y,13-c=Y+1:=⟨13-c-1,Qa⟩
     have Uc:13-(c+1)=Y:=Qa;have Hn3:=lh (VL Ub Uc);have Sj:=lh QH;clear Ub Uc;have Sm:Hid (bF X.C u 13 0 s2=bF X.C u (Y+1) c D):=lh (by rw [<- Hn3.out.1,He.out]);cases hb:(X.C.flat (decide ((2:Int) ^ (c+1)<=u)) D).1 with
     | true =>
      rw [hb] at HB;have Hb:=lh hb;clear hb;go_wp2_with fail;refine (HB.out _ ?_).mono ?_
      ·(rw [show wrap64 ((2:Int) ^ (c+1))=(2:Int) ^ (c+1) from by unfold wrap64;have:=Hsh.out;omega])
      rintro e w3 ⟨rfl,F3,RM,Rj⟩;have Tw:=lh RM;have Ug:=lh (Hg.out.trans Rj);clear RM Rj HB;go_wp2_with fail;exact ⟨⟨c+1,F3,_,by have:=Sj.out;omega,Qh,Tw,Ug,lh (by rw [Hn3.out.2,Sm.out];exact (zE X Hb.out).symm),lh (X.ok_le WW.out Qa)⟩,by simp [intOf];have:=Sj.out;omega⟩
     | false =>
      rw [hb] at HB;have Hb:=lh hb;clear hb;go_wp2_with fail;refine (HB.out _ ?_).mono ?_
      ·(rw [show wrap64 ((2:Int) ^ (c+1))=(2:Int) ^ (c+1) from by unfold wrap64;have:=Hsh.out;omega])
      rintro e w3 ⟨rfl,F3,RM,Rj⟩;have Tw:=lh RM;have Ug:=lh (Hg.out.trans Rj);clear RM Rj HB;have N:Hid (bF X.C u 13 0 s2=(c,(X.C.flat (decide ((2:Int) ^ (c+1)<=u)) D).2)):=Sm.out.trans (zF X Hb.out);obtain ⟨I,O⟩:∃ x,x=(X.C.flat (decide ((2:Int) ^ (c+1)<=u)) D).2:=⟨_,rfl⟩
      have HkC:Hid (X.At F3 _ I):=lh (by rw [O];exact Tw.out);have J:Hid (X.Ok (n+54) I):=lh (by rw [O];exact (lh (X.ok_le WW.out Qa)).out);rw [<- O] at N;have HT:Hid (cH X.C u s2=cB X.C u c 1 I):=lh (by unfold cH;rw [N.out]);obtain ⟨z,V⟩:∃ z:Nat,z=c:=⟨_,rfl⟩
      rw [<- V] at HT;have Xg:z<=13:=Qa;have Sg:=lh (fun (j g:Nat) (D:X.σ) (hx:X.Ok 0 D->True)=>(iJ X u j g (n:=0) (s:=D)));clear Sg;have M:=iJ X u z 1 J.out;have HZb:=lh (show (cB X.C u z 1 I).1<16384 by have:=M.2.2;have h2:2 ^ z<=2 ^ 13:=Nat.pow_le_pow_right Qa Xg;omega);clear M O;go_wp2_with fail;go_loopw [10,11] (fun g i wr=>∃ (j gn:Nat) (Fc:List Nat) (D:X.σ),j<=z/\i=.int .i64 ((j:Int)-1)/\g=.int .i64 gn/\Hid (X.At Fc wr D)/\Hid (bA F w Fc wr)/\Hid (cB X.C u j gn D=cB X.C u z 1 I)/\Hid (X.Ok (n+54+2*(z-j)) D)) (fun _ i _=>(intOf i+1).toNat)
      case atStart=>exact ⟨z,1,_,I,Pm _,by first | rfl | (rw [V];go_num) | (subst V;go_num) | (subst V;rfl),rfl,HkC,Ug,lh rfl,lh (X.ok_le J.out Qa)⟩
      case round =>
       obtain ⟨j,gn,Fd,sd,hj,rfl,rfl,Hkd,Hgd,Hed,E⟩:=hrel;have YX:=(iJ X u j gn E.out).2.1;rw [Hed.out] at YX;have Hgn:=lh (PI YX HZb.out);clear YX;cases j with
       | zero =>
        exact KW
       | succ j =>
        have L:((j+1:Nat):Int)-1=(j:Int):=Qa;rw [L];have hjn:(0:Int)<=(j:Int):=Qa;have JoZ:(j:Int)<13:=Qa;have hgs:gn<8192:=by have:=Hgn.out;rw [Nat.pow_succ] at this;have h1:1<=2 ^ j:=Nat.one_le_two_pow;have:=Nat.mul_le_mul_left gn (show 2<=2 ^ j*2 by omega);omega
        have HB:=lh (fun (b:Bool) (hb:b=decide (u / (2:Int) ^ j % 2=1))=>(by subst hb;exact X.flat _ Hkd.out E.out Qa:Calls prog 162 #[.pointer R,.bool b] wr _));have WW:=lh (X.ok_flat (decide (u / (2:Int) ^ j % 2=1)) E.out);have Hst:Hid (cB X.C u (j+1) gn sd=cB X.C u j (if (X.C.flat (decide (u / (2:Int) ^ j % 2=1)) sd).1 then 2*gn+1 else 2*gn) (X.C.flat (decide (u / (2:Int) ^ j % 2=1)) sd).2):=lh rfl;have Hgs:=lh hgs;have Hj:=lh hj;clear L hj;cases hb:(X.C.flat (decide (u / (2:Int) ^ j % 2=1)) sd).1 with
        | true =>
         exact KU
        | false =>
         exact KV
    ·obtain rfl:c=13:=Qa
     have Tl:¬ ((13:Nat):Int)<13:=Qa;have N:Hid (bF X.C u 13 0 s2=(13,D)):=He.out.symm.trans rfl;obtain ⟨I,O⟩:∃ x,x=D:=⟨_,rfl⟩
     have HkC:Hid (X.At Fc _ I):=lh (by rw [O];exact Hk.out);have J:Hid (X.Ok (n+54) I):=lh (by rw [O];exact (lh (X.ok_le Z.out Qa)).out);rw [<- O] at N;have HT:Hid (cH X.C u s2=cB X.C u 13 1 I):=lh (by unfold cH;rw [N.out]);obtain ⟨z,V⟩:∃ z:Nat,z=13:=⟨_,rfl⟩
     rw [<- V] at HT;have Xg:z<=13:=Qa;have Sg:=lh (fun (j g:Nat) (D:X.σ) (hx:X.Ok 0 D->True)=>(iJ X u j g (n:=0) (s:=D)));clear Sg;have M:=iJ X u z 1 J.out;have HZb:=lh (show (cB X.C u z 1 I).1<16384 by have:=M.2.2;have h2:2 ^ z<=2 ^ 13:=Nat.pow_le_pow_right Qa Xg;omega);clear M O;go_wp2_with fail;go_loopw [10,11] (fun g i wr=>∃ (j gn:Nat) (Fc:List Nat) (D:X.σ),j<=z/\i=.int .i64 ((j:Int)-1)/\g=.int .i64 gn/\Hid (X.At Fc wr D)/\Hid (bA F w Fc wr)/\Hid (cB X.C u j gn D=cB X.C u z 1 I)/\Hid (X.Ok (n+54+2*(z-j)) D)) (fun _ i _=>(intOf i+1).toNat)
     case atStart=>exact ⟨z,1,_,I,Pm _,by first | rfl | (rw [V];go_num) | (subst V;go_num) | (subst V;rfl),rfl,HkC,Hg,lh rfl,lh (X.ok_le J.out Qa)⟩
     case round =>
      obtain ⟨j,gn,Fd,sd,hj,rfl,rfl,Hkd,Hgd,Hed,E⟩:=hrel;have YX:=(iJ X u j gn E.out).2.1;rw [Hed.out] at YX;have Hgn:=lh (PI YX HZb.out);clear YX;cases j with
      | zero =>
       exact KW
      | succ j =>
       have L:((j+1:Nat):Int)-1=(j:Int):=Qa;rw [L];have hjn:(0:Int)<=(j:Int):=Qa;have JoZ:(j:Int)<13:=Qa;have hgs:gn<8192:=by have:=Hgn.out;rw [Nat.pow_succ] at this;have h1:1<=2 ^ j:=Nat.one_le_two_pow;have:=Nat.mul_le_mul_left gn (show 2<=2 ^ j*2 by omega);omega
       have HB:=lh (fun (b:Bool) (hb:b=decide (u / (2:Int) ^ j % 2=1))=>(by subst hb;exact X.flat _ Hkd.out E.out Qa:Calls prog 162 #[.pointer R,.bool b] wr _));have WW:=lh (X.ok_flat (decide (u / (2:Int) ^ j % 2=1)) E.out);have Hst:Hid (cB X.C u (j+1) gn sd=cB X.C u j (if (X.C.flat (decide (u / (2:Int) ^ j % 2=1)) sd).1 then 2*gn+1 else 2*gn) (X.C.flat (decide (u / (2:Int) ^ j % 2=1)) sd).2):=lh rfl;have Hgs:=lh hgs;have Hj:=lh hj;clear L hj;cases hb:(X.C.flat (decide (u / (2:Int) ^ j % 2=1)) sd).1 with
       | true =>
        exact KU
       | false =>
        exact KV
end
theorem yy {p:Prop} (h:p:=by
 have Tn:=lh (fun (o:Obj)=>(show w.heap.size<=(wr.alloc o).heap.size by simp;omega));clear QS
 go_wp2_with (first
  | (at_builtin;refine au rfl (.tmp 42) (.tmp 50) _ rfl EI (HOI.out.quiet (BS)) rfl (RI.out _) rfl TU.out (Tn.out _) (fun v1 w1 QG Rc=>?_);obtain ⟨x1,SV,RZ,_⟩:=QG.ints.open;subst RZ;simp only [Pn,List.length_singleton] at QG Rc |-;have SD:=lh QG;have Sa:=lh Rc;clear QG Rc)
  | fail)
 exact ⟨⟨j+1,Qa,Qh,by rw [HPJ.out,QK.out];have:=SD.out;rw [VJ.out] at this;simpa [cY] using this,Sa.out.from_ HFI.out (Tn.out _),(UM.out.q (BS)).acc Sa.out HFI.out⟩,Qf⟩):p:=h
theorem mR {p:Prop} (h:p:=by
 go_wp2_with fail;exact ⟨⟨j+1,Qa,Qh,by rw [HPJ.out,QK.out,Px];exact HOI.out,HFI.out,UM.out⟩,Qf⟩):p:=h
theorem KX {p:Prop} (h:p:=by
 obtain rfl:j=k+1:=Qa;have hji:¬ ((k+1:Nat):Int)<=(k:Int):=Qa;go_wp2_with fail;exact ⟨⟨k+1,Qa,Qh,by rw [HP.out];exact HOI.out,HFI.out,UM.out⟩,Qf⟩):p:=h
theorem Aa (w:World) :
  Calls prog 165 #[.int .i64 4] w fun e w'=>∃ v',e=.returned v'/\f9 .i64 3 w.heap.size w' v' (cY (aD 4))/\ae [] w w':=by
 go_enter func165,ntmps165;go_wp2_with fail;go_loopw [3,4] (fun y s wr=>∃ k:Nat,k<=7/\s=.int .i64 k/\f9 .i64 3 w.heap.size wr y (cY ((List.range k).flatMap fun s=>(List.range (s+1)).flatMap (bz 4 s)))/\bj w.heap.size y/\ae [] w wr) (fun _ s _=>7-(intOf s).toNat)
 case atStart=>exact ⟨0,Qa,rfl,by simpa [cY] using f9.nil _ _ _ _,bj.nil _,AY⟩
 case round =>
  obtain ⟨k,hk,rfl,F,I,J⟩:=hrel;have Y:=lh F;have UA:=lh I;have V:=lh J;clear F I J;by_cases QH:k<7
  ·have Tl:(k:Int)<=6:=Qa
   have RA:(0:Int)<=(k:Int):=Qa;have HP:=lh (show (List.range (k+1)).flatMap (fun s=>(List.range (s+1)).flatMap (bz 4 s))=(List.range k).flatMap (fun s=>(List.range (s+1)).flatMap (bz 4 s)) ++ (List.range (k+1)).flatMap (bz 4 k) from eQ _ k);have Ta:=lh (jm 4 k);generalize (List.range k).flatMap (fun s=>(List.range (s+1)).flatMap (bz 4 s))=PRE at *
   go_wp2_with fail;go_loopw [3,5] (fun y i Z=>∃ j:Nat,j<=k+1/\i=.int .i64 j/\f9 .i64 3 w.heap.size Z y (cY (PRE ++ (List.range j).flatMap (bz 4 k)))/\bj w.heap.size y/\ae [] w Z) (fun _ i _=>k+1-(intOf i).toNat)
   case atStart=>exact ⟨0,Qa,rfl,by simpa using Y.out,UA.out,V.out⟩
   case round =>
    obtain ⟨j,hj,rfl,F,I,J⟩:=hrel;have HOI:=lh F;have HFI:=lh I;have UM:=lh J;clear F I J;by_cases hjl:j<k+1
    ·have hji:(j:Int)<=(k:Int):=Qa
     have hj0:(0:Int)<=(j:Int):=Qa;have HPJ:=lh (show PRE ++ (List.range (j+1)).flatMap (bz 4 k)=PRE ++ (List.range j).flatMap (bz 4 k) ++ bz 4 k j by rw [Zh,B5,PM];simp);have E:=lh (show (PRE ++ (List.range j).flatMap (bz 4 k)).length<=10000 by have:=fX 4 k j;have:=Ta.out;have Yp:(k+1)*(k+1)<=16*16:=A8 Qa Qa;rw [Pn];omega);generalize PRE ++ (List.range j).flatMap (bz 4 k)=S0 at *
     have hzj:=UM.out.size;by_cases D:k % 2=0
     ·have N:(k:Int) % 2=0:=Qa
      by_cases hx:k-j<4
      ·have L:(k:Int)-(j:Int)<4:=Qa
       by_cases O:j<4
       ·have M:(k:Int)-((k:Int)-(j:Int))<4:=Qa
        have QK:Hid (bz 4 k j=[(k-j)*4+j]):=lh (by unfold bz;rw [if_pos D,if_pos D,if_pos ⟨O,hx⟩]);have VJ:Hid ((((k:Int)-(j:Int))*4+(k:Int)-((k:Int)-(j:Int)):Int)=((((k-j)*4+j:Nat)):Int)):=lh Qa;have QS:∀ x∈[(((k:Int)-(j:Int))*4+(k:Int)-((k:Int)-(j:Int)):Int)],i7 .i64 x:=by simp only [i5,n7,i7];omega
        have RI:=lh (fun (W:World)=>aU (k:=.i64) (w:=W) (t:=3) (l:=[(((k:Int)-(j:Int))*4+(k:Int)-((k:Int)-(j:Int)):Int)]) rfl Qj QS 1 rfl rfl);have TU:=lh (show ((cY S0).length+[(((k:Int)-(j:Int))*4+(k:Int)-((k:Int)-(j:Int)):Int)].length)*8<=140737488355328 by have:=E.out;simp [cY];omega);exact yy
       ·have M:¬ (k:Int)-((k:Int)-(j:Int))<4:=Qa
        have QK:Hid (bz 4 k j=[]):=lh (by unfold bz;rw [if_pos D,if_pos D,if_neg Qa]);exact mR
      ·have L:¬ (k:Int)-(j:Int)<4:=Qa
       have QK:Hid (bz 4 k j=[]):=lh (by unfold bz;rw [if_pos D,if_pos D,if_neg Qa]);exact mR
     ·have N:¬ (k:Int) % 2=0:=Qa
      by_cases hx:j<4
      ·have L:(j:Int)<4:=Qa
       by_cases O:k-j<4
       ·have M:(k:Int)-(j:Int)<4:=Qa
        have QK:Hid (bz 4 k j=[j*4+(k-j)]):=lh (by unfold bz;rw [if_neg D,if_neg D,if_pos ⟨O,hx⟩]);have VJ:Hid (((j:Int)*4+(k:Int)-(j:Int):Int)=(((j*4+(k-j):Nat)):Int)):=lh Qa;have QS:∀ x∈[((j:Int)*4+(k:Int)-(j:Int):Int)],i7 .i64 x:=by simp only [i5,n7,i7];omega
        have RI:=lh (fun (W:World)=>aU (k:=.i64) (w:=W) (t:=3) (l:=[((j:Int)*4+(k:Int)-(j:Int):Int)]) rfl Qj QS 1 rfl rfl);have TU:=lh (show ((cY S0).length+[((j:Int)*4+(k:Int)-(j:Int):Int)].length)*8<=140737488355328 by have:=E.out;simp [cY];omega);exact yy
       ·have M:¬ (k:Int)-(j:Int)<4:=Qa
        have QK:Hid (bz 4 k j=[]):=lh (by unfold bz;rw [if_neg D,if_neg D,if_neg Qa]);exact mR
      ·have L:¬ (j:Int)<4:=Qa
       have QK:Hid (bz 4 k j=[]):=lh (by unfold bz;rw [if_neg D,if_neg D,if_neg Qa]);exact mR
    ·exact KX
  ·obtain rfl:k=7:=Qa
   have Tl:¬ ((7:Nat):Int)<=6:=Qa;go_wp2_with fail;go_ret;exact ⟨_,rfl,Y.out,V.out⟩
theorem Ab (w:World) :
  Calls prog 165 #[.int .i64 8] w fun e w'=>∃ v',e=.returned v'/\f9 .i64 3 w.heap.size w' v' (cY (aD 8))/\ae [] w w':=by
 go_enter func165,ntmps165;go_wp2_with fail;go_loopw [3,4] (fun y s wr=>∃ k:Nat,k<=15/\s=.int .i64 k/\f9 .i64 3 w.heap.size wr y (cY ((List.range k).flatMap fun s=>(List.range (s+1)).flatMap (bz 8 s)))/\bj w.heap.size y/\ae [] w wr) (fun _ s _=>15-(intOf s).toNat)
 case atStart=>exact ⟨0,Qa,rfl,by simpa [cY] using f9.nil _ _ _ _,bj.nil _,AY⟩
 case round =>
  obtain ⟨k,hk,rfl,F,I,J⟩:=hrel;have Y:=lh F;have UA:=lh I;have V:=lh J;clear F I J;by_cases QH:k<15
  ·have Tl:(k:Int)<=14:=Qa
   have RA:(0:Int)<=(k:Int):=Qa;have HP:=lh (show (List.range (k+1)).flatMap (fun s=>(List.range (s+1)).flatMap (bz 8 s))=(List.range k).flatMap (fun s=>(List.range (s+1)).flatMap (bz 8 s)) ++ (List.range (k+1)).flatMap (bz 8 k) from eQ _ k);have Ta:=lh (jm 8 k);generalize (List.range k).flatMap (fun s=>(List.range (s+1)).flatMap (bz 8 s))=PRE at *
   go_wp2_with fail;go_loopw [3,5] (fun y i Z=>∃ j:Nat,j<=k+1/\i=.int .i64 j/\f9 .i64 3 w.heap.size Z y (cY (PRE ++ (List.range j).flatMap (bz 8 k)))/\bj w.heap.size y/\ae [] w Z) (fun _ i _=>k+1-(intOf i).toNat)
   case atStart=>exact ⟨0,Qa,rfl,by simpa using Y.out,UA.out,V.out⟩
   case round =>
    obtain ⟨j,hj,rfl,F,I,J⟩:=hrel;have HOI:=lh F;have HFI:=lh I;have UM:=lh J;clear F I J;by_cases hjl:j<k+1
    ·have hji:(j:Int)<=(k:Int):=Qa
     have hj0:(0:Int)<=(j:Int):=Qa;have HPJ:=lh (show PRE ++ (List.range (j+1)).flatMap (bz 8 k)=PRE ++ (List.range j).flatMap (bz 8 k) ++ bz 8 k j by rw [Zh,B5,PM];simp);have E:=lh (show (PRE ++ (List.range j).flatMap (bz 8 k)).length<=10000 by have:=fX 8 k j;have:=Ta.out;have Yp:(k+1)*(k+1)<=16*16:=A8 Qa Qa;rw [Pn];omega);generalize PRE ++ (List.range j).flatMap (bz 8 k)=S0 at *
     have hzj:=UM.out.size;by_cases D:k % 2=0
     ·have N:(k:Int) % 2=0:=Qa
      by_cases hx:k-j<8
      ·have L:(k:Int)-(j:Int)<8:=Qa
       by_cases O:j<8
       ·have M:(k:Int)-((k:Int)-(j:Int))<8:=Qa
        have QK:Hid (bz 8 k j=[(k-j)*8+j]):=lh (by unfold bz;rw [if_pos D,if_pos D,if_pos ⟨O,hx⟩]);have VJ:Hid ((((k:Int)-(j:Int))*8+(k:Int)-((k:Int)-(j:Int)):Int)=((((k-j)*8+j:Nat)):Int)):=lh Qa;have QS:∀ x∈[(((k:Int)-(j:Int))*8+(k:Int)-((k:Int)-(j:Int)):Int)],i7 .i64 x:=by simp only [i5,n7,i7];omega
        have RI:=lh (fun (W:World)=>aU (k:=.i64) (w:=W) (t:=3) (l:=[(((k:Int)-(j:Int))*8+(k:Int)-((k:Int)-(j:Int)):Int)]) rfl Qj QS 1 rfl rfl);have TU:=lh (show ((cY S0).length+[(((k:Int)-(j:Int))*8+(k:Int)-((k:Int)-(j:Int)):Int)].length)*8<=140737488355328 by have:=E.out;simp [cY];omega);exact yy
       ·have M:¬ (k:Int)-((k:Int)-(j:Int))<8:=Qa
        have QK:Hid (bz 8 k j=[]):=lh (by unfold bz;rw [if_pos D,if_pos D,if_neg Qa]);exact mR
      ·have L:¬ (k:Int)-(j:Int)<8:=Qa
       have QK:Hid (bz 8 k j=[]):=lh (by unfold bz;rw [if_pos D,if_pos D,if_neg Qa]);exact mR
     ·have N:¬ (k:Int) % 2=0:=Qa
      by_cases hx:j<8
      ·have L:(j:Int)<8:=Qa
       by_cases O:k-j<8
       ·have M:(k:Int)-(j:Int)<8:=Qa
        have QK:Hid (bz 8 k j=[j*8+(k-j)]):=lh (by unfold bz;rw [if_neg D,if_neg D,if_pos ⟨O,hx⟩]);have VJ:Hid (((j:Int)*8+(k:Int)-(j:Int):Int)=(((j*8+(k-j):Nat)):Int)):=lh Qa;have QS:∀ x∈[((j:Int)*8+(k:Int)-(j:Int):Int)],i7 .i64 x:=by simp only [i5,n7,i7];omega
        have RI:=lh (fun (W:World)=>aU (k:=.i64) (w:=W) (t:=3) (l:=[((j:Int)*8+(k:Int)-(j:Int):Int)]) rfl Qj QS 1 rfl rfl);have TU:=lh (show ((cY S0).length+[((j:Int)*8+(k:Int)-(j:Int):Int)].length)*8<=140737488355328 by have:=E.out;simp [cY];omega);exact yy
       ·have M:¬ (k:Int)-(j:Int)<8:=Qa
        have QK:Hid (bz 8 k j=[]):=lh (by unfold bz;rw [if_neg D,if_neg D,if_neg Qa]);exact mR
      ·have L:¬ (j:Int)<8:=Qa
       have QK:Hid (bz 8 k j=[]):=lh (by unfold bz;rw [if_neg D,if_neg D,if_neg Qa]);exact mR
    ·exact KX
  ·obtain rfl:k=15:=Qa
   have Tl:¬ ((15:Nat):Int)<=14:=Qa;go_wp2_with fail;go_ret;exact ⟨_,rfl,Y.out,V.out⟩
theorem Dc (w:World):Calls prog 164 #[.int .i64 4] w fun e w'=>e=.returned (.int .i64 14)/\w=w':=by
 go_enter func164,ntmps164;go_wp2;go_ret;exact ⟨rfl,rfl⟩
theorem Dd (w:World):Calls prog 164 #[.int .i64 8] w fun e w'=>e=.returned (.int .i64 39)/\w=w':=by
 go_enter func164,ntmps164;go_wp2;go_ret;exact ⟨rfl,rfl⟩
theorem rM (l:List Int):aO l 0 0=cN l:=by
 unfold aO cN
 induction l with
 | nil=>rfl
 | cons x l ih =>
  simp only [List.all_cons];rw [ih]
  congr 1
  by_cases h:x=0
  ·subst h;rfl
  ·have D:(x == 0)=false:=by simp [h]
   rw [D];simp only [Bool.and_eq_false_iff,Bool.not_eq_false',t8,r9,Bool.or_eq_true,Bool.not_eq_true',Bool.or_eq_false_iff,decide_eq_false_iff_not];omega
theorem qL {lo hi:Nat} {v:Value} {l:List Int} {w:World} (h:aj .i64 lo hi w v l):Calls prog 92 #[v] w fun e w'=>e=.returned (.bool (cN l))/\w=w':=by
 obtain ⟨a,cap,E,-⟩:=h.open;have D:=lh (bQ 0 0 h);subst E;clear h;go_enter func92,ntmps92;go_wp2_with fail;refine D.out.mono ?_;rintro e w1 ⟨rfl,rfl⟩;go_wp2_with fail;go_ret;exact ⟨by rw [show Value.bool (cN l)=Value.bool (aO l 0 0) by rw [rM]];first | rfl | (rw [rM];rfl),rfl⟩
theorem tG {lo hi lo' hi':Nat} {v u:Value} {l:List Int} {o:List Nat} {w:World} (h:aj .i64 lo hi w v l) (g:aj .i64 lo' hi' w u (cY o)) (ho:∀ a∈o,a<l.length) (i:Nat) (hi:i<=o.length) :
  Calls prog 167 #[v,u,i] w fun e w'=>e=.returned (.bool (bR l (o.drop i)))/\w=w':=by
 obtain ⟨a,cap,rfl,Sq,Y,RO,QR⟩:=h.open;obtain ⟨b,ZF,rfl,SE,I,E,V⟩:=g.open;have Xl:(cY o).length=o.length:=by simp [cY]
 rw [Xl] at E V SE |-
 have Th:(o.length:Int)<=9223372036854775807:=by unfold maxLen at I;omega
 have TT:=lh RO;have Rm:=lh QR;have M:=lh E;have O:=lh V;have Ho:=lh ho;have Hi:=lh hi;clear h g RO QR E V ho Xl Sq Y SE I;go_enter func167,ntmps167;go_wp2_with fail;go_loopw [7] (fun s wr=>∃ k:Nat,k<=o.length/\s=.int .i64 k/\Hid (bR l (o.drop k)=bR l (o.drop i))/\w=wr) (fun s _=>o.length-(intOf s).toNat)
 case atStart=>exact ⟨i,Hi.out,rfl,lh rfl,rfl⟩
 case round =>
  obtain ⟨k,hk,rfl,N,rfl⟩:=hrel;by_cases D:k<o.length
  ·have Rt:(k:Int)<(o.length:Int):=Qa
   have RA:(0:Int)<=(k:Int):=Qa;obtain ⟨c,L⟩:∃ c,o.getD k 0=c:=⟨_,rfl⟩
   have F:c<l.length:=Ho.out c (by rw [<- L];simp [D]);obtain ⟨bb,bo,rfl,_,_⟩:=M.out k D;have c1:=O.out bb bo rfl k D;have J:(cY o).getD k 0=(c:Int):=by rw [<- L];simp [cY,D]
   rw [J] at c1;obtain ⟨ab,ao,rfl,_,_⟩:=TT.out c F;have c0:=Rm.out ab ao rfl c F;have hci:(c:Int)<(l.length:Int):=Qa;have TM:(0:Int)<=(c:Int):=Qa;have Hd:Hid (bR l (o.drop k)=((l.getD c 0 == 0) && bR l (o.drop (k+1)))):=lh (by
    rw [Py D];have:o[k]=c:=by rw [<- L];simp [D]
    rw [this];rfl)
   have Sj:=lh D;generalize l.getD c 0=x at *
   clear J L D;by_cases hx:x=0
   ·subst hx
    go_wp2_with fail;exact ⟨⟨k+1,by have:=Sj.out;omega,Qh,lh (by rw [<- N.out,Hd.out];simp),by first | rfl | trivial⟩,by simp [intOf];have:=Sj.out;omega⟩
   ·have Z:(x == 0)=false:=dn A5 hx
    go_wp2_with fail;go_ret;exact ⟨by rw [<- N.out,Hd.out,Z];rfl,rfl⟩
  ·obtain rfl:k=o.length:=Qa
   have Rt:¬ ((o.length:Nat):Int)<(o.length:Int):=Qa;go_wp2_with fail;go_ret;exact ⟨by rw [<- N.out,C1 (Pm _)];rfl,rfl⟩
section
variable {σ:Type} {C:lX σ} {base last a i:Nat} {l out:List Int} {rest:List Nat} {m m1 m2 m3:σ} {x:Int} {b:Bool}
theorem pH (hi:i<last) (D:C.bit (base+1+min i 7) (decide (l.getD a 0≠0)) m=(false,m1)):aH C base last l (a :: rest) i out m=aH C base last l rest (i+1) out m1:=by
 rw [aH,if_pos hi,D];exact if_neg Qb
theorem rW (hi:i<last) (D:C.bit (base+1+min i 7) (decide (l.getD a 0≠0)) m=(true,m1)) (E:aV C base (l.getD a 0) m1=(x,m2)) (hx:x < -16320\/16320<x):aH C base last l (a :: rest) i out m=(.error ⟨[(kP,(i:Int))],3⟩,m2):=by
 rw [aH,if_pos hi,D];simp only [E,if_true,if_pos hx]
theorem pF (hi:i<last) (E:C.bit (base+1+min i 7) (decide (l.getD a 0≠0)) m=(true,m1)) (F:aV C base (l.getD a 0) m1=(x,m2)) (hx:¬ (x < -16320\/16320<x)) (D:C.bit (base+9+min i 7) (bR l rest) m2=(true,m3)):aH C base last l (a :: rest) i out m=(.ok (out.set a x),m3):=by
 rw [aH,if_pos hi,E];simp only [F,if_true,if_neg hx,D]
theorem pG (hi:i<last) (E:C.bit (base+1+min i 7) (decide (l.getD a 0≠0)) m=(true,m1)) (F:aV C base (l.getD a 0) m1=(x,m2)) (hx:¬ (x < -16320\/16320<x)) (D:C.bit (base+9+min i 7) (bR l rest) m2=(false,m3)):aH C base last l (a :: rest) i out m=aH C base last l rest (i+1) (out.set a x) m3:=by
 rw [aH,if_pos hi,E];simp only [F,if_true,if_neg hx,D];exact if_neg Qb
theorem pE (hi:¬ i<last) (D:aV C base (l.getD a 0) m=(x,m2)) (hx:x < -16320\/16320<x):aH C base last l (a :: rest) i out m=(.error ⟨[(kP,(i:Int))],3⟩,m2):=by
 rw [aH,if_neg hi];simp only [D,if_pos hx]
theorem nz (hi:¬ i<last) (D:aV C base (l.getD a 0) m=(x,m2)) (hx:¬ (x < -16320\/16320<x)):aH C base last l (a :: rest) i out m=aH C base last l rest (i+1) (out.set a x) m2:=by
 rw [aH,if_neg hi];simp only [D,if_neg hx]
theorem ww {v:Int} {D:Bool} {z:Nat} (E:C.flat (decide (v<0)) m=(D,m1)) (F:dz C base (max v (-v)-1) m1=(z,m2)):aV C base v m=(dW D z,m2):=by
 unfold aV;rw [E];simp only [F]
end
theorem kM (l:List Nat) (i:Nat):(cY l).getD i 0=((l.getD i 0:Nat):Int):=by
 unfold cY;rw [Pd,Pd,Pz];cases l[i]? <;> rfl
theorem uI {l:List Int} (h:cE l):aO l (-16320) 16320=true:=by
 unfold aO;rw [t6];intro x hx;have:=h x hx;simp;omega
structure cQ (g:Nat) (F:List Nat) (W:World) (Fc:List Nat) (w:World):Prop where
 only:ae (g :: F) W w
 new:∀ x∈Fc,x∈F\/W.heap.size<=x
section
variable {g:Nat} {F Fc F':List Nat} {W w w':World}
theorem cQ.went (h:cQ g F W Fc w) (k:bA Fc w F' w'):cQ g F W F' w' :=
 ⟨h.only.trans k.1 (fun x hx _=>hx) (fun x hx D=>by rcases h.new x hx with a | a;exact Pv _ a;omega),fun x hx=>(k.2 x hx).elim (h.new x) (fun a=>.inr (Pw h.only.size a))⟩
theorem cQ.store (h:cQ g F W Fc w) (k:ae [g] w w'):cQ g F W Fc w':=⟨h.only.trans k (fun x hx _=>hx) (fun x hx _=>by rw [i5] at hx;rw [hx];exact VY ..),h.new⟩
theorem cQ.quiet (h:cQ g F W Fc w) (k:ae [] w w'):cQ g F W Fc w':=⟨h.only.trans k (fun x hx _=>hx) Qb,h.new⟩
theorem cQ.apart (h:cQ g F W Fc w) (E:g<W.heap.size) (D:g∉F):g∉Fc:=fun hx=>(h.new g hx).elim D (fun a=>Qa)
theorem cQ.end {w0:World} {e:Nat} (D:ae [] w0 W) (h:cQ g F W Fc w) (o:ae [e] w w') (J:w0.heap.size<=g) (I:w0.heap.size<=e):bA F w0 Fc w' :=
 ⟨(D.trans h.only (U:=F) Qb (fun x hx E=>by rcases Zb.1 hx with rfl | a;omega;exact a)).trans o (fun x hx _=>hx) (fun x hx E=>Qo),fun x hx=>(h.new x hx).imp_right (fun a=>Pw D.size a)⟩
end
def lN {R:Nat} (X:KC R) (F:List Nat) (w:World) (r:Except l4 (List Int)×X.σ) (e:Ending) (w':World):Prop :=
 ∃ F',X.At F' w' r.2/\bA F w F' w'/\match r.1 with
  | .ok o=>∃ v',e=.returned (.tuple #[v',.agg #[(),d8]])/\f9 .i64 3 w.heap.size w' v' o/\∀ g,v'.ownBlock=some g->g∉F'
  | .error er=>∃ sv,e=.returned (.tuple #[d8,.agg #[er.code,sv]])/\cf 2 w.heap.size w'.heap.size w' sv er.path.length (flat er.path)
theorem Bv {R:Nat} (X:KC R) {base:Nat} (E:base<=39) (v:Int) {n:Nat} {s:X.σ} (h:X.Ok n s):X.Ok (n+80) (dz X.C base v s).2/\(dz X.C base v s).1<=16400:=by
 obtain ⟨a,b,c⟩:=Ay X (f:=fun n=>base+17+min n 7) (fun i=>Qa) v 14 0 h;unfold dz
 split
 ·obtain ⟨p,q,r⟩:=vT X (v-13) 13 0 a
  obtain ⟨x,y,z⟩:=iJ X (v-13) (bF X.C (v-13) 13 0 (aW X.C (fun n=>base+17+min n 7) v 14 0 s).2).1 1 p;have D:2 ^ (bF X.C (v-13) 13 0 (aW X.C (fun n=>base+17+min n 7) v 14 0 s).2).1<=2 ^ 13:=Nat.pow_le_pow_right Qa Qa;exact ⟨X.ok_le x Qa,by show 13+(cH X.C (v-13) _).1<=_;unfold cH;omega⟩
 ·exact ⟨X.ok_le a Qa,Qa⟩
end Go.Proofs.YthcafdfdglfabaaGreatDoor
