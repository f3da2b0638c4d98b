/- Joined texts: DCod, DRow2, DRk13, DRkN, DRkO, DRkC. Conditions: each part names its own. -/
import Derived.Test.YthcafdfdglfabaaGreatDoorS1
import Derived.Test.YthcafdfdglfabaaGreatDoorK5
import Derived.Deep.DeepCutAuto
import Derived.Test.YthcafdfdglfabaaGreatDoorZDOrder
namespace Go.Proofs.YthcafdfdglfabaaGreatDoor
open Go.RowKit
set_option linter.unusedVariables false
set_option linter.unusedSimpArgs false
set_option maxRecDepth 100000
set_option maxHeartbeats 16000000
structure kC (σ:Type) where
 bit:Nat->Bool->σ->Bool×σ
 flat:Bool->σ->Bool×σ
section
variable {σ:Type} (C:kC σ)
def aW (f:Nat->Nat) (v:Int):Nat->Nat->σ->Nat×σ
 | 0,n,s=>(n,s)
 | k+1,n,s=>if (C.bit (f n) (decide ((n:Int)<v)) s).1 then aW f v k (n+1) (C.bit (f n) (decide ((n:Int)<v)) s).2 else (n,(C.bit (f n) (decide ((n:Int)<v)) s).2)
def kx (v:Int) (s:σ):Nat×σ:=aW C (fun n=>min n 63) v 3 0 s
def kg (m:Int) (s:σ):Nat×σ :=
 if (C.bit 3 (decide (1<m)) s).1 then (if (C.bit 5 (decide (m % 2=1)) (C.bit 3 (decide (1<m)) s).2).1 then 3 else 2,(C.bit 5 (decide (m % 2=1)) (C.bit 3 (decide (1<m)) s).2).2)
 else (if (C.bit 4 (decide (m % 2=1)) (C.bit 3 (decide (1<m)) s).2).1 then 1 else 0,(C.bit 4 (decide (m % 2=1)) (C.bit 3 (decide (1<m)) s).2).2)
def bN (v:Int) (s:σ):Nat×σ:=kg C (min (max v 0) 3) s
def fZ (v:Int) (b:Bool) (s:σ):Int×σ:=(dG b (aW C (fun n=>7+min n 6) (max v (-v)-1) 14 0 s).1,(aW C (fun n=>7+min n 6) (max v (-v)-1) 14 0 s).2)
def fY (v:Int) (s:σ):Int×σ :=
 if (C.bit 6 (decide (v≠0)) s).1 then fZ C v (C.flat (decide (v<0)) (C.bit 6 (decide (v≠0)) s).2).1 (C.flat (decide (v<0)) (C.bit 6 (decide (v≠0)) s).2).2 else (0,(C.bit 6 (decide (v≠0)) s).2)
def bR (v:Int) (s:σ):Int×σ:=fY C (min (max v (-15)) 15) s
def bF (u:Int):Nat->Nat->σ->Nat×σ
 | 0,n,s=>(n,s)
 | k+1,n,s=>if (C.flat (decide ((2:Int) ^ (n+1)<=u)) s).1 then bF u k (n+1) (C.flat (decide ((2:Int) ^ (n+1)<=u)) s).2 else (n,(C.flat (decide ((2:Int) ^ (n+1)<=u)) s).2)
def ck (u:Int):Nat->Nat->σ->Nat×σ
 | 0,n,s=>(n,s)
 | k+1,n,s=>ck u k (if (C.flat (decide (u / (2:Int) ^ k % 2=1)) s).1 then 2*n+1 else 2*n) (C.flat (decide (u / (2:Int) ^ k % 2=1)) s).2
def cw (u:Int) (s:σ):Nat×σ:=ck C u (bF C u 13 0 s).1 1 (bF C u 13 0 s).2
def cY (base:Nat) (v:Int) (s:σ):Nat×σ :=
 if (aW C (fun n=>base+17+min n 7) v 14 0 s).1=14 then (13+(cw C (v-13) (aW C (fun n=>base+17+min n 7) v 14 0 s).2).1,(cw C (v-13) (aW C (fun n=>base+17+min n 7) v 14 0 s).2).2)
 else aW C (fun n=>base+17+min n 7) v 14 0 s
def aV (base:Nat) (v:Int) (s:σ):Int×σ:=(dG (C.flat (decide (v<0)) s).1 (cY C base (max v (-v)-1) (C.flat (decide (v<0)) s).2).1,(cY C base (max v (-v)-1) (C.flat (decide (v<0)) s).2).2)
def bO (l:List Int) (o:List Nat):Bool:=o.all fun a=>l.getD a 0 == 0
def aF (base last:Nat) (l:List Int):List Nat->Nat->List Int->σ->Except Err (List Int)×σ
 | [],i,out,m=>(.ok out,m)
 | a :: rest,i,out,m =>
  if i<last then
   if (C.bit (base+1+min i 7) (decide (l.getD a 0≠0)) m).1 then
    if (aV C base (l.getD a 0) (C.bit (base+1+min i 7) (decide (l.getD a 0≠0)) m).2).1 < -16320\/16320<(aV C base (l.getD a 0) (C.bit (base+1+min i 7) (decide (l.getD a 0≠0)) m).2).1 then (.error ⟨[(jJ,(i:Int))],3⟩,(aV C base (l.getD a 0) (C.bit (base+1+min i 7) (decide (l.getD a 0≠0)) m).2).2)
    else if (C.bit (base+9+min i 7) (bO l rest) (aV C base (l.getD a 0) (C.bit (base+1+min i 7) (decide (l.getD a 0≠0)) m).2).2).1 then (.ok (out.set a (aV C base (l.getD a 0) (C.bit (base+1+min i 7) (decide (l.getD a 0≠0)) m).2).1),(C.bit (base+9+min i 7) (bO l rest) (aV C base (l.getD a 0) (C.bit (base+1+min i 7) (decide (l.getD a 0≠0)) m).2).2).2)
    else aF base last l rest (i+1) (out.set a (aV C base (l.getD a 0) (C.bit (base+1+min i 7) (decide (l.getD a 0≠0)) m).2).1) (C.bit (base+9+min i 7) (bO l rest) (aV C base (l.getD a 0) (C.bit (base+1+min i 7) (decide (l.getD a 0≠0)) m).2).2).2
   else aF base last l rest (i+1) out (C.bit (base+1+min i 7) (decide (l.getD a 0≠0)) m).2
  else
   if (aV C base (l.getD a 0) m).1 < -16320\/16320<(aV C base (l.getD a 0) m).1 then (.error ⟨[(jJ,(i:Int))],3⟩,(aV C base (l.getD a 0) m).2)
   else aF base last l rest (i+1) (out.set a (aV C base (l.getD a 0) m).1) (aV C base (l.getD a 0) m).2
def cB (l:List Int):Bool:=l.all (· == 0)
def aT (side:Nat) (l:List Int) (m:σ):Except Err (List Int)×σ :=
 if (C.bit (iH side) (!cB l) m).1 then aF C (iH side) (side*side-1) l (aC side) 0 (List.replicate (side*side) 0) (C.bit (iH side) (!cB l) m).2
 else (.ok (List.replicate (side*side) 0),(C.bit (iH side) (!cB l) m).2)
def bn (qm:List Int) (ql:List (List Int)):Nat->List Int->List (List Int)->σ->Except Err (List Int×List (List Int))×σ
 | 0,ms,ls,m=>(.ok (ms,ls),m)
 | k+1,ms,ls,m =>
  match (aT C 4 (ql.getD ls.length []) (bN C (qm.getD ms.length 0) m).2).1 with
  | .error e=>(.error e,(aT C 4 (ql.getD ls.length []) (bN C (qm.getD ms.length 0) m).2).2)
  | .ok l=>bn qm ql k (ms ++ [((bN C (qm.getD ms.length 0) m).1:Int)]) (ls ++ [l]) (aT C 4 (ql.getD ls.length []) (bN C (qm.getD ms.length 0) m).2).2
structure pZ where
 kind:Int
 mode:Int
 modes:List Int
 vx:Int
 vy:Int
 large:List Int
 small:List (List Int)
def bK (key:Bool) (k:Int) (m:σ):Nat×σ:=if key then (if (C.flat (decide (k=3)) m).1 then 3 else 2,(C.flat (decide (k=3)) m).2) else kx C k m
def cf (q:pZ) (k:Nat) (m:σ):Except Err SqD×σ :=
 if k=3 then
  match (bn C q.modes q.small 4 [] [] m).1 with
  | .error e=>(.error e,(bn C q.modes q.small 4 [] [] m).2)
  | .ok x=>(.ok ⟨3,0,x.1,0,0,[],x.2⟩,(bn C q.modes q.small 4 [] [] m).2)
 else if k=0 then (.ok sq0,m)
 else if k=1 then
  match (aT C 8 q.large (bR C q.vy (bR C q.vx m).2).2).1 with
  | .error e=>(.error e,(aT C 8 q.large (bR C q.vy (bR C q.vx m).2).2).2)
  | .ok l=>(.ok ⟨1,0,[0,0,0,0],(bR C q.vx m).1,(bR C q.vy (bR C q.vx m).2).1,l,[[],[],[],[]]⟩,(aT C 8 q.large (bR C q.vy (bR C q.vx m).2).2).2)
 else
  match (aT C 8 q.large (bN C q.mode m).2).1 with
  | .error e=>(.error e,(aT C 8 q.large (bN C q.mode m).2).2)
  | .ok l=>(.ok ⟨2,(bN C q.mode m).1,[0,0,0,0],0,0,l,[[],[],[],[]]⟩,(aT C 8 q.large (bN C q.mode m).2).2)
def di (key:Bool) (q:pZ) (m:σ):Except Err SqD×σ :=
 match (cf C q (bK C key q.kind m).1 (bK C key q.kind m).2).1 with
 | .error e=>(.error (inD lW (bK C key q.kind m).1 e),(cf C q (bK C key q.kind m).1 (bK C key q.kind m).2).2)
 | .ok s=>(.ok s,(cf C q (bK C key q.kind m).1 (bK C key q.kind m).2).2)
end
def rdC:kC Mod:=⟨fun c _ m=>dF c m,fun _ m=>fM m⟩
theorem od (f:Nat->Nat) (v:Int):∀ (k n:Nat) (m:Mod),aW rdC f v k n m=oc f k n m
 | 0,n,m=>rfl
 | k+1,n,m=>by
  show (if (dF (f n) m).1 then aW rdC f v k (n+1) (dF (f n) m).2 else _)=_;rw [od f v k]
  rfl
theorem tE (u:Int):∀ (k n:Nat) (m:Mod),bF rdC u k n m=uX k n m
 | 0,n,m=>rfl
 | k+1,n,m=>by
  show (if (fM m).1 then bF rdC u k (n+1) (fM m).2 else _)=_;rw [tE u k]
  rfl
theorem wb (u:Int):∀ (k n:Nat) (m:Mod),ck rdC u k n m=Ew k n m
 | 0,n,m=>rfl
 | k+1,n,m=>wb u k _ _
theorem FC (v:Int) (m:Mod):kx rdC v m=JL m:=od _ _ _ _ _
theorem xG (v:Int) (m:Mod):bN rdC v m=nY m:=rfl
theorem Gi (v:Int) (m:Mod):bR rdC v m=kX m:=by
 unfold bR fY fZ kX;rw [od]
 rfl
theorem Dl (u:Int) (m:Mod):cw rdC u m=uZ m:=by
 unfold cw uZ;rw [tE,wb]
theorem IA (base:Nat) (v:Int) (m:Mod):cY rdC base v m=Cz base m:=by
 unfold cY Cz;rw [od,Dl]
theorem DL (base:Nat) (v:Int) (m:Mod):aV rdC base v m=fH base m:=by
 unfold aV fH;rw [IA]
 rfl
theorem qI (base last:Nat) (l:List Int):∀ (o:List Nat) (i:Nat) (out:List Int) (m:Mod),aF rdC base last l o i out m=oT base last o i out m
 | [],i,out,m=>rfl
 | a :: rest,i,out,m=>by
  unfold aF oT;simp only [DL,qI base last l rest]
  rfl
theorem wC (side:Nat) (l:List Int) (m:Mod):aT rdC side l m=kO side m:=by
 unfold aT kO;rw [qI]
 rfl
theorem pU (qm:List Int) (ql:List (List Int)):∀ (k:Nat) (ms:List Int) (ls:List (List Int)) (m:Mod),bn rdC qm ql k ms ls m=mh k ms ls m
 | 0,ms,ls,m=>rfl
 | k+1,ms,ls,m=>by
  unfold bn mh;simp only [wC,xG,pU qm ql k]
  rfl
theorem Dw (key:Bool) (k:Int) (m:Mod):bK rdC key k m=nV key m:=by
 unfold bK nV;rw [FC]
 rfl
theorem DU (q:pZ) (k:Nat) (m:Mod):cf rdC q k m=rM k m:=by
 unfold cf rM;simp only [pU,wC,xG,Gi]
 rfl
theorem AK (key:Bool) (q:pZ) (m:Mod):di rdC key q m=ko key m:=by
 unfold di ko;simp only [Dw,DU]
 rfl
theorem aH {w:World} {g:Nat} {a b x y:Value} {t:TypeId} (h:w.heap[g]?=some (.cells #[a,b] t (0,0))) :
  ((w.setCell ⟨g,0,none⟩ x).setCell ⟨g,1,none⟩ y).heap[g]?=some (.cells #[x,y] t (0,0))/\ae [g] w ((w.setCell ⟨g,0,none⟩ x).setCell ⟨g,1,none⟩ y):=by
 have h1:=heap_setCell_same w g 0 _ _ x h;have h2:=heap_setCell_same _ g 1 _ _ y h1;exact ⟨h2,((ae.refl _ _).setCell Mg _).setCell Mg _⟩
theorem aA {P:Program} {fn:Func} {p q:Tmp} {ty:TypeId} (h:fn.results=#[.tmp q,.cell p ty]) (Oe:Array Value) (w:World) (g:Nat) (t:TypeId) (cs:Array Value) (fr:Nat×Nat) (d:TypeDesc) (v:Value)
  (hp:Oe.getD p undef=.pointer (some ⟨g,0,none⟩)) (hq:Oe.getD q undef=v) (hg:w.heap[g]?=some (.cells cs t fr))
  (hu:P.underlying ty=some d) (hd:(match d with | .struct _ | .array _ _=>true | _=>false)=true) (hi:(P.info? ty).map (·.size)=some cs.size) :
  (results fn Oe).run P w=.ok (.tuple #[v,.agg cs]) w:=by
 have hp':Oe[p]?.getD undef=.pointer (some ⟨g,0,none⟩):=MD;have hq':Oe[q]?.getD undef=v:=ME;simp [results,h,hp',hq',asAddr,run_loadVar_row w g t ty cs fr d hg hu hd hi]
theorem aR (cs:Array Value) (h:cs.size=2):(Tryz.prog.info? 39).map (·.size)=some cs.size:=by rw [h];kernel_rfl
def lI (rd:Bool) (e d:Value) (p:List Int):List Value:=.bool rd :: e :: d :: p.map (Value.int .i64)
abbrev gO (R:Nat) (w:World) (rd:Bool) (e d:Value) (p:List Int):Prop:=w.heap[R]?=some (.cells (lI rd e d p).toArray 102 (0,0))
theorem gO.cells {R:Nat} {w:World} {rd:Bool} {e d:Value} {p:List Int} (h:gO R w rd e d p):w.cell? ⟨R,0,none⟩=some (.bool rd)/\w.cell? ⟨R,1,none⟩=some e/\w.cell? ⟨R,2,none⟩=some d:=by
 refine ⟨?_,?_,?_⟩ <;> (rw [cell_of_row _ _ _ _ _ _ h];rfl)
theorem gO.at {R:Nat} {w:World} {rd:Bool} {e d:Value} {p:List Int} (h:gO R w rd e d p) {c:Nat} (hc:c<p.length) {k:Nat} (hk:k=3+c):w.cell? ⟨R,k,none⟩=some (.int .i64 (p.getD c 0)):=by
 subst hk;rw [cell_of_row _ _ _ _ _ _ h];unfold lI;rw [List.getElem?_toArray,show 3+c=c+1+1+1 by omega];simp [hc]
theorem gO.set {R:Nat} {w:World} {rd:Bool} {e d:Value} {p:List Int} (h:gO R w rd e d p) {c:Nat} {k:Nat} (hk:k=3+c) (x:Int) :
  gO R (w.setCell ⟨R,k,none⟩ (.int .i64 x)) rd e d (p.set c x)/\ae [R] w (w.setCell ⟨R,k,none⟩ (.int .i64 x)):=by
 subst hk;refine ⟨?_,(ae.refl _ _).setCell Mg _⟩;have hr:=heap_setCell_same w R (3+c) _ _ (.int .i64 x) h;rw [gO,hr]
 congr 2
 rw [Lg,show 3+c=c+1+1+1 by omega];simp [lI,List.map_set]
theorem gO.only {R:Nat} {w w':World} {rd:Bool} {e d:Value} {p:List Int} {S:List Nat} (h:gO R w rd e d p) (o:ae S w w') (hS:R∉S):gO R w' rd e d p:=o.rowAt h hS
theorem zR {R:Nat} {w:World} {rd:Bool} {e d:Value} {p:List Int} (h:gO R w rd e d p) (hp:p.length=64) :
  Calls Tryz.prog 89 #[.pointer (some ⟨R,0,none⟩)] w fun en w'=>en=.returned (.pointer (some ⟨R,0,none⟩))/\gO R w' rd e d (List.replicate 64 1024)/\ae [R] w w':=by
 have HK:=lh h;have Hp:=lh hp;clear h hp;go_enter Tryz.func89,Tryz.ntmps89;go_wp2_with fail;go_loopw [3] (fun i wr=>∃ (k:Nat) (q:List Int),k<=64/\i=.int .i64 k/\Hid (gO R wr rd e d q)/\Hid (q.length=64)/\Hid (∀ j,j<k->q.getD j 0=1024)/\Hid (ae [R] w wr)) (fun i _=>64-(intOf i).toNat)
 case atStart=>exact ⟨0,p,Mf,rfl,HK,Hp,lh (fun j hj=>absurd hj Mf),lh (ae.refl _ _)⟩
 case round =>
  obtain ⟨k,q,hk,rfl,Hr,Hq,Ha,HQ⟩:=hrel;by_cases MO:k<64
  ·have Ny:(k:Int)<64:=Mf
   have NU:(0:Int)<=(k:Int):=Mf;have c0:=Hr.out.at (c:=k) (by rw [Hq.out];exact MO) rfl;have f0:=frozen_of_row wr R (3+k) _ _ Hr.out;have HS:=lh (fun (j:Nat) (hj:j=3+k)=>Hr.out.set (c:=k) hj 1024);have Oq:=lh MO;go_wp2_with fail;refine ⟨⟨k+1,q.set k 1024,Mf,Mm,lh (HS.out _ Mf).1,lh (by rw [LK];exact Hq.out),lh (fun j hj=>?_),lh (HQ.out.trans (HS.out _ Mf).2 (fun g h _=>h) (fun g h _=>h))⟩,Mk⟩;rw [Le];by_cases TZ:j=k
   ·subst TZ;rw [LZ (by rw [Hq.out];exact Oq.out)];rfl
   ·rw [LY (Ne.symm TZ),<- Le];exact Ha.out j Mf
  ·obtain rfl:k=64:=Mf
   have Ny:¬ ((64:Nat):Int)<64:=Mf;have hq:q=List.replicate 64 1024:=by
    refine List.ext_getElem (by rw [Hq.out,LJ]) (fun j h1 h2=>?_);have:=Ha.out j (by have:=Hq.out;omega);rw [Le,Lf h1] at this;rw [List.getElem_replicate];exact this
   rw [hq] at Hr;clear hq;go_wp2_with fail;go_ret;exact ⟨rfl,Hr.out,HQ.out⟩
section
variable {lo hi R D:Nat} {bv:Value} {w w':World} {m:Mod} {S:List Nat}
end
def bw (F:List Nat) (w:World) (F':List Nat) (w':World):Prop:=ae F w w'/\∀ g∈F',g∈F\/w.heap.size<=g
theorem bw.refl (F:List Nat) (w:World):bw F w F w:=⟨ae.refl _ _,fun g h=>.inl h⟩
theorem bw.trans {F F1 F2:List Nat} {w w1 w2:World} (h:bw F w F1 w1) (k:bw F1 w1 F2 w2):bw F w F2 w2 :=
 ⟨h.1.trans k.1 (fun g h _=>h) (fun g hg MO=>(h.2 g hg).resolve_right Mf),fun g hg=>(k.2 g hg).elim (fun a=>h.2 g a) (fun a=>.inr (Lz h.1.size a))⟩
theorem bw.q {F F1:List Nat} {w w1 w2:World} (h:bw F w F1 w1) (k:ae [] w1 w2):bw F w F1 w2:=⟨h.1.trans k (fun g h _=>h) Mg,h.2⟩
theorem bw.ahead {F F1:List Nat} {w w1 w2:World} (k:ae [] w w1) (h:bw F w1 F1 w2):bw F w F1 w2:=⟨k.trans h.1 Mg (fun g h _=>h),fun g hg=>(h.2 g hg).imp_right (fun a=>Lz k.size a)⟩
structure KC (R:Nat) where
 σ:Type
 C:kC σ
 reads:Bool
 base:Nat
 At:List Nat->World->σ->Prop
 Ok:Nat->σ->Prop
 ok_le:∀ {n k:Nat} {s:σ},Ok n s->n<=k->Ok k s
 ok_bit:∀ {n:Nat} {s:σ} (c:Nat) (b:Bool),Ok n s->c<64->Ok (n+2) (C.bit c b s).2
 ok_flat:∀ {n:Nat} {s:σ} (b:Bool),Ok n s->Ok (n+2) (C.flat b s).2
 only:∀ {F S:List Nat} {w w':World} {s:σ},At F w s->ae S w w'->(∀ g∈S,base<=g/\g∉F)->At F w' s
 lt:∀ {F:List Nat} {w:World} {s:σ},At F w s->∀ g∈F,g<w.heap.size
 base_le:∀ {F:List Nat} {w:World} {s:σ},At F w s->base<=w.heap.size
 cell:∀ {F:List Nat} {w:World} {s:σ},At F w s->w.cell? ⟨R,0,none⟩=some (.bool reads)
 bit:∀ {F:List Nat} {w:World} {s:σ} {n:Nat} (c:Nat) (b:Bool),At F w s->Ok n s->n<=900000000->c<64 ->
  Calls Tryz.prog 163 #[.pointer (some ⟨R,0,none⟩),c,.bool b] w fun e w'=>e=.returned (.bool (C.bit c b s).1)/\∃ F',At F' w' (C.bit c b s).2/\bw F w F' w'
 flat:∀ {F:List Nat} {w:World} {s:σ} {n:Nat} (b:Bool),At F w s->Ok n s->n<=900000000 ->
  Calls Tryz.prog 162 #[.pointer (some ⟨R,0,none⟩),.bool b] w fun e w'=>e=.returned (.bool (C.flat b s).1)/\∃ F',At F' w' (C.flat b s).2/\bw F w F' w'
theorem KC.quiet {R:Nat} (X:KC R) {F:List Nat} {w w':World} {s:X.σ} (h:X.At F w s) (o:ae [] w w'):X.At F w' s:=X.only h o Mg
section
variable {R:Nat} (X:KC R)
def Es (F:List Nat) (w:World) (r:Int×X.σ) (e:Ending) (w':World):Prop:=e=.returned (.int .i64 r.1)/\∃ F',X.At F' w' r.2/\bw F w F' w'
theorem bG (a b:Int):(a != b)=decide (a≠b):=by by_cases h:a=b <;> simp [h]
theorem aY (a b:Int):(a == b)=decide (a=b):=by by_cases h:a=b <;> simp [h]
theorem xK {f:Nat->Nat} (hf:∀ i,f i<64) (v:Int):∀ (k i:Nat) {n:Nat} {s:X.σ},X.Ok n s->X.Ok (n+2*k) (aW X.C f v k i s).2/\i<=(aW X.C f v k i s).1/\(aW X.C f v k i s).1<=i+k
 | 0,i,n,s,h=>⟨h,Lm _,Lm _⟩
 | k+1,i,n,s,h=>by
  have a:=X.ok_bit (f i) (decide ((i:Int)<v)) h (hf i);unfold aW
  split
  ·obtain ⟨x,y,z⟩:=xK hf v k (i+1) a
   exact ⟨X.ok_le x Mf,Mf,Mf⟩
  ·exact ⟨X.ok_le a Mf,Mg,Mg⟩
theorem tD (u:Int):∀ (k i:Nat) {n:Nat} {s:X.σ},X.Ok n s->X.Ok (n+2*k) (bF X.C u k i s).2/\i<=(bF X.C u k i s).1/\(bF X.C u k i s).1<=i+k
 | 0,i,n,s,h=>⟨h,Lm _,Lm _⟩
 | k+1,i,n,s,h=>by
  have a:=X.ok_flat (decide ((2:Int) ^ (i+1)<=u)) h;unfold bF
  split
  ·obtain ⟨x,y,z⟩:=tD u k (i+1) a
   exact ⟨X.ok_le x Mf,Mf,Mf⟩
  ·exact ⟨X.ok_le a Mf,Mg,Mg⟩
theorem gP (u:Int):∀ (k i:Nat) {n:Nat} {s:X.σ},X.Ok n s->X.Ok (n+2*k) (ck X.C u k i s).2/\i*2 ^ k<=(ck X.C u k i s).1/\(ck X.C u k i s).1<(i+1)*2 ^ k
 | 0,i,n,s,h=>⟨h,by simp [ck],by simp [ck]⟩
 | k+1,i,n,s,h=>by
  have a:=X.ok_flat (decide (u / (2:Int) ^ k % 2=1)) h;unfold ck;obtain ⟨x,y,z⟩:=gP u k (if (X.C.flat (decide (u / (2:Int) ^ k % 2=1)) s).1 then 2*i+1 else 2*i) a;refine ⟨X.ok_le x Mf,?_,?_⟩
  ·refine Lz ?_ y
   rw [Nat.pow_succ]
   split <;> (generalize 2 ^ k=q;simp only [Nat.mul_comm,Nat.mul_left_comm,Nat.add_mul,Nat.mul_add];omega)
  ·refine LN z ?_
   rw [Nat.pow_succ]
   split <;> (generalize 2 ^ k=q;simp only [Nat.mul_comm,Nat.mul_left_comm,Nat.add_mul,Nat.mul_add];omega)
theorem Aa {C:kC X.σ} {f:Nat->Nat} {v:Int} {k n:Nat} {s:X.σ} (h:(C.bit (f n) (decide ((n:Int)<v)) s).1=true):aW C f v (k+1) n s=aW C f v k (n+1) (C.bit (f n) (decide ((n:Int)<v)) s).2:=if_pos h
theorem nd {C:kC X.σ} {f:Nat->Nat} {v:Int} {k n:Nat} {s:X.σ} (h:(C.bit (f n) (decide ((n:Int)<v)) s).1=false):aW C f v (k+1) n s=(n,(C.bit (f n) (decide ((n:Int)<v)) s).2):=if_neg (by rw [h];simp)
theorem wP {C:kC X.σ} {u:Int} {k n:Nat} {s:X.σ} (h:(C.flat (decide ((2:Int) ^ (n+1)<=u)) s).1=true):bF C u (k+1) n s=bF C u k (n+1) (C.flat (decide ((2:Int) ^ (n+1)<=u)) s).2:=if_pos h
theorem wQ {C:kC X.σ} {u:Int} {k n:Nat} {s:X.σ} (h:(C.flat (decide ((2:Int) ^ (n+1)<=u)) s).1=false):bF C u (k+1) n s=(n,(C.flat (decide ((2:Int) ^ (n+1)<=u)) s).2):=if_neg (by rw [h];simp)
theorem Am {p:Prop} (h:p:=by
 go_at_call 163;refine (HB.out _ ?_ _ ?_).mono ?_
 ·first | rfl | exact bG _ _ | exact aY _ _ | (simp;done) | (simp;omega)
 ·first | rfl | omega
 rintro e w2 ⟨rfl,F2,NK,Nl⟩;have Po:=lh NK;have Qi:=lh (Hg.out.trans Nl);clear NK Nl HB;go_wp2_with fail;exact ⟨⟨c+1,F2,_,by have:=Oq.out;omega,Mm,Po,Qi,lh (by rw [Wq.out.2,Pm.out];exact (Aa X Hb.out).symm),lh (X.ok_le Tc.out Mf)⟩,by simp [intOf];have:=Oq.out;omega⟩):p:=h
theorem Di {F:List Nat} {w:World} {s:X.σ} {n:Nat} (h:X.At F w s) (v:Int) (ok:X.Ok n s) (hn:n<=800000000) :
  Calls Tryz.prog 161 #[.pointer (some ⟨R,0,none⟩),v] w (Es X F w (((kx X.C v s).1:Int),(kx X.C v s).2)):=by
 refine aN fun Q MM=>?_
 have HK:=lh h;have Nc:=lh ok;clear h ok;go_enter Tryz.func161,Tryz.ntmps161;go_wp2_with fail;go_loopw [5] (fun i wr=>∃ (c:Nat) (Fc:List Nat) (sc:X.σ),c<=3/\i=.int .i64 c/\Hid (X.At Fc wr sc)/\Hid (bw F w Fc wr)/\Hid (aW X.C (fun n=>min n 63) v (3-c) c sc=aW X.C (fun n=>min n 63) v 3 0 s)/\Hid (X.Ok (n+2*c) sc)) (fun i _=>3-(intOf i).toNat)
 case atStart=>exact ⟨0,_,_,Mf,rfl,HK,lh (bw.refl _ _),lh rfl,Nc⟩
 case round =>
  obtain ⟨c,Fc,sc,hc,rfl,Hk,Hg,He,Ho⟩:=hrel;by_cases MO:c<3
  ·have Py:(c:Int)<3:=Mf
   have Vq:(0:Int)<=(c:Int):=Mf;have Qa:(fun n=>min n 63) c<64:=by show min c 63<64;omega
   have HB:=lh (fun (b:Bool) (hb:b=decide ((c:Int)<v)) (y:Int) (hy:y=((min c 63:Nat):Int))=>(by subst hb;subst hy;exact X.bit ((fun n=>min n 63) c) _ Hk.out Ho.out Mf Qa:Calls Tryz.prog 163 #[.pointer (some ⟨R,0,none⟩),y,.bool b] wr _));have Tc:=lh (X.ok_bit ((fun n=>min n 63) c) (decide ((c:Int)<v)) Ho.out Qa);obtain ⟨k3,Qd⟩:∃ k3,3-c=k3+1:=⟨3-c-1,Mf⟩
   have Qe:3-(c+1)=k3:=Mf;have Wq:=lh (And.intro Qd Qe);have Oq:=lh MO;clear Qd Qe Qa;have Pm:Hid (aW X.C (fun n=>min n 63) v 3 0 s=aW X.C (fun n=>min n 63) v (k3+1) c sc):=lh (by rw [<- Wq.out.1,He.out]);cases hb:(X.C.bit ((fun n=>min n 63) c) (decide ((c:Int)<v)) sc).1 with
   | true =>
    rw [hb] at HB;have Hb:=lh hb;clear hb;go_wp2_with fail;exact Am
   | false =>
    rw [hb] at HB;have Hb:=lh hb;clear hb;go_wp2_with fail;go_at_call 163;refine (HB.out _ ?_ _ ?_).mono ?_
    ·first | rfl | exact bG _ _ | exact aY _ _ | (simp;done) | (simp;omega)
    ·first | rfl | omega
    rintro e w2 ⟨rfl,F2,NK,Nl⟩;have Po:=lh NK;have Qi:=lh (Hg.out.trans Nl);clear NK Nl HB;have Rs:Hid (aW X.C (fun n=>min n 63) v 3 0 s=(c,(X.C.bit ((fun n=>min n 63) c) (decide ((c:Int)<v)) sc).2)):=lh (Pm.out.trans (nd X Hb.out));go_wp2_with fail;refine MM.out _ _ ?_;unfold kx;rw [Rs.out];exact ⟨rfl,F2,Po.out,Qi.out⟩
  ·obtain rfl:c=3:=Mf
   have Py:¬ ((3:Nat):Int)<3:=Mf;have Rs:Hid (aW X.C (fun n=>min n 63) v 3 0 s=(3,sc)):=lh (He.out.symm.trans rfl);go_wp2_with fail;refine MM.out _ _ ?_;unfold kx;rw [Rs.out];exact ⟨rfl,Fc,Hk.out,Hg.out⟩
theorem vL {p:Prop} (h:p:=by
 go_wp2_with fail;go_at_call 163;refine (PU.out _ _ HK.out _ ?_).mono ?_
 ·first | rfl | exact bG _ _ | exact aY _ _ | (simp;done) | (simp [Hm2.out];done) | (simp;omega)
 rintro e w1 ⟨rfl,F1,Pr,OL⟩;have Zk:=lh Pr;have Hg1:=lh (OL);clear Pr OL;go_wp2_with fail;go_at_call 163;refine (Oj.out _ _ Zk.out _ ?_).mono ?_
 ·first | rfl | exact bG _ _ | exact aY _ _ | (simp;done) | (simp [Hm2.out];done) | (simp;omega)
 rintro e w2 ⟨rfl,F2,NK,Nl⟩;have Po:=lh NK;have Qi:=lh (Hg1.out.trans Nl);clear NK Nl;go_wp2_with fail;refine MM.out _ _ ?_;rw [HM.out];exact ⟨rfl,F2,Po.out,Qi.out⟩):p:=h
theorem Dj {F:List Nat} {w:World} {s:X.σ} {n:Nat} (h:X.At F w s) (v:Int) (ok:X.Ok n s) (hn:n<=800000000) :
  Calls Tryz.prog 104 #[.pointer (some ⟨R,0,none⟩),v] w (Es X F w (((bN X.C v s).1:Int),(bN X.C v s).2)):=by
 refine aN fun Q MM=>?_
 have HK:=lh h;have Nc:=lh ok;clear h ok;go_enter Tryz.func104,Tryz.ntmps104;go_upto_region 1 with (fail)
 go_cut [1] (fun s1 wx=>s1=.int .i64 (min (max v 0) 3)/\w=wx)
 case first =>
  go_wp2_with fail
  all_goals (go_meet;exact ⟨by congr 1;omega,rfl⟩)
 case rest =>
  obtain ⟨rfl,rfl⟩:=hcut;have HP:Hid (bN X.C v s=kg X.C (min (max v 0) 3) s):=lh rfl;rw [HP.out] at MM;have hm0:0<=min (max v 0) 3/\min (max v 0) 3<=3:=Mf;generalize min (max v 0) 3=m at *
  clear HP;have hm2:m.tmod 2=m % 2:=LX hm0.1;have Hm2:=lh hm2;clear hm0;have TR:=X.ok_bit 3 (decide (1<m)) Nc.out Mf;have PU:=lh (fun (wx:World) (Fx:List Nat) (hx:X.At Fx wx s) (b:Bool) (hb:b=decide (1<m))=>(by subst hb;exact X.bit 3 _ hx Nc.out Mf Mf:Calls Tryz.prog 163 #[.pointer (some ⟨R,0,none⟩),.int .i64 3,.bool b] wx _));have HM:Hid (kg X.C m s=if (X.C.bit 3 (decide (1<m)) s).1 then (if (X.C.bit 5 (decide (m % 2=1)) (X.C.bit 3 (decide (1<m)) s).2).1 then 3 else 2,(X.C.bit 5 (decide (m % 2=1)) (X.C.bit 3 (decide (1<m)) s).2).2) else (if (X.C.bit 4 (decide (m % 2=1)) (X.C.bit 3 (decide (1<m)) s).2).1 then 1 else 0,(X.C.bit 4 (decide (m % 2=1)) (X.C.bit 3 (decide (1<m)) s).2).2)):=lh rfl;generalize X.C.bit 3 (decide (1<m)) s=b1 at *
  obtain ⟨t1,s1⟩:=b1;simp only at TR PU HM;have Td:=lh TR;clear TR;cases t1 with
  | true =>
   have TS:=X.ok_bit 5 (decide (m % 2=1)) Td.out Mf;have Oj:=lh (fun (wx:World) (Fx:List Nat) (hx:X.At Fx wx s1) (b:Bool) (hb:b=decide (m % 2=1))=>(by subst hb;exact X.bit 5 _ hx Td.out Mf Mf:Calls Tryz.prog 163 #[.pointer (some ⟨R,0,none⟩),.int .i64 5,.bool b] wx _));generalize X.C.bit 5 (decide (m % 2=1)) s1=b2 at *
   obtain ⟨t2,s2⟩:=b2;simp only at Oj HM;clear TS;cases t2 with
   | true =>
    exact vL
   | false =>
    exact vL
  | false =>
   have TS:=X.ok_bit 4 (decide (m % 2=1)) Td.out Mf;have Oj:=lh (fun (wx:World) (Fx:List Nat) (hx:X.At Fx wx s1) (b:Bool) (hb:b=decide (m % 2=1))=>(by subst hb;exact X.bit 4 _ hx Td.out Mf Mf:Calls Tryz.prog 163 #[.pointer (some ⟨R,0,none⟩),.int .i64 4,.bool b] wx _));generalize X.C.bit 4 (decide (m % 2=1)) s1=b2 at *
   obtain ⟨t2,s2⟩:=b2;simp only at Oj HM;clear TS;cases t2 with
   | true =>
    exact vL
   | false =>
    exact vL
theorem Dk {F:List Nat} {w:World} {s:X.σ} {n:Nat} (h:X.At F w s) (v:Int) (ok:X.Ok n s) (hn:n<=800000000) :
  Calls Tryz.prog 103 #[.pointer (some ⟨R,0,none⟩),v] w (Es X F w ((bR X.C v s).1,(bR X.C v s).2)):=by
 refine aN fun Q MM=>?_
 have HK:=lh h;have Nc:=lh ok;clear h ok;go_enter Tryz.func103,Tryz.ntmps103;go_upto_region 1 with (fail)
 go_cut [1] (fun s1 wx=>s1=.int .i64 (min (max v (-15)) 15)/\w=wx)
 case first =>
  go_wp2_with fail
  all_goals (go_meet;exact ⟨by congr 1;omega,rfl⟩)
 case rest =>
  obtain ⟨rfl,rfl⟩:=hcut;have HP:Hid (bR X.C v s=fY X.C (min (max v (-15)) 15) s):=lh rfl;rw [HP.out] at MM;have hm0:-15<=min (max v (-15)) 15/\min (max v (-15)) 15<=15:=Mf;generalize min (max v (-15)) 15=m at *
  clear HP;have TR:=X.ok_bit 6 (decide (m≠0)) Nc.out Mf;have PU:=lh (fun (wx:World) (Fx:List Nat) (hx:X.At Fx wx s) (b:Bool) (hb:b=decide (m≠0))=>(by subst hb;exact X.bit 6 _ hx Nc.out Mf Mf:Calls Tryz.prog 163 #[.pointer (some ⟨R,0,none⟩),.int .i64 6,.bool b] wx _));have HM:Hid (fY X.C m s=if (X.C.bit 6 (decide (m≠0)) s).1 then fZ X.C m (X.C.flat (decide (m<0)) (X.C.bit 6 (decide (m≠0)) s).2).1 (X.C.flat (decide (m<0)) (X.C.bit 6 (decide (m≠0)) s).2).2 else (0,(X.C.bit 6 (decide (m≠0)) s).2)):=lh rfl;generalize X.C.bit 6 (decide (m≠0)) s=b1 at *
  obtain ⟨t1,s1⟩:=b1;simp only at TR PU HM;have Td:=lh TR;clear TR;cases t1 with
  | false =>
   go_wp2_with fail;go_at_call 163;refine (PU.out _ _ HK.out _ ?_).mono ?_
   ·first | rfl | exact bG _ _ | exact aY _ _ | (simp;done) | (simp;omega)
   rintro e w1 ⟨rfl,F1,Pr,OL⟩;have Zk:=lh Pr;have Hg1:=lh (OL);clear Pr OL;go_wp2_with fail;refine MM.out _ _ ?_;rw [HM.out];exact ⟨rfl,F1,Zk.out,Hg1.out⟩
  | true =>
   have TS:=X.ok_flat (decide (m<0)) Td.out;have Oj:=lh (fun (wx:World) (Fx:List Nat) (hx:X.At Fx wx s1) (b:Bool) (hb:b=decide (m<0))=>(by subst hb;exact X.flat _ hx Td.out Mf:Calls Tryz.prog 162 #[.pointer (some ⟨R,0,none⟩),.bool b] wx _));generalize X.C.flat (decide (m<0)) s1=b2 at *
   obtain ⟨t2,s2⟩:=b2;simp only at TS Oj HM;have Ok2:=lh TS;clear TS;go_wp2_with fail;go_at_call 163;refine (PU.out _ _ HK.out _ ?_).mono ?_
   ·first | rfl | exact bG _ _ | exact aY _ _ | (simp;done) | (simp;omega)
   rintro e w1 ⟨rfl,F1,Pr,OL⟩;have Zk:=lh Pr;have Hg1:=lh (OL);clear Pr OL;go_wp2_with fail;go_at_call 162;refine (Oj.out _ _ Zk.out _ ?_).mono ?_
   ·first | rfl | exact bG _ _ | exact aY _ _ | (simp;done) | (simp;omega)
   rintro e w2 ⟨rfl,F2,NK,Nl⟩;have Po:=lh NK;have Qi:=lh (Hg1.out.trans Nl);clear NK Nl;go_upto_region 5 with (fail)
   go_cut [6] (fun s6 wx=>s6=.int .i64 (max m (-m)-1)/\w2=wx)
   case first =>
    go_wp2_with fail
    all_goals (go_meet;exact ⟨by congr 1;omega,rfl⟩)
   case rest =>
    obtain ⟨rfl,rfl⟩:=hcut;have ZY:=Qi;have HV:Hid (fZ X.C m t2 s2=(dG t2 (aW X.C (fun n=>7+min n 6) (max m (-m)-1) 14 0 s2).1,(aW X.C (fun n=>7+min n 6) (max m (-m)-1) 14 0 s2).2)):=lh rfl;generalize max m (-m)-1=vv at *
    go_wp2_with fail;go_loopw [7] (fun i wr=>∃ (c:Nat) (Fc:List Nat) (sc:X.σ),c<=14/\i=.int .i64 c/\Hid (X.At Fc wr sc)/\Hid (bw F2 w2 Fc wr)/\Hid (aW X.C (fun n=>7+min n 6) vv (14-c) c sc=aW X.C (fun n=>7+min n 6) vv 14 0 s2)/\Hid (X.Ok ((n+2+2)+2*c) sc)) (fun i _=>14-(intOf i).toNat)
    case atStart=>exact ⟨0,_,_,Mf,rfl,Po,lh (bw.refl _ _),lh rfl,Ok2⟩
    case round =>
     obtain ⟨c,Fc,sc,hc,rfl,Hk,Hg,He,Ho⟩:=hrel;by_cases MO:c<14
     ·have Py:(c:Int)<14:=Mf
      have Vq:(0:Int)<=(c:Int):=Mf;have Qa:(fun n=>7+min n 6) c<64:=by show 7+min c 6<64;omega
      have HB:=lh (fun (b:Bool) (hb:b=decide ((c:Int)<vv)) (y:Int) (hy:y=((7+min c 6:Nat):Int))=>(by subst hb;subst hy;exact X.bit ((fun n=>7+min n 6) c) _ Hk.out Ho.out Mf Qa:Calls Tryz.prog 163 #[.pointer (some ⟨R,0,none⟩),y,.bool b] wr _));have Tc:=lh (X.ok_bit ((fun n=>7+min n 6) c) (decide ((c:Int)<vv)) Ho.out Qa);obtain ⟨k3,Qd⟩:∃ k3,14-c=k3+1:=⟨14-c-1,Mf⟩
      have Qe:14-(c+1)=k3:=Mf;have Wq:=lh (And.intro Qd Qe);have Oq:=lh MO;clear Qd Qe Qa;have Pm:Hid (aW X.C (fun n=>7+min n 6) vv 14 0 s2=aW X.C (fun n=>7+min n 6) vv (k3+1) c sc):=lh (by rw [<- Wq.out.1,He.out]);cases hb:(X.C.bit ((fun n=>7+min n 6) c) (decide ((c:Int)<vv)) sc).1 with
      | true =>
       rw [hb] at HB;have Hb:=lh hb;clear hb;go_wp2_with fail
       all_goals
        exact Am
      | false =>
       rw [hb] at HB;have Hb:=lh hb;clear hb;go_wp2_with fail
       all_goals
        go_at_call 163;refine (HB.out _ ?_ _ ?_).mono ?_
        ·first | rfl | exact bG _ _ | exact aY _ _ | (simp;done) | (simp;omega)
        ·first | rfl | omega
        rintro e w2 ⟨rfl,F2,NK,Nl⟩;have Po:=lh NK;have Qi:=lh (Hg.out.trans Nl);clear NK Nl HB;have Rs:Hid (aW X.C (fun n=>7+min n 6) vv 14 0 s2=(c,(X.C.bit ((fun n=>7+min n 6) c) (decide ((c:Int)<vv)) sc).2)):=lh (Pm.out.trans (nd X Hb.out));have HR:Hid (fY X.C m s=(dG t2 c,(X.C.bit ((fun n=>7+min n 6) c) (decide ((c:Int)<vv)) sc).2)):=lh (by rw [HM.out];show fZ X.C m t2 s2=_;rw [HV.out,Rs.out]);clear HM;cases t2 with
        | true =>
         go_wp2_with fail;refine MM.out _ _ ?_;rw [HR.out];exact ⟨rfl,F2,Po.out,(ZY.out.trans Qi.out)⟩
        | false =>
         go_wp2_with fail;refine MM.out _ _ ?_;rw [HR.out];exact ⟨rfl,F2,Po.out,(ZY.out.trans Qi.out)⟩
     ·obtain rfl:c=14:=Mf
      have Py:¬ ((14:Nat):Int)<14:=Mf;have Rs:Hid (aW X.C (fun n=>7+min n 6) vv 14 0 s2=(14,sc)):=lh (He.out.symm.trans rfl);have HR:Hid (fY X.C m s=(dG t2 14,sc)):=lh (by rw [HM.out];show fZ X.C m t2 s2=_;rw [HV.out,Rs.out]);clear HM;cases t2 with
      | true =>
       go_wp2_with fail;refine MM.out _ _ ?_;rw [HR.out];exact ⟨rfl,Fc,Hk.out,(ZY.out.trans Hg.out)⟩
      | false =>
       go_wp2_with fail;refine MM.out _ _ ?_;rw [HR.out];exact ⟨rfl,Fc,Hk.out,(ZY.out.trans Hg.out)⟩
theorem Bw {k:Nat} (h:k<=13):(2:Int) ^ k<=8192/\(0:Int)<=(2:Int) ^ k:=by
 rcases (by omega:k=0\/k=1\/k=2\/k=3\/k=4\/k=5\/k=6\/k=7\/k=8\/k=9\/k=10\/k=11\/k=12\/k=13) with rfl | rfl | rfl | rfl | rfl | rfl | rfl | rfl | rfl | rfl | rfl | rfl | rfl | rfl <;> decide
theorem GP {p:Prop} (h:p:=by
 rw [hb] at HB Ws;clear hb;go_wp2_with fail;go_at_call 162;refine (HB.out _ ?_).mono ?_
 ·(rw [bJ];exact aY _ _)
 rintro e w5 ⟨rfl,F5,NK,Nl⟩;have Po:=lh NK;have Qi:=lh (Hgd.out.trans Nl);clear NK Nl HB;go_wp2_with fail;exact ⟨⟨j,2*gn+1,F5,_,by have:=Hj.out;omega,Mm,Mm,Po,Qi,lh (by rw [<- Hed.out,Ws.out];rfl),lh (X.ok_le Tc.out (by have:=Hj.out;omega))⟩,by simp [intOf];try omega⟩):p:=h
theorem GR {p:Prop} (h:p:=by
 rw [hb] at HB Ws;clear hb;go_wp2_with fail;go_at_call 162;refine (HB.out _ ?_).mono ?_
 ·(rw [bJ];exact aY _ _)
 rintro e w5 ⟨rfl,F5,NK,Nl⟩;have Po:=lh NK;have Qi:=lh (Hgd.out.trans Nl);clear NK Nl HB;go_wp2_with fail;exact ⟨⟨j,2*gn,F5,_,by have:=Hj.out;omega,Mm,Mm,Po,Qi,lh (by rw [<- Hed.out,Ws.out];rfl),lh (X.ok_le Tc.out (by have:=Hj.out;omega))⟩,by simp [intOf];try omega⟩):p:=h
theorem GS {p:Prop} (h:p:=by
 have Xc:¬ ((0:Nat):Int)-1>=0:=Mf;have hgs:=Hgn.out;rw [Nat.pow_zero,Nat.mul_one] at hgs;have Jdh:Hid (cw X.C u s2=(gn,sd)):=lh (HT.out.trans Hed.out.symm);go_wp2_with fail;refine MM.out _ _ ?_;rw [HS.out,Jdh.out];exact ⟨by congr 2;try simp,Fd,Hkd.out,Hgd.out⟩):p:=h
theorem tL {F:List Nat} {w:World} {s:X.σ} {n:Nat} (h:X.At F w s) {base:Nat} (hb:base<=39) (v:Int) (hv:-100000<=v/\v<=100000) (ok:X.Ok n s) (hn:n<=800000000) :
  Calls Tryz.prog 166 #[.pointer (some ⟨R,0,none⟩),base,v] w (Es X F w (((cY X.C base v s).1:Int),(cY X.C base v s).2)):=by
 refine aN fun Q MM=>?_
 have HK:=lh h;have Nc:=lh ok;clear h ok;have hbi:(base:Int)<=39:=Mf;have hb0:(0:Int)<=(base:Int):=Mf;go_enter Tryz.func166,Tryz.ntmps166;go_wp2_with fail;go_loopw [7] (fun i wr=>∃ (c:Nat) (Fc:List Nat) (sc:X.σ),c<=14/\i=.int .i64 c/\Hid (X.At Fc wr sc)/\Hid (bw F w Fc wr)/\Hid (aW X.C (fun n=>base+17+min n 7) v (14-c) c sc=aW X.C (fun n=>base+17+min n 7) v 14 0 s)/\Hid (X.Ok (n+2*c) sc)) (fun i _=>14-(intOf i).toNat)
 case atStart=>exact ⟨0,_,_,Mf,rfl,HK,lh (bw.refl _ _),lh rfl,Nc⟩
 case round =>
  obtain ⟨c,Fc,sc,hc,rfl,Hk,Hg,He,Ho⟩:=hrel;by_cases MO:c<14
  ·have Py:(c:Int)<14:=Mf
   have Vq:(0:Int)<=(c:Int):=Mf;have Qa:(fun n=>base+17+min n 7) c<64:=by show base+17+min c 7<64;omega
   have HB:=lh (fun (b:Bool) (hb:b=decide ((c:Int)<v)) (y:Int) (hy:y=((base+17+min c 7:Nat):Int))=>(by subst hb;subst hy;exact X.bit ((fun n=>base+17+min n 7) c) _ Hk.out Ho.out Mf Qa:Calls Tryz.prog 163 #[.pointer (some ⟨R,0,none⟩),y,.bool b] wr _));have Tc:=lh (X.ok_bit ((fun n=>base+17+min n 7) c) (decide ((c:Int)<v)) Ho.out Qa);obtain ⟨k3,Qd⟩:∃ k3,14-c=k3+1:=⟨14-c-1,Mf⟩
   have Qe:14-(c+1)=k3:=Mf;have Wq:=lh (And.intro Qd Qe);have Oq:=lh MO;clear Qd Qe Qa;have Pm:Hid (aW X.C (fun n=>base+17+min n 7) v 14 0 s=aW X.C (fun n=>base+17+min n 7) v (k3+1) c sc):=lh (by rw [<- Wq.out.1,He.out]);cases hb:(X.C.bit ((fun n=>base+17+min n 7) c) (decide ((c:Int)<v)) sc).1 with
   | true =>
    rw [hb] at HB;have Hb:=lh hb;clear hb;go_wp2_with fail
    all_goals
     exact Am
   | false =>
    rw [hb] at HB;have Hb:=lh hb;clear hb;go_wp2_with fail
    all_goals
     go_at_call 163;refine (HB.out _ ?_ _ ?_).mono ?_
     ·first | rfl | exact bG _ _ | exact aY _ _ | (simp;done) | (simp;omega)
     ·first | rfl | omega
     rintro e w2 ⟨rfl,F2,NK,Nl⟩;have Po:=lh NK;have Qi:=lh (Hg.out.trans Nl);clear NK Nl HB;have Rs:Hid (aW X.C (fun n=>base+17+min n 7) v 14 0 s=(c,(X.C.bit ((fun n=>base+17+min n 7) c) (decide ((c:Int)<v)) sc).2)):=lh (Pm.out.trans (nd X Hb.out));have JdG:¬ c=14:=by have:=Oq.out;omega
     have HR:Hid (cY X.C base v s=(c,(X.C.bit ((fun n=>base+17+min n 7) c) (decide ((c:Int)<v)) sc).2)):=lh (by unfold cY;rw [Rs.out];exact if_neg JdG);clear JdG;go_wp2_with fail;refine MM.out _ _ ?_;rw [HR.out];exact ⟨rfl,F2,Po.out,Qi.out⟩
  ·obtain rfl:c=14:=Mf
   have Py:¬ ((14:Nat):Int)<14:=Mf;have Rs:Hid (aW X.C (fun n=>base+17+min n 7) v 14 0 s=(14,sc)):=lh (He.out.symm.trans rfl);obtain ⟨s2,NE⟩:∃ x,x=sc:=⟨_,rfl⟩
   have HS:Hid (cY X.C base v s=(13+(cw X.C (v-13) s2).1,(cw X.C (v-13) s2).2)):=lh (by unfold cY;rw [Rs.out,NE];exact if_pos rfl);rw [<- NE] at Hk;have HkA:=Hk;have ZY:=Hg;have HoA:Hid (X.Ok (n+28+2*0) s2):=lh (by rw [NE];exact X.ok_le Ho.out Mf);have hub:-100020<=v-13/\v-13<=100000:=Mf;have hu:IntKind.i64.wrap (v-13)=v-13:=Mi;clear He Ho Hk Hg NE Rs;generalize hug:v-13=u at *
   go_wp2_with fail;go_loopw [9] (fun i wr=>∃ (c:Nat) (Fc:List Nat) (sc:X.σ),c<=13/\i=.int .i64 c/\Hid (X.At Fc wr sc)/\Hid (bw F w Fc wr)/\Hid (bF X.C u (13-c) c sc=bF X.C u 13 0 s2)/\Hid (X.Ok (n+28+2*c) sc)) (fun i _=>13-(intOf i).toNat)
   case atStart=>exact ⟨0,_,_,Mf,rfl,HkA,ZY,lh rfl,HoA⟩
   case round =>
    obtain ⟨c,Fc,sc,hc,rfl,Hk,Hg,He,Ho⟩:=hrel;by_cases MO:c<13
    ·have Py:(c:Int)<13:=Mf
     have Vq:(0:Int)<=(c:Int):=Mf;have Uv:(2:Int) ^ (c+1)<=8192/\(0:Int)<=(2:Int) ^ (c+1):=Bw Mf;have Hsh:=lh Uv;clear Uv;have HB:=lh (fun (b:Bool) (hb:b=decide ((2:Int) ^ (c+1)<=u))=>(by subst hb;exact X.flat _ Hk.out Ho.out Mf:Calls Tryz.prog 162 #[.pointer (some ⟨R,0,none⟩),.bool b] wr _));have Tc:=lh (X.ok_flat (decide ((2:Int) ^ (c+1)<=u)) Ho.out);obtain ⟨k3,Qd⟩:∃ k3,13-c=k3+1:=⟨13-c-1,Mf⟩
     have Qe:13-(c+1)=k3:=Mf;have Wq:=lh (And.intro Qd Qe);have Oq:=lh MO;clear Qd Qe;have Pm:Hid (bF X.C u 13 0 s2=bF X.C u (k3+1) c sc):=lh (by rw [<- Wq.out.1,He.out]);cases hb:(X.C.flat (decide ((2:Int) ^ (c+1)<=u)) sc).1 with
     | true =>
      rw [hb] at HB;have Hb:=lh hb;clear hb;go_wp2_with fail;go_at_call 162;refine (HB.out _ ?_).mono ?_
      ·(rw [show wrap64 ((2:Int) ^ (c+1))=(2:Int) ^ (c+1) from by unfold wrap64;have:=Hsh.out;omega])
      rintro e w3 ⟨rfl,F3,NK,Nl⟩;have Po:=lh NK;have Qi:=lh (Hg.out.trans Nl);clear NK Nl HB;go_wp2_with fail;exact ⟨⟨c+1,F3,_,by have:=Oq.out;omega,Mm,Po,Qi,lh (by rw [Wq.out.2,Pm.out];exact (wP X Hb.out).symm),lh (X.ok_le Tc.out Mf)⟩,by simp [intOf];have:=Oq.out;omega⟩
     | false =>
      rw [hb] at HB;have Hb:=lh hb;clear hb;go_wp2_with fail;go_at_call 162;refine (HB.out _ ?_).mono ?_
      ·(rw [show wrap64 ((2:Int) ^ (c+1))=(2:Int) ^ (c+1) from by unfold wrap64;have:=Hsh.out;omega])
      rintro e w3 ⟨rfl,F3,NK,Nl⟩;have Po:=lh NK;have Qi:=lh (Hg.out.trans Nl);clear NK Nl HB;have Rs:Hid (bF X.C u 13 0 s2=(c,(X.C.flat (decide ((2:Int) ^ (c+1)<=u)) sc).2)):=lh (Pm.out.trans (wQ X Hb.out));obtain ⟨s3,Uc⟩:∃ x,x=(X.C.flat (decide ((2:Int) ^ (c+1)<=u)) sc).2:=⟨_,rfl⟩
      have HkC:Hid (X.At F3 _ s3):=lh (by rw [Uc];exact Po.out);have HoC:Hid (X.Ok (n+54) s3):=lh (by rw [Uc];exact (lh (X.ok_le Tc.out Mf)).out);rw [<- Uc] at Rs;have HT:Hid (cw X.C u s2=ck X.C u c 1 s3):=lh (by unfold cw;rw [Rs.out]);obtain ⟨z,hz⟩:∃ z:Nat,z=c:=⟨_,rfl⟩
      rw [<- hz] at HT;have Tp:z<=13:=Mf;have Oi:=lh (fun (j g:Nat) (sc:X.σ) (hx:X.Ok 0 sc->True)=>(gP X u j g (n:=0) (s:=sc)));clear Oi;have hzb:=gP X u z 1 HoC.out;have HZb:=lh (show (ck X.C u z 1 s3).1<16384 by have:=hzb.2.2;have h2:2 ^ z<=2 ^ 13:=Nat.pow_le_pow_right Mf Tp;omega);clear hzb Uc;go_wp2_with fail;go_loopw [10,11] (fun g i wr=>∃ (j gn:Nat) (Fc:List Nat) (sc:X.σ),j<=z/\i=.int .i64 ((j:Int)-1)/\g=.int .i64 gn/\Hid (X.At Fc wr sc)/\Hid (bw F w Fc wr)/\Hid (ck X.C u j gn sc=ck X.C u z 1 s3)/\Hid (X.Ok (n+54+2*(z-j)) sc)) (fun _ i _=>(intOf i+1).toNat)
      case atStart=>exact ⟨z,1,_,s3,Lm _,by first | rfl | (rw [hz];go_num) | (subst hz;go_num) | (subst hz;rfl),rfl,HkC,Qi,lh rfl,lh (X.ok_le HoC.out Mf)⟩
      case round =>
       obtain ⟨j,gn,Fd,sd,hj,rfl,rfl,Hkd,Hgd,Hed,Hod⟩:=hrel;have UY:=(gP X u j gn Hod.out).2.1;rw [Hed.out] at UY;have Hgn:=lh (LO UY HZb.out);clear UY;cases j with
       | zero =>
        exact GS
       | succ j =>
        have WB:((j+1:Nat):Int)-1=(j:Int):=Mf;rw [WB];have hjn:(0:Int)<=(j:Int):=Mf;have Jke:(j:Int)<13:=Mf;have hgs:gn<8192:=by have:=Hgn.out;rw [Nat.pow_succ] at this;have h1:1<=2 ^ j:=Nat.one_le_two_pow;have:=Nat.mul_le_mul_left gn (show 2<=2 ^ j*2 by omega);omega
        have HB:=lh (fun (b:Bool) (hb:b=decide (u / (2:Int) ^ j % 2=1))=>(by subst hb;exact X.flat _ Hkd.out Hod.out Mf:Calls Tryz.prog 162 #[.pointer (some ⟨R,0,none⟩),.bool b] wr _));have Tc:=lh (X.ok_flat (decide (u / (2:Int) ^ j % 2=1)) Hod.out);have Ws:Hid (ck X.C u (j+1) gn sd=ck X.C u j (if (X.C.flat (decide (u / (2:Int) ^ j % 2=1)) sd).1 then 2*gn+1 else 2*gn) (X.C.flat (decide (u / (2:Int) ^ j % 2=1)) sd).2):=lh rfl;have Hgs:=lh hgs;have Hj:=lh hj;clear WB hj;cases hb:(X.C.flat (decide (u / (2:Int) ^ j % 2=1)) sd).1 with
        | true =>
         exact GP
        | false =>
         exact GR
    ·obtain rfl:c=13:=Mf
     have Py:¬ ((13:Nat):Int)<13:=Mf;have Rs:Hid (bF X.C u 13 0 s2=(13,sc)):=lh (He.out.symm.trans rfl);obtain ⟨s3,Uc⟩:∃ x,x=sc:=⟨_,rfl⟩
     have HkC:Hid (X.At Fc _ s3):=lh (by rw [Uc];exact Hk.out);have HoC:Hid (X.Ok (n+54) s3):=lh (by rw [Uc];exact (lh (X.ok_le Ho.out Mf)).out);rw [<- Uc] at Rs;have HT:Hid (cw X.C u s2=ck X.C u 13 1 s3):=lh (by unfold cw;rw [Rs.out]);obtain ⟨z,hz⟩:∃ z:Nat,z=13:=⟨_,rfl⟩
     rw [<- hz] at HT;have Tp:z<=13:=Mf;have Oi:=lh (fun (j g:Nat) (sc:X.σ) (hx:X.Ok 0 sc->True)=>(gP X u j g (n:=0) (s:=sc)));clear Oi;have hzb:=gP X u z 1 HoC.out;have HZb:=lh (show (ck X.C u z 1 s3).1<16384 by have:=hzb.2.2;have h2:2 ^ z<=2 ^ 13:=Nat.pow_le_pow_right Mf Tp;omega);clear hzb Uc;go_wp2_with fail;go_loopw [10,11] (fun g i wr=>∃ (j gn:Nat) (Fc:List Nat) (sc:X.σ),j<=z/\i=.int .i64 ((j:Int)-1)/\g=.int .i64 gn/\Hid (X.At Fc wr sc)/\Hid (bw F w Fc wr)/\Hid (ck X.C u j gn sc=ck X.C u z 1 s3)/\Hid (X.Ok (n+54+2*(z-j)) sc)) (fun _ i _=>(intOf i+1).toNat)
     case atStart=>exact ⟨z,1,_,s3,Lm _,by first | rfl | (rw [hz];go_num) | (subst hz;go_num) | (subst hz;rfl),rfl,HkC,Hg,lh rfl,lh (X.ok_le HoC.out Mf)⟩
     case round =>
      obtain ⟨j,gn,Fd,sd,hj,rfl,rfl,Hkd,Hgd,Hed,Hod⟩:=hrel;have UY:=(gP X u j gn Hod.out).2.1;rw [Hed.out] at UY;have Hgn:=lh (LO UY HZb.out);clear UY;cases j with
      | zero =>
       exact GS
      | succ j =>
       have WB:((j+1:Nat):Int)-1=(j:Int):=Mf;rw [WB];have hjn:(0:Int)<=(j:Int):=Mf;have Jke:(j:Int)<13:=Mf;have hgs:gn<8192:=by have:=Hgn.out;rw [Nat.pow_succ] at this;have h1:1<=2 ^ j:=Nat.one_le_two_pow;have:=Nat.mul_le_mul_left gn (show 2<=2 ^ j*2 by omega);omega
       have HB:=lh (fun (b:Bool) (hb:b=decide (u / (2:Int) ^ j % 2=1))=>(by subst hb;exact X.flat _ Hkd.out Hod.out Mf:Calls Tryz.prog 162 #[.pointer (some ⟨R,0,none⟩),.bool b] wr _));have Tc:=lh (X.ok_flat (decide (u / (2:Int) ^ j % 2=1)) Hod.out);have Ws:Hid (ck X.C u (j+1) gn sd=ck X.C u j (if (X.C.flat (decide (u / (2:Int) ^ j % 2=1)) sd).1 then 2*gn+1 else 2*gn) (X.C.flat (decide (u / (2:Int) ^ j % 2=1)) sd).2):=lh rfl;have Hgs:=lh hgs;have Hj:=lh hj;clear WB hj;cases hb:(X.C.flat (decide (u / (2:Int) ^ j % 2=1)) sd).1 with
       | true =>
        exact GP
       | false =>
        exact GR
end
theorem vM {p:Prop} (h:p:=by
 have PG:=lh (fun (o:Obj)=>(show w.heap.size<=(wr.alloc o).heap.size by simp;omega));clear MX
 go_wp2_with (first
  | (at_builtin;refine aw rfl (.tmp 42) (.tmp 50) _ rfl EI (Wl.out.quiet (ae.new _ _)) rfl (Oa.out _) rfl Qj.out (PG.out _) (fun v1 w1 MN Nu=>?_);obtain ⟨x1,OW,OB,_⟩:=MN.ints.open;subst OB;simp only [Ln,List.length_singleton] at MN Nu |-;have Oy:=lh MN;have Od:=lh Nu;clear MN Nu)
  | fail)
 exact ⟨⟨j+1,Mf,Mm,by rw [HPJ.out,MS.out];have:=Oy.out;rw [PJ.out] at this;simpa [cJ] using this,Od.out.from_ Wk.out (PG.out _),(QL.out.q (ae.new _ _)).acc Od.out Wk.out⟩,Mk⟩):p:=h
theorem kZ {p:Prop} (h:p:=by
 go_wp2_with fail;exact ⟨⟨j+1,Mf,Mm,by rw [HPJ.out,MS.out,LA];exact Wl.out,Wk.out,QL.out⟩,Mk⟩):p:=h
theorem GU {p:Prop} (h:p:=by
 obtain rfl:j=k+1:=Mf;have hji:¬ ((k+1:Nat):Int)<=(k:Int):=Mf;go_wp2_with fail;exact ⟨⟨k+1,Mf,Mm,by rw [HP.out];exact Wl.out,Wk.out,QL.out⟩,Mk⟩):p:=h
theorem xo (w:World) :
  Calls Tryz.prog 165 #[.int .i64 4] w fun e w'=>∃ v',e=.returned v'/\Own .i64 3 w.heap.size w' v' (cJ (aC 4))/\ae [] w w':=by
 go_enter Tryz.func165,Tryz.ntmps165;go_wp2_with fail;go_loopw [3,4] (fun y s wr=>∃ k:Nat,k<=7/\s=.int .i64 k/\Own .i64 3 w.heap.size wr y (cJ ((List.range k).flatMap fun s=>(List.range (s+1)).flatMap (bq 4 s)))/\bB w.heap.size y/\ae [] w wr) (fun _ s _=>7-(intOf s).toNat)
 case atStart=>exact ⟨0,Mf,rfl,by simpa [cJ] using Own.nil _ _ _ _,bB.nil _,ae.refl _ _⟩
 case round =>
  obtain ⟨k,hk,rfl,MQ,Nx,hq⟩:=hrel;have Pw:=lh MQ;have Qv:=lh Nx;have HQ:=lh hq;clear MQ Nx hq;by_cases MO:k<7
  ·have Py:(k:Int)<=6:=Mf
   have NU:(0:Int)<=(k:Int):=Mf;have HP:=lh (show (List.range (k+1)).flatMap (fun s=>(List.range (s+1)).flatMap (bq 4 s))=(List.range k).flatMap (fun s=>(List.range (s+1)).flatMap (bq 4 s)) ++ (List.range (k+1)).flatMap (bq 4 k) from ej _ k);have OX:=lh (ir 4 k);generalize (List.range k).flatMap (fun s=>(List.range (s+1)).flatMap (bq 4 s))=PRE at *
   go_wp2_with fail;go_loopw [3,5] (fun y i wi=>∃ j:Nat,j<=k+1/\i=.int .i64 j/\Own .i64 3 w.heap.size wi y (cJ (PRE ++ (List.range j).flatMap (bq 4 k)))/\bB w.heap.size y/\ae [] w wi) (fun _ i _=>k+1-(intOf i).toNat)
   case atStart=>exact ⟨0,Mf,rfl,by simpa using Pw.out,Qv.out,HQ.out⟩
   case round =>
    obtain ⟨j,hj,rfl,MQ,Nx,hq⟩:=hrel;have Wl:=lh MQ;have Wk:=lh Nx;have QL:=lh hq;clear MQ Nx hq;by_cases YJ:j<k+1
    ·have hji:(j:Int)<=(k:Int):=Mf
     have WB:(0:Int)<=(j:Int):=Mf;have HPJ:=lh (show PRE ++ (List.range (j+1)).flatMap (bq 4 k)=PRE ++ (List.range j).flatMap (bq 4 k) ++ bq 4 k j by rw [List.range_succ,List.flatMap_append,LR];simp);have HLJ:=lh (show (PRE ++ (List.range j).flatMap (bq 4 k)).length<=10000 by have:=fq 4 k j;have:=OX.out;have h16:(k+1)*(k+1)<=16*16:=Nat.mul_le_mul Mf Mf;rw [Ln];omega);generalize PRE ++ (List.range j).flatMap (bq 4 k)=S0 at *
     have hzj:=QL.out.size;by_cases NG:k % 2=0
     ·have hpi:(k:Int) % 2=0:=Mf
      by_cases hx:k-j<4
      ·have Vi:(k:Int)-(j:Int)<4:=Mf
       by_cases hy:j<4
       ·have Vu:(k:Int)-((k:Int)-(j:Int))<4:=Mf
        have MS:Hid (bq 4 k j=[(k-j)*4+j]):=lh (by unfold bq;rw [if_pos NG,if_pos NG,if_pos ⟨hy,hx⟩]);have PJ:Hid ((((k:Int)-(j:Int))*4+(k:Int)-((k:Int)-(j:Int)):Int)=((((k-j)*4+j:Nat)):Int)):=lh Mf;have MX:∀ x∈[(((k:Int)-(j:Int))*4+(k:Int)-((k:Int)-(j:Int)):Int)],InK .i64 x:=by simp only [mSg,forall_eq,InK];omega
        have Oa:=lh (fun (W:World)=>bg (k:=.i64) (w:=W) (t:=3) (l:=[(((k:Int)-(j:Int))*4+(k:Int)-((k:Int)-(j:Int)):Int)]) rfl Mo MX 1 rfl rfl);have Qj:=lh (show ((cJ S0).length+[(((k:Int)-(j:Int))*4+(k:Int)-((k:Int)-(j:Int)):Int)].length)*8<=140737488355328 by have:=HLJ.out;simp [cJ];omega);exact vM
       ·have Vu:¬ (k:Int)-((k:Int)-(j:Int))<4:=Mf
        have MS:Hid (bq 4 k j=[]):=lh (by unfold bq;rw [if_pos NG,if_pos NG,if_neg Mf]);exact kZ
      ·have Vi:¬ (k:Int)-(j:Int)<4:=Mf
       have MS:Hid (bq 4 k j=[]):=lh (by unfold bq;rw [if_pos NG,if_pos NG,if_neg Mf]);exact kZ
     ·have hpi:¬ (k:Int) % 2=0:=Mf
      by_cases hx:j<4
      ·have Vi:(j:Int)<4:=Mf
       by_cases hy:k-j<4
       ·have Vu:(k:Int)-(j:Int)<4:=Mf
        have MS:Hid (bq 4 k j=[j*4+(k-j)]):=lh (by unfold bq;rw [if_neg NG,if_neg NG,if_pos ⟨hy,hx⟩]);have PJ:Hid (((j:Int)*4+(k:Int)-(j:Int):Int)=(((j*4+(k-j):Nat)):Int)):=lh Mf;have MX:∀ x∈[((j:Int)*4+(k:Int)-(j:Int):Int)],InK .i64 x:=by simp only [mSg,forall_eq,InK];omega
        have Oa:=lh (fun (W:World)=>bg (k:=.i64) (w:=W) (t:=3) (l:=[((j:Int)*4+(k:Int)-(j:Int):Int)]) rfl Mo MX 1 rfl rfl);have Qj:=lh (show ((cJ S0).length+[((j:Int)*4+(k:Int)-(j:Int):Int)].length)*8<=140737488355328 by have:=HLJ.out;simp [cJ];omega);exact vM
       ·have Vu:¬ (k:Int)-(j:Int)<4:=Mf
        have MS:Hid (bq 4 k j=[]):=lh (by unfold bq;rw [if_neg NG,if_neg NG,if_neg Mf]);exact kZ
      ·have Vi:¬ (j:Int)<4:=Mf
       have MS:Hid (bq 4 k j=[]):=lh (by unfold bq;rw [if_neg NG,if_neg NG,if_neg Mf]);exact kZ
    ·exact GU
  ·obtain rfl:k=7:=Mf
   have Py:¬ ((7:Nat):Int)<=6:=Mf;go_wp2_with fail;go_ret;exact ⟨_,rfl,Pw.out,HQ.out⟩
theorem xp (w:World) :
  Calls Tryz.prog 165 #[.int .i64 8] w fun e w'=>∃ v',e=.returned v'/\Own .i64 3 w.heap.size w' v' (cJ (aC 8))/\ae [] w w':=by
 go_enter Tryz.func165,Tryz.ntmps165;go_wp2_with fail;go_loopw [3,4] (fun y s wr=>∃ k:Nat,k<=15/\s=.int .i64 k/\Own .i64 3 w.heap.size wr y (cJ ((List.range k).flatMap fun s=>(List.range (s+1)).flatMap (bq 8 s)))/\bB w.heap.size y/\ae [] w wr) (fun _ s _=>15-(intOf s).toNat)
 case atStart=>exact ⟨0,Mf,rfl,by simpa [cJ] using Own.nil _ _ _ _,bB.nil _,ae.refl _ _⟩
 case round =>
  obtain ⟨k,hk,rfl,MQ,Nx,hq⟩:=hrel;have Pw:=lh MQ;have Qv:=lh Nx;have HQ:=lh hq;clear MQ Nx hq;by_cases MO:k<15
  ·have Py:(k:Int)<=14:=Mf
   have NU:(0:Int)<=(k:Int):=Mf;have HP:=lh (show (List.range (k+1)).flatMap (fun s=>(List.range (s+1)).flatMap (bq 8 s))=(List.range k).flatMap (fun s=>(List.range (s+1)).flatMap (bq 8 s)) ++ (List.range (k+1)).flatMap (bq 8 k) from ej _ k);have OX:=lh (ir 8 k);generalize (List.range k).flatMap (fun s=>(List.range (s+1)).flatMap (bq 8 s))=PRE at *
   go_wp2_with fail;go_loopw [3,5] (fun y i wi=>∃ j:Nat,j<=k+1/\i=.int .i64 j/\Own .i64 3 w.heap.size wi y (cJ (PRE ++ (List.range j).flatMap (bq 8 k)))/\bB w.heap.size y/\ae [] w wi) (fun _ i _=>k+1-(intOf i).toNat)
   case atStart=>exact ⟨0,Mf,rfl,by simpa using Pw.out,Qv.out,HQ.out⟩
   case round =>
    obtain ⟨j,hj,rfl,MQ,Nx,hq⟩:=hrel;have Wl:=lh MQ;have Wk:=lh Nx;have QL:=lh hq;clear MQ Nx hq;by_cases YJ:j<k+1
    ·have hji:(j:Int)<=(k:Int):=Mf
     have WB:(0:Int)<=(j:Int):=Mf;have HPJ:=lh (show PRE ++ (List.range (j+1)).flatMap (bq 8 k)=PRE ++ (List.range j).flatMap (bq 8 k) ++ bq 8 k j by rw [List.range_succ,List.flatMap_append,LR];simp);have HLJ:=lh (show (PRE ++ (List.range j).flatMap (bq 8 k)).length<=10000 by have:=fq 8 k j;have:=OX.out;have h16:(k+1)*(k+1)<=16*16:=Nat.mul_le_mul Mf Mf;rw [Ln];omega);generalize PRE ++ (List.range j).flatMap (bq 8 k)=S0 at *
     have hzj:=QL.out.size;by_cases NG:k % 2=0
     ·have hpi:(k:Int) % 2=0:=Mf
      by_cases hx:k-j<8
      ·have Vi:(k:Int)-(j:Int)<8:=Mf
       by_cases hy:j<8
       ·have Vu:(k:Int)-((k:Int)-(j:Int))<8:=Mf
        have MS:Hid (bq 8 k j=[(k-j)*8+j]):=lh (by unfold bq;rw [if_pos NG,if_pos NG,if_pos ⟨hy,hx⟩]);have PJ:Hid ((((k:Int)-(j:Int))*8+(k:Int)-((k:Int)-(j:Int)):Int)=((((k-j)*8+j:Nat)):Int)):=lh Mf;have MX:∀ x∈[(((k:Int)-(j:Int))*8+(k:Int)-((k:Int)-(j:Int)):Int)],InK .i64 x:=by simp only [mSg,forall_eq,InK];omega
        have Oa:=lh (fun (W:World)=>bg (k:=.i64) (w:=W) (t:=3) (l:=[(((k:Int)-(j:Int))*8+(k:Int)-((k:Int)-(j:Int)):Int)]) rfl Mo MX 1 rfl rfl);have Qj:=lh (show ((cJ S0).length+[(((k:Int)-(j:Int))*8+(k:Int)-((k:Int)-(j:Int)):Int)].length)*8<=140737488355328 by have:=HLJ.out;simp [cJ];omega);exact vM
       ·have Vu:¬ (k:Int)-((k:Int)-(j:Int))<8:=Mf
        have MS:Hid (bq 8 k j=[]):=lh (by unfold bq;rw [if_pos NG,if_pos NG,if_neg Mf]);exact kZ
      ·have Vi:¬ (k:Int)-(j:Int)<8:=Mf
       have MS:Hid (bq 8 k j=[]):=lh (by unfold bq;rw [if_pos NG,if_pos NG,if_neg Mf]);exact kZ
     ·have hpi:¬ (k:Int) % 2=0:=Mf
      by_cases hx:j<8
      ·have Vi:(j:Int)<8:=Mf
       by_cases hy:k-j<8
       ·have Vu:(k:Int)-(j:Int)<8:=Mf
        have MS:Hid (bq 8 k j=[j*8+(k-j)]):=lh (by unfold bq;rw [if_neg NG,if_neg NG,if_pos ⟨hy,hx⟩]);have PJ:Hid (((j:Int)*8+(k:Int)-(j:Int):Int)=(((j*8+(k-j):Nat)):Int)):=lh Mf;have MX:∀ x∈[((j:Int)*8+(k:Int)-(j:Int):Int)],InK .i64 x:=by simp only [mSg,forall_eq,InK];omega
        have Oa:=lh (fun (W:World)=>bg (k:=.i64) (w:=W) (t:=3) (l:=[((j:Int)*8+(k:Int)-(j:Int):Int)]) rfl Mo MX 1 rfl rfl);have Qj:=lh (show ((cJ S0).length+[((j:Int)*8+(k:Int)-(j:Int):Int)].length)*8<=140737488355328 by have:=HLJ.out;simp [cJ];omega);exact vM
       ·have Vu:¬ (k:Int)-(j:Int)<8:=Mf
        have MS:Hid (bq 8 k j=[]):=lh (by unfold bq;rw [if_neg NG,if_neg NG,if_neg Mf]);exact kZ
      ·have Vi:¬ (j:Int)<8:=Mf
       have MS:Hid (bq 8 k j=[]):=lh (by unfold bq;rw [if_neg NG,if_neg NG,if_neg Mf]);exact kZ
    ·exact GU
  ·obtain rfl:k=15:=Mf
   have Py:¬ ((15:Nat):Int)<=14:=Mf;go_wp2_with fail;go_ret;exact ⟨_,rfl,Pw.out,HQ.out⟩
theorem zM (w:World):Calls Tryz.prog 164 #[.int .i64 4] w fun e w'=>e=.returned (.int .i64 14)/\w=w':=by
 go_enter Tryz.func164,Tryz.ntmps164;go_wp2;go_ret;exact ⟨rfl,rfl⟩
theorem zN (w:World):Calls Tryz.prog 164 #[.int .i64 8] w fun e w'=>e=.returned (.int .i64 39)/\w=w':=by
 go_enter Tryz.func164,Tryz.ntmps164;go_wp2;go_ret;exact ⟨rfl,rfl⟩
theorem pY (l:List Int):aX l 0 0=cB l:=by
 unfold aX cB
 induction l with
 | nil=>rfl
 | cons x l ih =>
  simp only [List.all_cons];rw [ih]
  congr 1
  by_cases h:x=0
  ·subst h;rfl
  ·have h2:(x == 0)=false:=by simp [h]
   rw [h2];simp only [Bool.and_eq_false_iff,Bool.not_eq_false',Bool.and_eq_true,decide_eq_true_eq,Bool.or_eq_true,Bool.not_eq_true',Bool.or_eq_false_iff,decide_eq_false_iff_not];omega
theorem oY {lo hi:Nat} {v:Value} {l:List Int} {w:World} (h:ah .i64 lo hi w v l):Calls Tryz.prog 92 #[v] w fun e w'=>e=.returned (.bool (cB l))/\w=w':=by
 obtain ⟨a,cap,hv,-⟩:=h.open;have HW:=lh (bS 0 0 h);subst hv;clear h;go_enter Tryz.func92,Tryz.ntmps92;go_wp2_with fail;go_at_call 61;refine HW.out.mono ?_;rintro e w1 ⟨rfl,rfl⟩;go_wp2_with fail;go_ret;exact ⟨by rw [show Value.bool (cB l)=Value.bool (aX l 0 0) by rw [pY]];first | rfl | (rw [pY];rfl),rfl⟩
theorem rq {lo hi lo' hi':Nat} {v u:Value} {l:List Int} {o:List Nat} {w:World} (h:ah .i64 lo hi w v l) (g:ah .i64 lo' hi' w u (cJ o)) (ho:∀ a∈o,a<l.length) (i:Nat) (hi:i<=o.length) :
  Calls Tryz.prog 167 #[v,u,i] w fun e w'=>e=.returned (.bool (bO l (o.drop i)))/\w=w':=by
 obtain ⟨a,cap,rfl,Sj,YL,Pd,MZ⟩:=h.open;obtain ⟨b,VT,rfl,QZ,hm2,hbt,TH⟩:=g.open;have Tr:(cJ o).length=o.length:=by simp [cJ]
 rw [Tr] at hbt TH QZ |-
 have Qn:(o.length:Int)<=9223372036854775807:=by unfold maxLen at hm2;omega
 have Sp:=lh Pd;have NX:=lh MZ;have Hbt:=lh hbt;have Jji:=lh TH;have Ho:=lh ho;have Hi:=lh hi;clear h g Pd MZ hbt TH ho Tr Sj YL QZ hm2;go_enter Tryz.func167,Tryz.ntmps167;go_wp2_with fail;go_loopw [7] (fun s wr=>∃ k:Nat,k<=o.length/\s=.int .i64 k/\Hid (bO l (o.drop k)=bO l (o.drop i))/\w=wr) (fun s _=>o.length-(intOf s).toNat)
 case atStart=>exact ⟨i,Hi.out,rfl,lh rfl,rfl⟩
 case round =>
  obtain ⟨k,hk,rfl,He,rfl⟩:=hrel;by_cases MO:k<o.length
  ·have Ny:(k:Int)<(o.length:Int):=Mf
   have NU:(0:Int)<=(k:Int):=Mf;obtain ⟨c,hc⟩:∃ c,o.getD k 0=c:=⟨_,rfl⟩
   have hcl:c<l.length:=Ho.out c (by rw [<- hc];simp [MO]);obtain ⟨bb,bo,rfl,_,_⟩:=Hbt.out k MO;have c1:=Jji.out bb bo rfl k MO;have hnk:(cJ o).getD k 0=(c:Int):=by rw [<- hc];simp [cJ,MO]
   rw [hnk] at c1;obtain ⟨ab,ao,rfl,_,_⟩:=Sp.out c hcl;have c0:=NX.out ab ao rfl c hcl;have hci:(c:Int)<(l.length:Int):=Mf;have Vq:(0:Int)<=(c:Int):=Mf;have Hd:Hid (bO l (o.drop k)=((l.getD c 0 == 0) && bO l (o.drop (k+1)))):=lh (by
    rw [LC MO];have:o[k]=c:=by rw [<- hc];simp [MO]
    rw [this];rfl)
   have Oq:=lh MO;generalize l.getD c 0=x at *
   clear hnk hc MO;by_cases hx:x=0
   ·subst hx
    go_wp2_with fail;exact ⟨⟨k+1,by have:=Oq.out;omega,Mm,lh (by rw [<- He.out,Hd.out];simp),by first | rfl | trivial⟩,by simp [intOf];have:=Oq.out;omega⟩
   ·have hxb:(x == 0)=false:=by rw [beq_eq_false_iff_ne];exact hx
    go_wp2_with fail;go_ret;exact ⟨by rw [<- He.out,Hd.out,hxb];rfl,rfl⟩
  ·obtain rfl:k=o.length:=Mf
   have Ny:¬ ((o.length:Nat):Int)<(o.length:Int):=Mf;go_wp2_with fail;go_ret;exact ⟨by rw [<- He.out,List.drop_eq_nil_of_le (Lm _)];rfl,rfl⟩
section
variable {σ:Type} {C:kC σ} {base last a i:Nat} {l out:List Int} {rest:List Nat} {m m1 m2 m3:σ} {x:Int} {b:Bool}
theorem nT (hi:i<last) (hB:C.bit (base+1+min i 7) (decide (l.getD a 0≠0)) m=(false,m1)):aF C base last l (a :: rest) i out m=aF C base last l rest (i+1) out m1:=by
 rw [aF,if_pos hi,hB];exact if_neg Mg
theorem qi (hi:i<last) (hB:C.bit (base+1+min i 7) (decide (l.getD a 0≠0)) m=(true,m1)) (hL:aV C base (l.getD a 0) m1=(x,m2)) (hx:x < -16320\/16320<x):aF C base last l (a :: rest) i out m=(.error ⟨[(jJ,(i:Int))],3⟩,m2):=by
 rw [aF,if_pos hi,hB];simp only [hL,if_true,if_pos hx]
theorem nR (hi:i<last) (hB:C.bit (base+1+min i 7) (decide (l.getD a 0≠0)) m=(true,m1)) (hL:aV C base (l.getD a 0) m1=(x,m2)) (hx:¬ (x < -16320\/16320<x)) (h9:C.bit (base+9+min i 7) (bO l rest) m2=(true,m3)):aF C base last l (a :: rest) i out m=(.ok (out.set a x),m3):=by
 rw [aF,if_pos hi,hB];simp only [hL,if_true,if_neg hx,h9]
theorem nS (hi:i<last) (hB:C.bit (base+1+min i 7) (decide (l.getD a 0≠0)) m=(true,m1)) (hL:aV C base (l.getD a 0) m1=(x,m2)) (hx:¬ (x < -16320\/16320<x)) (h9:C.bit (base+9+min i 7) (bO l rest) m2=(false,m3)):aF C base last l (a :: rest) i out m=aF C base last l rest (i+1) (out.set a x) m3:=by
 rw [aF,if_pos hi,hB];simp only [hL,if_true,if_neg hx,h9];exact if_neg Mg
theorem nQ (hi:¬ i<last) (hL:aV C base (l.getD a 0) m=(x,m2)) (hx:x < -16320\/16320<x):aF C base last l (a :: rest) i out m=(.error ⟨[(jJ,(i:Int))],3⟩,m2):=by
 rw [aF,if_neg hi];simp only [hL,if_pos hx]
theorem lD (hi:¬ i<last) (hL:aV C base (l.getD a 0) m=(x,m2)) (hx:¬ (x < -16320\/16320<x)):aF C base last l (a :: rest) i out m=aF C base last l rest (i+1) (out.set a x) m2:=by
 rw [aF,if_neg hi];simp only [hL,if_neg hx]
theorem tT {v:Int} {neg:Bool} {z:Nat} (hf:C.flat (decide (v<0)) m=(neg,m1)) (hs:cY C base (max v (-v)-1) m1=(z,m2)):aV C base v m=(dG neg z,m2):=by
 unfold aV;rw [hf];simp only [hs]
end
theorem jF (l:List Nat) (i:Nat):(cJ l).getD i 0=((l.getD i 0:Nat):Int):=by
 unfold cJ;rw [Le,Le,LG];cases l[i]? <;> rfl
theorem sD {l:List Int} (h:cu l):aX l (-16320) 16320=true:=by
 unfold aX;rw [List.all_eq_true];intro x hx;have:=h x hx;simp;omega
structure cC (g:Nat) (F:List Nat) (W:World) (Fc:List Nat) (w:World):Prop where
 only:ae (g :: F) W w
 new:∀ x∈Fc,x∈F\/W.heap.size<=x
section
variable {g:Nat} {F Fc F':List Nat} {W w w':World}
theorem cC.went (h:cC g F W Fc w) (k:bw Fc w F' w'):cC g F W F' w' :=
 ⟨h.only.trans k.1 (fun x hx _=>hx) (fun x hx hl=>by rcases h.new x hx with a | a;exact Lx _ a;omega),fun x hx=>(k.2 x hx).elim (h.new x) (fun a=>.inr (Lz h.only.size a))⟩
theorem cC.store (h:cC g F W Fc w) (k:ae [g] w w'):cC g F W Fc w':=⟨h.only.trans k (fun x hx _=>hx) (fun x hx _=>by rw [mSg] at hx;rw [hx];exact List.mem_cons_self ..),h.new⟩
theorem cC.quiet (h:cC g F W Fc w) (k:ae [] w w'):cC g F W Fc w':=⟨h.only.trans k (fun x hx _=>hx) Mg,h.new⟩
theorem cC.apart (h:cC g F W Fc w) (hg:g<W.heap.size) (hF:g∉F):g∉Fc:=fun hx=>(h.new g hx).elim hF (fun a=>Mf)
theorem cC.end {w0:World} {e:Nat} (hq:ae [] w0 W) (h:cC g F W Fc w) (o:ae [e] w w') (hg:w0.heap.size<=g) (he:w0.heap.size<=e):bw F w0 Fc w' :=
 ⟨(hq.trans h.only (U:=F) Mg (fun x hx hl=>by rcases List.mem_cons.1 hx with rfl | a;omega;exact a)).trans o (fun x hx _=>hx) (fun x hx hl=>Mr),fun x hx=>(h.new x hx).imp_right (fun a=>Lz hq.size a)⟩
end
def ks {R:Nat} (X:KC R) (F:List Nat) (w:World) (r:Except Err (List Int)×X.σ) (e:Ending) (w':World):Prop :=
 ∃ F',X.At F' w' r.2/\bw F w F' w'/\match r.1 with
  | .ok o=>∃ v',e=.returned (.tuple #[v',.agg #[(),JEu]])/\Own .i64 3 w.heap.size w' v' o/\∀ g,v'.ownBlock=some g->g∉F'
  | .error er=>∃ sv,e=.returned (.tuple #[JEu,.agg #[er.code,sv]])/\cT 2 w.heap.size w'.heap.size w' sv er.path.length (flat er.path)
theorem yB {R:Nat} (X:KC R) {base:Nat} (hb:base<=39) (v:Int) {n:Nat} {s:X.σ} (h:X.Ok n s):X.Ok (n+80) (cY X.C base v s).2/\(cY X.C base v s).1<=16400:=by
 obtain ⟨a,b,c⟩:=xK X (f:=fun n=>base+17+min n 7) (fun i=>Mf) v 14 0 h;unfold cY
 split
 ·obtain ⟨p,q,r⟩:=tD X (v-13) 13 0 a
  obtain ⟨x,y,z⟩:=gP X (v-13) (bF X.C (v-13) 13 0 (aW X.C (fun n=>base+17+min n 7) v 14 0 s).2).1 1 p;have h2:2 ^ (bF X.C (v-13) 13 0 (aW X.C (fun n=>base+17+min n 7) v 14 0 s).2).1<=2 ^ 13:=Nat.pow_le_pow_right Mf Mf;exact ⟨X.ok_le x Mf,by show 13+(cw X.C (v-13) _).1<=_;unfold cw;omega⟩
 ·exact ⟨X.ok_le a Mf,Mf⟩
end Go.Proofs.YthcafdfdglfabaaGreatDoor
