/- Joined texts: DCod, DRQt, DRk13, DRkN, DRkO, DRkC, DRkM. Conditions: each part names its own. -/
import Derived.Test.YtmgbbgffkakcaaaGreatDoorT1
import Derived.Test.YtmgbbgffkakcaaaGreatDoorK1
import Derived.Test.YtmgbbgffkakcaaaGreatDoorR1
import Derived.Test.YtmgbbgffkakcaaaGreatDoorK7
import Derived.Test.YtmgbbgffkakcaaaGreatDoorS7
import Derived.Test.YtmgbbgffkakcaaaGreatDoorC4
import Derived.Test.YtmgbbgffkakcaaaGreatDoorK4
import Derived.Test.YtmgbbgffkakcaaaGreatDoorS1
import Derived.Test.YtmgbbgffkakcaaaGreatDoorK5
import Derived.Deep.DeepCutAuto
import Derived.Test.YtmgbbgffkakcaaaGreatDoorS2
import Derived.Test.YtmgbbgffkakcaaaGreatDoorC3
import Derived.Test.YtmgbbgffkakcaaaGreatDoorK2
import Derived.Test.YtmgbbgffkakcaaaGreatDoorK6
namespace Go.Proofs.YtmgbbgffkakcaaaGreatDoor
open Go.RowKit
set_option linter.unusedVariables false
set_option linter.unusedSimpArgs false
set_option maxRecDepth 100000
set_option maxHeartbeats 16000000
/-- a coder: a bit by a context, a flat bit; the bit asked for is what a writer writes -/
structure CodO (σ:Type) where
 bit:Nat→Bool→σ→Bool×σ
 flat:Bool→σ→Bool×σ
section
variable {σ:Type} (C:CodO σ)
/-- how many ones stand ahead of a zero, at most k: asked is whether v is more than what was counted -/
def onesG (f:Nat→Nat) (v:Int):Nat→Nat→σ→Nat×σ
 | 0,n,s=>(n,s)
 | k+1,n,s=>if (C.bit (f n) (decide ((n:Int)<v)) s).1 then onesG f v k (n+1) (C.bit (f n) (decide ((n:Int)<v)) s).2 else (n,(C.bit (f n) (decide ((n:Int)<v)) s).2)
def kindG (v:Int) (s:σ):Nat×σ:=onesG C (fun n=>min n 63) v 3 0 s
/-- a mode that is asked, within its bounds -/
def modeG2 (m:Int) (s:σ):Nat×σ :=
 if (C.bit 3 (decide (1<m)) s).1 then (if (C.bit 5 (decide (m % 2=1)) (C.bit 3 (decide (1<m)) s).2).1 then 3 else 2,(C.bit 5 (decide (m % 2=1)) (C.bit 3 (decide (1<m)) s).2).2)
 else (if (C.bit 4 (decide (m % 2=1)) (C.bit 3 (decide (1<m)) s).2).1 then 1 else 0,(C.bit 4 (decide (m % 2=1)) (C.bit 3 (decide (1<m)) s).2).2)
def modeG (v:Int) (s:σ):Nat×σ:=modeG2 C (min (max v 0) 3) s
def partG3 (v:Int) (b:Bool) (s:σ):Int×σ:=(signD b (onesG C (fun n=>7+min n 6) (max v (-v)-1) 14 0 s).1,(onesG C (fun n=>7+min n 6) (max v (-v)-1) 14 0 s).2)
def partG2 (v:Int) (s:σ):Int×σ :=
 if (C.bit 6 (decide (v≠0)) s).1 then partG3 C v (C.flat (decide (v<0)) (C.bit 6 (decide (v≠0)) s).2).1 (C.flat (decide (v<0)) (C.bit 6 (decide (v≠0)) s).2).2 else (0,(C.bit 6 (decide (v≠0)) s).2)
def partG (v:Int) (s:σ):Int×σ:=partG2 C (min (max v (-15)) 15) s
def flatsG (u:Int):Nat→Nat→σ→Nat×σ
 | 0,n,s=>(n,s)
 | k+1,n,s=>if (C.flat (decide ((2:Int) ^ (n+1)≤u)) s).1 then flatsG u k (n+1) (C.flat (decide ((2:Int) ^ (n+1)≤u)) s).2 else (n,(C.flat (decide ((2:Int) ^ (n+1)≤u)) s).2)
def bitsG (u:Int):Nat→Nat→σ→Nat×σ
 | 0,n,s=>(n,s)
 | k+1,n,s=>bitsG u k (if (C.flat (decide (u / (2:Int) ^ k % 2=1)) s).1 then 2*n+1 else 2*n) (C.flat (decide (u / (2:Int) ^ k % 2=1)) s).2
def greatG (u:Int) (s:σ):Nat×σ:=bitsG C u (flatsG C u 13 0 s).1 1 (flatsG C u 13 0 s).2
def sizeG (base:Nat) (v:Int) (s:σ):Nat×σ :=
 if (onesG C (fun n=>base+17+min n 7) v 14 0 s).1=14 then (13+(greatG C (v-13) (onesG C (fun n=>base+17+min n 7) v 14 0 s).2).1,(greatG C (v-13) (onesG C (fun n=>base+17+min n 7) v 14 0 s).2).2)
 else onesG C (fun n=>base+17+min n 7) v 14 0 s
def levelG (base:Nat) (v:Int) (s:σ):Int×σ:=(signD (C.flat (decide (v<0)) s).1 (sizeG C base (max v (-v)-1) (C.flat (decide (v<0)) s).2).1,(sizeG C base (max v (-v)-1) (C.flat (decide (v<0)) s).2).2)
/-- are the levels at these places all 0? -/
def zerosAt (l:List Int) (o:List Nat):Bool:=o.all fun a=>l.getD a 0 == 0
/-- levels, told in their order from the i-th on -/
def coefGoG (base last:Nat) (l:List Int):List Nat→Nat→List Int→σ→Except Err (List Int)×σ
 | [],i,out,m=>(.ok out,m)
 | a :: rest,i,out,m =>
  if i<last then
   if (C.bit (base+1+min i 7) (decide (l.getD a 0≠0)) m).1 then
    if (levelG C base (l.getD a 0) (C.bit (base+1+min i 7) (decide (l.getD a 0≠0)) m).2).1 < -16320∨16320<(levelG C base (l.getD a 0) (C.bit (base+1+min i 7) (decide (l.getD a 0≠0)) m).2).1 then (.error ⟨[(sCoef,(i:Int))],3⟩,(levelG C base (l.getD a 0) (C.bit (base+1+min i 7) (decide (l.getD a 0≠0)) m).2).2)
    else if (C.bit (base+9+min i 7) (zerosAt l rest) (levelG C base (l.getD a 0) (C.bit (base+1+min i 7) (decide (l.getD a 0≠0)) m).2).2).1 then (.ok (out.set a (levelG C base (l.getD a 0) (C.bit (base+1+min i 7) (decide (l.getD a 0≠0)) m).2).1),(C.bit (base+9+min i 7) (zerosAt l rest) (levelG C base (l.getD a 0) (C.bit (base+1+min i 7) (decide (l.getD a 0≠0)) m).2).2).2)
    else coefGoG base last l rest (i+1) (out.set a (levelG C base (l.getD a 0) (C.bit (base+1+min i 7) (decide (l.getD a 0≠0)) m).2).1) (C.bit (base+9+min i 7) (zerosAt l rest) (levelG C base (l.getD a 0) (C.bit (base+1+min i 7) (decide (l.getD a 0≠0)) m).2).2).2
   else coefGoG base last l rest (i+1) out (C.bit (base+1+min i 7) (decide (l.getD a 0≠0)) m).2
  else
   if (levelG C base (l.getD a 0) m).1 < -16320∨16320<(levelG C base (l.getD a 0) m).1 then (.error ⟨[(sCoef,(i:Int))],3⟩,(levelG C base (l.getD a 0) m).2)
   else coefGoG base last l rest (i+1) (out.set a (levelG C base (l.getD a 0) m).1) (levelG C base (l.getD a 0) m).2
def zeroB (l:List Int):Bool:=l.all (· == 0)
def coefG (side:Nat) (l:List Int) (m:σ):Except Err (List Int)×σ :=
 if (C.bit (baseD side) (!zeroB l) m).1 then coefGoG C (baseD side) (side*side-1) l (orderD side) 0 (List.replicate (side*side) 0) (C.bit (baseD side) (!zeroB l) m).2
 else (.ok (List.replicate (side*side) 0),(C.bit (baseD side) (!zeroB l) m).2)
/-- a small square's four parts, from the i-th on: k are left; qm, ql: what is asked -/
def smallGoG (qm:List Int) (ql:List (List Int)):Nat→List Int→List (List Int)→σ→Except Err (List Int×List (List Int))×σ
 | 0,ms,ls,m=>(.ok (ms,ls),m)
 | k+1,ms,ls,m =>
  match (coefG C 4 (ql.getD ls.length []) (modeG C (qm.getD ms.length 0) m).2).1 with
  | .error e=>(.error e,(coefG C 4 (ql.getD ls.length []) (modeG C (qm.getD ms.length 0) m).2).2)
  | .ok l=>smallGoG qm ql k (ms ++ [((modeG C (qm.getD ms.length 0) m).1:Int)]) (ls ++ [l]) (coefG C 4 (ql.getD ls.length []) (modeG C (qm.getD ms.length 0) m).2).2
/-- a square that is asked of a coder: its kind and its mode any numbers -/
structure AskD where
 kind:Int
 mode:Int
 modes:List Int
 vx:Int
 vy:Int
 large:List Int
 small:List (List Int)
def kindKG (key:Bool) (k:Int) (m:σ):Nat×σ:=if key then (if (C.flat (decide (k=3)) m).1 then 3 else 2,(C.flat (decide (k=3)) m).2) else kindG C k m
def partsG (q:AskD) (k:Nat) (m:σ):Except Err SqD×σ :=
 if k=3 then
  match (smallGoG C q.modes q.small 4 [] [] m).1 with
  | .error e=>(.error e,(smallGoG C q.modes q.small 4 [] [] m).2)
  | .ok x=>(.ok ⟨3,0,x.1,0,0,[],x.2⟩,(smallGoG C q.modes q.small 4 [] [] m).2)
 else if k=0 then (.ok sq0,m)
 else if k=1 then
  match (coefG C 8 q.large (partG C q.vy (partG C q.vx m).2).2).1 with
  | .error e=>(.error e,(coefG C 8 q.large (partG C q.vy (partG C q.vx m).2).2).2)
  | .ok l=>(.ok ⟨1,0,[0,0,0,0],(partG C q.vx m).1,(partG C q.vy (partG C q.vx m).2).1,l,[[],[],[],[]]⟩,(coefG C 8 q.large (partG C q.vy (partG C q.vx m).2).2).2)
 else
  match (coefG C 8 q.large (modeG C q.mode m).2).1 with
  | .error e=>(.error e,(coefG C 8 q.large (modeG C q.mode m).2).2)
  | .ok l=>(.ok ⟨2,(modeG C q.mode m).1,[0,0,0,0],0,0,l,[[],[],[],[]]⟩,(coefG C 8 q.large (modeG C q.mode m).2).2)
/-- a square, told by a coder -/
def squareG (key:Bool) (q:AskD) (m:σ):Except Err SqD×σ :=
 match (partsG C q (kindKG C key q.kind m).1 (kindKG C key q.kind m).2).1 with
 | .error e=>(.error (inD sSyntax (kindKG C key q.kind m).1 e),(partsG C q (kindKG C key q.kind m).1 (kindKG C key q.kind m).2).2)
 | .ok s=>(.ok s,(partsG C q (kindKG C key q.kind m).1 (kindKG C key q.kind m).2).2)
end
/-! ### the one that reads -/
def rdC:CodO Mod:=⟨fun c _ m=>bitD c m,fun _ m=>flatD m⟩
theorem onesG_rd (f:Nat→Nat) (v:Int):∀ (k n:Nat) (m:Mod),onesG rdC f v k n m=onesD f k n m
 | 0,n,m=>rfl
 | k+1,n,m=>by
  show (if (bitD (f n) m).1 then onesG rdC f v k (n+1) (bitD (f n) m).2 else _)=_
  rw [onesG_rd f v k]
  rfl
theorem flatsG_rd (u:Int):∀ (k n:Nat) (m:Mod),flatsG rdC u k n m=flatsD k n m
 | 0,n,m=>rfl
 | k+1,n,m=>by
  show (if (flatD m).1 then flatsG rdC u k (n+1) (flatD m).2 else _)=_
  rw [flatsG_rd u k]
  rfl
theorem bitsG_rd (u:Int):∀ (k n:Nat) (m:Mod),bitsG rdC u k n m=bitsD k n m
 | 0,n,m=>rfl
 | k+1,n,m=>bitsG_rd u k _ _
theorem kindG_rd (v:Int) (m:Mod):kindG rdC v m=kindD m:=onesG_rd _ _ _ _ _
theorem modeG_rd (v:Int) (m:Mod):modeG rdC v m=modeD m:=rfl
theorem partG_rd (v:Int) (m:Mod):partG rdC v m=partD m:=by
 unfold partG partG2 partG3 partD
 rw [onesG_rd]
 rfl
theorem greatG_rd (u:Int) (m:Mod):greatG rdC u m=greatD m:=by
 unfold greatG greatD
 rw [flatsG_rd,bitsG_rd]
theorem sizeG_rd (base:Nat) (v:Int) (m:Mod):sizeG rdC base v m=sizeD base m:=by
 unfold sizeG sizeD
 rw [onesG_rd,greatG_rd]
theorem levelG_rd (base:Nat) (v:Int) (m:Mod):levelG rdC base v m=levelD base m:=by
 unfold levelG levelD
 rw [sizeG_rd]
 rfl
theorem coefGoG_rd (base last:Nat) (l:List Int):∀ (o:List Nat) (i:Nat) (out:List Int) (m:Mod),coefGoG rdC base last l o i out m=coefGo base last o i out m
 | [],i,out,m=>rfl
 | a :: rest,i,out,m=>by
  unfold coefGoG coefGo
  simp only [levelG_rd,coefGoG_rd base last l rest]
  rfl
theorem coefG_rd (side:Nat) (l:List Int) (m:Mod):coefG rdC side l m=coefD side m:=by
 unfold coefG coefD
 rw [coefGoG_rd]
 rfl
theorem smallGoG_rd (qm:List Int) (ql:List (List Int)):∀ (k:Nat) (ms:List Int) (ls:List (List Int)) (m:Mod),smallGoG rdC qm ql k ms ls m=smallGo k ms ls m
 | 0,ms,ls,m=>rfl
 | k+1,ms,ls,m=>by
  unfold smallGoG smallGo
  simp only [coefG_rd,modeG_rd,smallGoG_rd qm ql k]
  rfl
theorem kindKG_rd (key:Bool) (k:Int) (m:Mod):kindKG rdC key k m=kindK key m:=by
 unfold kindKG kindK
 rw [kindG_rd]
 rfl
theorem partsG_rd (q:AskD) (k:Nat) (m:Mod):partsG rdC q k m=partsD k m:=by
 unfold partsG partsD
 simp only [smallGoG_rd,coefG_rd,modeG_rd,partG_rd]
 rfl
theorem squareG_rd (key:Bool) (q:AskD) (m:Mod):squareG rdC key q m=squareD key m:=by
 unfold squareG squareD
 simp only [kindKG_rd,partsG_rd]
 rfl
theorem row2_set {w:World} {g:Nat} {a b x y:Value} {t:TypeId} (h:w.heap[g]?=some (.cells #[a,b] t (0,0))) :
  ((w.setCell ⟨g,0,none⟩ x).setCell ⟨g,1,none⟩ y).heap[g]?=some (.cells #[x,y] t (0,0))∧Only [g] w ((w.setCell ⟨g,0,none⟩ x).setCell ⟨g,1,none⟩ y):=by
 have h1:=heap_setCell_same w g 0 _ _ x h
 have h2:=heap_setCell_same _ g 1 _ _ y h1
 exact ⟨h2,((Only.refl _ _).setCell (by simp) _).setCell (by simp) _⟩
theorem results_tmp_cell {P:Program} {fn:Func} {p q:Tmp} {ty:TypeId} (h:fn.results=#[.tmp q,.cell p ty]) (tmps:Array Value) (w:World) (g:Nat) (t:TypeId) (cs:Array Value) (fr:Nat×Nat) (d:TypeDesc) (v:Value)
  (hp:tmps.getD p undef=.pointer (some ⟨g,0,none⟩)) (hq:tmps.getD q undef=v) (hg:w.heap[g]?=some (.cells cs t fr))
  (hu:P.underlying ty=some d) (hd:(match d with | .struct _ | .array _ _=>true | _=>false)=true) (hi:(P.info? ty).map (·.size)=some cs.size) :
  (results fn tmps).run P w=.ok (.tuple #[v,.agg cs]) w:=by
 have hp':tmps[p]?.getD undef=.pointer (some ⟨g,0,none⟩):=by simpa using hp
 have hq':tmps[q]?.getD undef=v:=by simpa using hq
 simp [results,h,hp',hq',asAddr,run_loadVar_row w g t ty cs fr d hg hu hd hi]
theorem err_info (cs:Array Value) (h:cs.size=2):(Tryz.prog.info? 39).map (·.size)=some cs.size:=by rw [h];kernel_rfl
theorem steps_cell (n:Nat) (hn:n≤15):stepsV[n]?=some (.int .i64 (stepD n)):=by
 rcases upto15 hn with rfl | rfl | rfl | rfl | rfl | rfl | rfl | rfl | rfl | rfl | rfl | rfl | rfl | rfl | rfl | rfl <;> rfl
section
theorem kok_any (c:Int) (x:Value) (w:World):Calls Tryz.prog 46 #[.agg #[.int .i64 c,x]] w fun e w'=>e=.returned (.bool (c == 0))∧Only [] w w':=by
 have HQ:=lh (Only.new w (.cells #[.int .i64 c,x] 39))
 go_enter Tryz.func46,Tryz.ntmps46
 go_wp2
 go_ret
 exact ⟨rfl,HQ.out⟩
theorem kstep_any (n:Nat) (hn:n≤15) (w:World):Calls Tryz.prog 199 #[.int .i64 n] w fun e w'=>(e=.returned (.tuple #[.int .i64 (stepD n),.agg #[.int .i64 0,.slice none 0 0]])∧Only [] w w'):=by
 refine hidQ fun Q HPost=>?_
 have h0:¬ (n:Int)<0:=by omega
 have h1:¬ (15:Int)<n:=by omega
 have h2:(0:Int)≤n:=by omega
 have h3:(n:Int)<16:=by omega
 have hg:=steps_cell n hn
 unfold stepsV at hg
 have hq1:=Only.new w (.cells #[.int .i64 0,.slice none 0 0] 39)
 have HR1:Hid ((w.alloc (.cells #[.int .i64 0,.slice none 0 0] 39)).heap[w.heap.size]?=some (.cells #[.int .i64 0,.slice none 0 0] 39 (0,0))):=lh (heap_alloc_new w _)
 have HQ1:=lh hq1
 clear hq1 hn
 generalize stepD n=st at *
 go_enter Tryz.func199,Tryz.ntmps199
 go_wp2_with fail
 have hr2:=(Only.new (w.alloc (.cells #[.int .i64 0,.slice none 0 0] 39)) (.cells stepsV 3)).row HR1.out
 exact bodyPost_ret (v:=.tuple #[.int .i64 st,.agg #[.int .i64 0,.slice none 0 0]]) (results_tmp_cell Tryz.results199 _ _ w.heap.size _ _ _ _ _ rfl rfl hr2 Tryz.underlying39 rfl (err_info _ rfl)) rfl (HPost.out _ _ ⟨rfl,HQ1.out.q (Only.new _ _)⟩)
theorem kvalue_any (v:Int) (n:Nat) (hn:n≤15) (hv:-16320≤v∧v≤16320) (w:World):Calls Tryz.prog 207 #[.int .i64 v,.int .i64 n] w fun e w'=>(e=.returned (.tuple #[.int .i64 (v*stepD n),.agg #[.int .i64 0,.slice none 0 0]])∧Only [] w w'):=by
 refine hidQ fun Q HPost=>?_
 have h0:¬ v < -16320:=by omega
 have h1:¬ (16320:Int)<v:=by omega
 have hs:=stepD_in hn
 have hw:InK .i64 (v*stepD n):=by have:=value_in hv hs;simp only [InK];omega
 have hwm:IntKind.i64.wrap (v*stepD n)=v*stepD n:=by have:=value_in hv hs;rw [IntKind.wrap_i64];omega
 have hq1:=Only.new w (.cells #[.int .i64 0,.slice none 0 0] 39)
 have HR1:Hid ((w.alloc (.cells #[.int .i64 0,.slice none 0 0] 39)).heap[w.heap.size]?=some (.cells #[.int .i64 0,.slice none 0 0] 39 (0,0))):=lh (heap_alloc_new w _)
 have HQ1:=lh hq1
 have HS:=lh (fun W=>kstep_any n hn W)
 clear hq1 hn hs
 generalize stepD n=st at *
 go_enter Tryz.func207,Tryz.ntmps207
 go_wp2_with fail
 have Hz1:Hid ((w.alloc (.cells #[.int .i64 0,.slice none 0 0] 39)).heap.size=w.heap.size+1):=lh (by simp)
 generalize hW1:World.alloc w _=W1 at *
 clear hW1
 go_at_call 199
 refine (HS.out W1).mono ?_
 rintro e w2 ⟨rfl,hq2⟩
 have hq3:=hq2.q (Only.new w2 (.cells #[.int .i64 0,.slice none 0 0] 39))
 have HR2:Hid ((w2.alloc (.cells #[.int .i64 0,.slice none 0 0] 39)).heap[w2.heap.size]?=some (.cells #[.int .i64 0,.slice none 0 0] 39 (0,0))):=lh (heap_alloc_new w2 _)
 have HR1:=lh (hq3.row HR1.out)
 have HQ3:=lh (HQ1.out.q hq3)
 have Hne:Hid (¬ w2.heap.size=w.heap.size):=lh (by have:=hq2.size;have:=Hz1.out;omega)
 clear hq2 hq3
 go_wp2_with fail
 generalize hW3:World.alloc w2 _=W3 at *
 clear hW3
 go_at_call 46
 refine (kok_any _ _ _).mono ?_
 rintro e w4 ⟨rfl,hq4⟩
 have HQ4:=lh (HQ3.out.q hq4)
 have HR24:=lh (hq4.row HR2.out)
 have HR14:=lh (hq4.row HR1.out)
 obtain ⟨e0,e1,-⟩:=row2 HR24.out
 obtain ⟨z0,z1,y0,y1,-⟩:=row2 HR14.out
 clear hq4
 go_wp2_with fail
 obtain ⟨hrow,hon⟩:=row2_set (x:=.int .i64 0) (y:=.slice none 0 0) HR14.out
 have hne:=Hne.out
 have hall:=(HQ4.out.trans hon (U:=[]) (by simp) (fun g hg hlt=>by rw [mSg] at hg;omega))
 refine wp_region_held_drew (S:=(fun w'=>w'.cell? ⟨w2.heap.size,0,none⟩=some (.int .i64 0)∧w'.cell? ⟨w2.heap.size,1,none⟩=some (.slice none 0 0))) (by kernel_rfl) ?_ (fun hHeld=>?_)
 ·exact ⟨e0,e1⟩
 refine tk 0 25 ?_
 refine tk 1 26 ?_
 refine tk 2 27 ?_
 refine tk 3 28 ?_
 refine tk 4 4 ?_
 refine rdy (rdn 5 (fun K hK=>?_) .nil)
 go_simp
 refine hK.out _ _ ?_ (fun hHeld=>?_)
 ·exact ⟨hon.cell e0 (by rw [mSg];exact hne),hon.cell e1 (by rw [mSg];exact hne)⟩
 clear hK K
 try simp only [Act.put,List.setIfInBounds_toArray,List.set_cons_zero,List.set_cons_succ]
 refine wpAnyH_done (by kernel_rfl) ?_ _
 go_wp2_with fail
 exact bodyPost_ret (v:=.tuple #[.int .i64 (v*st),.agg #[.int .i64 0,.slice none 0 0]]) (results_tmp_cell Tryz.results207 _ _ w.heap.size _ _ _ _ _ rfl rfl hrow Tryz.underlying39 rfl (err_info _ rfl)) rfl (HPost.out _ _ ⟨rfl,hall.drew⟩)
theorem kvalues_any {lo hi:Nat} {v:Value} {l:List Int} {w:World} (h:Ints .i64 lo hi w v l) (hl:l.length≤64) (hlev:LevOk l) (n:Nat) (hn:n≤15):Calls Tryz.prog 170 #[v,.int .i64 n] w fun e w'=>((∃ v',e=.returned (.tuple #[v',.agg #[.int .i64 0,.slice none 0 0]])∧Own .i64 3 w.heap.size w' v' (valuesD l n))∧Only [] w w'):=by
 refine hidQ fun Q HPost=>?_
 obtain ⟨la,lcap,rfl,-,-,hat,hcell⟩:=h.open
 have Hat:=lh hat
 have Hcell:=lh hcell
 have hs:=stepD_in hn
 have hq1:=Only.new w (.cells #[.int .i64 0,.slice none 0 0] 39)
 have HR1:Hid ((w.alloc (.cells #[.int .i64 0,.slice none 0 0] 39)).heap[w.heap.size]?=some (.cells #[.int .i64 0,.slice none 0 0] 39 (0,0))):=lh (heap_alloc_new w _)
 have Hz1:Hid ((w.alloc (.cells #[.int .i64 0,.slice none 0 0] 39)).heap.size=w.heap.size+1):=lh (by simp)
 have HQ1:=lh hq1
 have HS:=lh (fun W=>kstep_any n hn W)
 have HV:=lh (fun (x:Int) (hx:-16320≤x∧x≤16320) (W:World)=>kvalue_any x n hn hx W)
 have HD:Hid (valuesD l n=l.map fun v=>v*stepD n):=lh rfl
 have Hlev:=lh hlev
 clear h hat hcell hq1 hn hlev
 generalize valuesD l n=VD at *
 generalize stepD n=st at *
 go_enter Tryz.func170,Tryz.ntmps170
 go_wp2_with fail
 generalize hW1:World.alloc w _=W1 at *
 clear hW1
 go_at_call 199
 refine (HS.out W1).mono ?_
 rintro e w2 ⟨rfl,hq2⟩
 have hq3:=hq2.q (Only.new w2 (.cells #[.int .i64 0,.slice none 0 0] 39))
 have HR3:Hid ((w2.alloc (.cells #[.int .i64 0,.slice none 0 0] 39)).heap[w2.heap.size]?=some (.cells #[.int .i64 0,.slice none 0 0] 39 (0,0))):=lh (heap_alloc_new w2 _)
 have HE3:=lh (hq3.row HR1.out)
 have HQ3:=lh (HQ1.out.q hq3)
 have Hz3:Hid (w.heap.size<w2.heap.size∧(w2.alloc (.cells #[.int .i64 0,.slice none 0 0] 39)).heap.size=w2.heap.size+1):=lh ⟨by have:=hq2.size;have:=Hz1.out;omega,by simp⟩
 clear hq2 hq3 HQ1 HR1 Hz1
 go_wp2_with fail
 generalize hW3:World.alloc w2 _=W3 at *
 clear hW3
 generalize w2.heap.size=B at *
 go_loopw [9,8,10,11] (fun i y _ _ wr=>∃ k:Nat,k≤l.length∧i=.int .i64 k∧Hid (Own .i64 3 W3.heap.size wr y ((l.take k).map fun v=>v*st))∧Hid (From W3.heap.size y)∧Hid (Only [] w wr)∧Hid (W3.heap.size≤wr.heap.size)∧Hid (wr.heap[B]?=some (.cells #[.int .i64 0,.slice none 0 0] 39 (0,0)))∧Hid (wr.heap[w.heap.size]?=some (.cells #[.int .i64 0,.slice none 0 0] 39 (0,0)))) (fun i _ _ _ _=>l.length-(intOf i).toNat)
 case atStart=>exact ⟨0,by omega,rfl,lh (Own.nil _ _ _ _),lh (From.nil _),HQ3,lh (Nat.le_refl _),HR3,HE3⟩
 case round =>
  obtain ⟨k,hk,rfl,HOk,HFk,HQk,HZk,HBk,HEk⟩:=hrel
  obtain ⟨e0,e1,-⟩:=row2 HBk.out
  by_cases hlt:k<l.length
  ·have hki:(k:Int)<(l.length:Int):=by omega
   have hk0:(0:Int)≤(k:Int):=by omega
   obtain ⟨b,off,rfl,_,_⟩:=Hat.out k hlt
   have hx:-16320≤l.getD k 0∧l.getD k 0≤16320:=Hlev.out _ (by rw [List.getD_eq_getElem?_getD,List.getElem?_eq_getElem hlt];exact List.getElem_mem _)
   have Htake:Hid ((l.take (k+1)).map (fun v=>v*st)=(l.take k).map (fun v=>v*st) ++ [l.getD k 0*st]):=lh (by
    rw [List.take_succ_eq_append_getElem hlt,List.map_append,List.getD_eq_getElem?_getD,List.getElem?_eq_getElem hlt];rfl)
   have Hc:=lh (Hcell.out b off rfl k hlt)
   generalize l.getD k 0=x at *
   have hxs:=value_in hx hs
   have hin:∀ y∈[x*st],InK .i64 y:=by simp only [mSg,forall_eq,InK];omega
   have hsrc:=lh (fun (W:World)=>ints_newG (k:=.i64) (w:=W) (t:=3) (l:=[x*st]) rfl (by simp [maxLen]) hin 1 rfl rfl)
   have hby:=lh (show (((l.take k).map fun v=>v*st).length+[x*st].length)*8≤140737488355328 by simp;omega)
   have Hlen:=lh (show (((l.take k).map fun v=>v*st) ++ [x*st]).length=k+1 by simp;omega)
   obtain ⟨ra,rcap,rfl,-⟩:=HOk.out.ints.open
   have hlk:((l.take k).map fun v=>v*st).length=k:=by simp;omega
   rw [hlk] at HOk HFk ⊢
   have Hx:=lh hx
   clear hin hlk hx hxs
   go_wp2_with fail
   go_at_call 46
   refine (kok_any _ _ _).mono ?_
   rintro e w4 ⟨rfl,hq4⟩
   have hc:=(HQk.out.q hq4).cell Hc.out (by simp)
   have Hq4:=lh hq4
   clear hq4 e0 e1
   go_wp2_with fail
   go_at_call 207
   refine (HV.out x Hx.out _).mono ?_
   rintro e w5 ⟨rfl,hq5⟩
   have hq45:=Hq4.out.q hq5
   have HQ5:=lh (HQk.out.q hq45)
   have HO5:=lh (HOk.out.quiet hq45)
   have hn5:=(Only.new w5 (.cells #[.int .i64 0,.slice none 0 0] 39)).q (Only.new _ (.cells #[.int .i64 (x*st)] 3))
   have HB5:=lh ((hq45.q hn5).row HBk.out)
   have HE5:=lh ((hq45.q hn5).row HEk.out)
   have H11:=lh ((Only.new (w5.alloc (.cells #[.int .i64 0,.slice none 0 0] 39)) (.cells #[.int .i64 (x*st)] 3)).row (heap_alloc_new w5 (.cells #[.int .i64 0,.slice none 0 0] 39)))
   have Hnb:Hid (¬ w5.heap.size∈(Value.slice ra k rcap).ownBlock.toList):=lh (fun hm=>by have:=(HO5.out.at w5.heap.size (by simpa using hm)).2;omega)
   have HBlt:Hid (B<W3.heap.size):=lh (by have:=Hz3.out;omega)
   have HElt:Hid (w.heap.size<W3.heap.size):=lh (by have:=Hz3.out;omega)
   have HN5:=lh hn5
   have hba:=lh (show W3.heap.size≤((w5.alloc (.cells #[.int .i64 0,.slice none 0 0] 39)).alloc (.cells #[.int .i64 (x*st)] 3)).heap.size by have:=HZk.out;have:=hq45.size;have:=hn5.size;omega)
   have hsrc5:=hsrc.out (w5.alloc (.cells #[.int .i64 0,.slice none 0 0] 39))
   rw [World.size_alloc] at hsrc5
   have Hsrc5:=lh hsrc5
   clear hq5 hq45 hc hn5 hsrc5
   go_wp2_with (first
    | (at_builtin;refine wpList_append_ints rfl (.tmp 36) (.tmp 38) _ rfl EI (HO5.out.quiet ((Only.new w5 (.cells #[.int .i64 0,.slice none 0 0] 39)).q (Only.new _ _))) rfl Hsrc5.out rfl hby.out hba.out (fun v1 w6 hown1 ho1=>?_);obtain ⟨x1,x1cap,hx1,_⟩:=hown1.ints.open;subst hx1;rw [Hlen.out] at hown1 ho1 ⊢;have HO1:=lh hown1;have HA1:=lh ho1;have hr11:=ho1.only.rowAt H11.out Hnb.out;have hr7:=ho1.row HFk.out HB5.out HBlt.out;have hre:=ho1.row HFk.out HE5.out HElt.out;have HB6:=lh hr7;have HE6:=lh hre;obtain ⟨q0,q1,-⟩:=row2 hr11;obtain ⟨n0,n1,m0,m1,-⟩:=row2 hr7;clear hown1 ho1 hr11 hr7 hre)
    | fail)
   obtain ⟨hrow,hon⟩:=row2_set (x:=.int .i64 0) (y:=.slice none 0 0) HB6.out
   have hfr:=HA1.out.from_ HFk.out hba.out
   have hz6:=HA1.out.only.size
   refine ⟨⟨k+1,by omega,by go_num,lh ?_,lh hfr,lh ?_,lh ?_,lh hrow,lh (hon.rowAt HE6.out (by rw [mSg];have:=Hz3.out;omega))⟩,by simp [intOf];omega⟩
   ·rw [Htake.out]
    exact HO1.out.only hon (fun g hg hh=>by rw [mSg] at hg;subst hg;have:=hfr _ hh;have:=HBlt.out;omega)
   ·exact ((HQ5.out.q HN5.out).trans HA1.out.only (U:=[]) (by simp) (fun g hg hlt=>by have:=HFk.out g (by simpa using hg);have:=HElt.out;omega)).trans hon (U:=[]) (by simp) (fun g hg hlt=>by rw [mSg] at hg;have:=Hz3.out;omega)
   ·exact Nat.le_trans (Nat.le_trans hba.out hz6) hon.size
  ·obtain rfl:k=l.length:=by omega
   have hki:¬ (l.length:Int)<(l.length:Int):=by omega
   rw [List.take_length] at HOk
   go_wp2_with fail
   go_at_call 46
   refine (kok_any _ _ _).mono ?_
   rintro e w4 ⟨rfl,hq4⟩
   have HO4:=lh (HOk.out.quiet hq4)
   have HQ4:=lh (HQk.out.q hq4)
   have HE4:=lh (hq4.row HEk.out)
   have HB4:=lh (hq4.row HBk.out)
   clear hq4 e0 e1
   obtain ⟨e0,e1,-⟩:=row2 HB4.out
   go_wp2_with fail
   go_at_call 46
   refine (kok_any _ _ _).mono ?_
   rintro e w5 ⟨rfl,hq5⟩
   have HO5:=lh (HO4.out.quiet hq5)
   have HQ5:=lh (HQ4.out.q hq5)
   have HE5:=lh (hq5.row HE4.out)
   have HB5:=lh (hq5.row HB4.out)
   clear hq5 e0 e1
   obtain ⟨e0,e1,-⟩:=row2 HB5.out
   obtain ⟨z0,z1,y0,y1,-⟩:=row2 HE5.out
   go_wp2_with fail
   obtain ⟨hrow,hon⟩:=row2_set (x:=.int .i64 0) (y:=.slice none 0 0) HE5.out
   have hne:¬ B=w.heap.size:=by have:=Hz3.out;omega
   have hall:=(HQ5.out.trans hon (U:=[]) (by simp) (fun g hg hlt=>by rw [mSg] at hg;omega))
   refine wp_region_held_drew (S:=(fun w'=>w'.cell? ⟨B,0,none⟩=some (.int .i64 0)∧w'.cell? ⟨B,1,none⟩=some (.slice none 0 0))) (by kernel_rfl) ?_ (fun hHeld=>?_)
   ·exact ⟨e0,e1⟩
   refine tk 0 45 ?_
   refine tk 1 46 ?_
   refine tk 2 4 ?_
   refine rdy (rdn 3 (fun K hK=>?_) .nil)
   go_simp
   refine hK.out _ _ ?_ (fun hHeld=>?_)
   ·exact ⟨hon.cell e0 (by rw [mSg];exact hne),hon.cell e1 (by rw [mSg];exact hne)⟩
   clear hK K
   try simp only [Act.put,List.setIfInBounds_toArray,List.set_cons_zero,List.set_cons_succ]
   refine wpAnyH_done (by kernel_rfl) ?_ _
   go_wp2_with fail
   refine bodyPost_ret (results_tmp_cell Tryz.results170 _ _ w.heap.size _ _ _ _ _ rfl rfl hrow Tryz.underlying39 rfl (err_info _ rfl)) rfl (HPost.out _ _ ⟨⟨_,rfl,?_⟩,hall.drew⟩)
   rw [HD.out]
   exact ((HO5.out.only hon (fun g hg hh=>by rw [mSg] at hg;subst hg;have:=HFk.out _ hh;have:=Hz3.out;omega)).quiet (Only.refl _ _).drew).lower (by have:=Hz3.out;omega)
end
section
variable {lo hi R D:Nat} {bv:Value} {w w':World} {m:Mod} {S:List Nat}
end
/-! ### what every coder of the document's gives -/
/-- a step: what was not the coder's stays; its blocks are the ones it had, or new -/
def Went (F:List Nat) (w:World) (F':List Nat) (w':World):Prop:=Only F w w'∧∀ g∈F',g∈F∨w.heap.size≤g
theorem Went.refl (F:List Nat) (w:World):Went F w F w:=⟨Only.refl _ _,fun g h=>.inl h⟩
theorem Went.trans {F F1 F2:List Nat} {w w1 w2:World} (h:Went F w F1 w1) (k:Went F1 w1 F2 w2):Went F w F2 w2 :=
 ⟨h.1.trans k.1 (fun g h _=>h) (fun g hg hlt=>(h.2 g hg).resolve_right (by omega)),fun g hg=>(k.2 g hg).elim (fun a=>h.2 g a) (fun a=>.inr (Nat.le_trans h.1.size a))⟩
theorem Went.q {F F1:List Nat} {w w1 w2:World} (h:Went F w F1 w1) (k:Only [] w1 w2):Went F w F1 w2:=⟨h.1.trans k (fun g h _=>h) (by simp),h.2⟩
theorem Went.ahead {F F1:List Nat} {w w1 w2:World} (k:Only [] w w1) (h:Went F w1 F1 w2):Went F w F1 w2:=⟨k.trans h.1 (by simp) (fun g h _=>h),fun g hg=>(h.2 g hg).imp_right (fun a=>Nat.le_trans k.size a)⟩
/-- a coder of the document's, its struct in block R -/
structure KC (R:Nat) where
 σ:Type
 C:CodO σ
 reads:Bool
 base:Nat
 At:List Nat→World→σ→Prop
 Ok:Nat→σ→Prop
 ok_le:∀ {n k:Nat} {s:σ},Ok n s→n≤k→Ok k s
 ok_bit:∀ {n:Nat} {s:σ} (c:Nat) (b:Bool),Ok n s→c<64→Ok (n+2) (C.bit c b s).2
 ok_flat:∀ {n:Nat} {s:σ} (b:Bool),Ok n s→Ok (n+2) (C.flat b s).2
 only:∀ {F S:List Nat} {w w':World} {s:σ},At F w s→Only S w w'→(∀ g∈S,base≤g∧g∉F)→At F w' s
 lt:∀ {F:List Nat} {w:World} {s:σ},At F w s→∀ g∈F,g<w.heap.size
 base_le:∀ {F:List Nat} {w:World} {s:σ},At F w s→base≤w.heap.size
 cell:∀ {F:List Nat} {w:World} {s:σ},At F w s→w.cell? ⟨R,0,none⟩=some (.bool reads)
 bit:∀ {F:List Nat} {w:World} {s:σ} {n:Nat} (c:Nat) (b:Bool),At F w s→Ok n s→n≤900000000→c<64 →
  Calls Tryz.prog 163 #[.pointer (some ⟨R,0,none⟩),.int .i64 c,.bool b] w fun e w'=>e=.returned (.bool (C.bit c b s).1)∧∃ F',At F' w' (C.bit c b s).2∧Went F w F' w'
 flat:∀ {F:List Nat} {w:World} {s:σ} {n:Nat} (b:Bool),At F w s→Ok n s→n≤900000000 →
  Calls Tryz.prog 162 #[.pointer (some ⟨R,0,none⟩),.bool b] w fun e w'=>e=.returned (.bool (C.flat b s).1)∧∃ F',At F' w' (C.flat b s).2∧Went F w F' w'
section
variable {R:Nat} (X:KC R)
theorem bne_dec (a b:Int):(a != b)=decide (a≠b):=by by_cases h:a=b <;> simp [h]
theorem beq_dec (a b:Int):(a == b)=decide (a=b):=by by_cases h:a=b <;> simp [h]
theorem pow2_in {k:Nat} (h:k≤13):(2:Int) ^ k≤8192∧(0:Int)≤(2:Int) ^ k:=by
 rcases (by omega:k=0∨k=1∨k=2∨k=3∨k=4∨k=5∨k=6∨k=7∨k=8∨k=9∨k=10∨k=11∨k=12∨k=13) with rfl | rfl | rfl | rfl | rfl | rfl | rfl | rfl | rfl | rfl | rfl | rfl | rfl | rfl <;> decide
end
theorem qDRkO0 {p:Prop} (h:p:=by
 have hba:=lh (fun (o:Obj)=>(show w.heap.size≤(wr.alloc o).heap.size by simp;omega))
 clear hin
 go_wp2_with (first
  | (at_builtin;refine wpList_append_ints rfl (.tmp 42) (.tmp 50) _ rfl EI (HOI.out.quiet (Only.new _ _)) rfl (hsrc.out _) rfl hby.out (hba.out _) (fun v1 w1 hown1 ho1=>?_);obtain ⟨x1,x1cap,hx1,_⟩:=hown1.ints.open;subst hx1;simp only [List.length_append,List.length_singleton] at hown1 ho1 ⊢;have HO1:=lh hown1;have HA1:=lh ho1;clear hown1 ho1)
  | fail)
 exact ⟨⟨j+1,by omega,by go_num,by rw [HPJ.out,hrow.out];have:=HO1.out;rw [hval.out] at this;simpa [natI] using this,HA1.out.from_ HFI.out (hba.out _),(HQI.out.q (Only.new _ _)).acc HA1.out HFI.out⟩,by simp [intOf];omega⟩):p:=h
theorem qDRkO1 {p:Prop} (h:p:=by
 go_wp2_with fail
 exact ⟨⟨j+1,by omega,by go_num,by rw [HPJ.out,hrow.out,List.append_nil];exact HOI.out,HFI.out,HQI.out⟩,by simp [intOf];omega⟩):p:=h
theorem korder4_any (w:World) :
  Calls Tryz.prog 165 #[.int .i64 4] w fun e w'=>∃ v',e=.returned v'∧Own .i64 3 w.heap.size w' v' (natI (orderD 4))∧Only [] w w':=by
 go_enter Tryz.func165,Tryz.ntmps165
 go_wp2_with fail
 go_loopw [3,4] (fun y s wr=>∃ k:Nat,k≤7∧s=.int .i64 k∧Own .i64 3 w.heap.size wr y (natI ((List.range k).flatMap fun s=>(List.range (s+1)).flatMap (rowO 4 s)))∧From w.heap.size y∧Only [] w wr) (fun _ s _=>7-(intOf s).toNat)
 case atStart=>exact ⟨0,by omega,rfl,by simpa [natI] using Own.nil _ _ _ _,From.nil _,Only.refl _ _⟩
 case round =>
  obtain ⟨k,hk,rfl,hown,hfrom,hq⟩:=hrel
  have HOwn:=lh hown
  have HFrom:=lh hfrom
  have HQ:=lh hq
  clear hown hfrom hq
  by_cases hlt:k<7
  ·have hlti:(k:Int)≤6:=by omega
   have hk0:(0:Int)≤(k:Int):=by omega
   have HP:=lh (show (List.range (k+1)).flatMap (fun s=>(List.range (s+1)).flatMap (rowO 4 s))=(List.range k).flatMap (fun s=>(List.range (s+1)).flatMap (rowO 4 s)) ++ (List.range (k+1)).flatMap (rowO 4 k) from flatMap_range_succ _ k)
   have HLen:=lh (orderPre_len 4 k)
   generalize (List.range k).flatMap (fun s=>(List.range (s+1)).flatMap (rowO 4 s))=PRE at *
   go_wp2_with fail
   go_loopw [3,5] (fun y i wi=>∃ j:Nat,j≤k+1∧i=.int .i64 j∧Own .i64 3 w.heap.size wi y (natI (PRE ++ (List.range j).flatMap (rowO 4 k)))∧From w.heap.size y∧Only [] w wi) (fun _ i _=>k+1-(intOf i).toNat)
   case atStart=>exact ⟨0,by omega,rfl,by simpa using HOwn.out,HFrom.out,HQ.out⟩
   case round =>
    obtain ⟨j,hj,rfl,hown,hfrom,hq⟩:=hrel
    have HOI:=lh hown
    have HFI:=lh hfrom
    have HQI:=lh hq
    clear hown hfrom hq
    by_cases hjl:j<k+1
    ·have hji:(j:Int)≤(k:Int):=by omega
     have hj0:(0:Int)≤(j:Int):=by omega
     have HPJ:=lh (show PRE ++ (List.range (j+1)).flatMap (rowO 4 k)=PRE ++ (List.range j).flatMap (rowO 4 k) ++ rowO 4 k j by rw [List.range_succ,List.flatMap_append,List.append_assoc];simp)
     have HLJ:=lh (show (PRE ++ (List.range j).flatMap (rowO 4 k)).length≤10000 by have:=orderRow_len 4 k j;have:=HLen.out;have h16:(k+1)*(k+1)≤16*16:=Nat.mul_le_mul (by omega) (by omega);rw [List.length_append];omega)
     generalize PRE ++ (List.range j).flatMap (rowO 4 k)=S0 at *
     have hzj:=HQI.out.size
     by_cases hpar:k % 2=0
     ·have hpi:(k:Int) % 2=0:=by omega
      by_cases hx:k-j<4
      ·have hxi:(k:Int)-(j:Int)<4:=by omega
       by_cases hy:j<4
       ·have hyi:(k:Int)-((k:Int)-(j:Int))<4:=by omega
        have hrow:Hid (rowO 4 k j=[(k-j)*4+j]):=lh (by unfold rowO;rw [if_pos hpar,if_pos hpar,if_pos ⟨hy,hx⟩])
        have hval:Hid ((((k:Int)-(j:Int))*4+(k:Int)-((k:Int)-(j:Int)):Int)=((((k-j)*4+j:Nat)):Int)):=lh (by omega)
        have hin:∀ x∈[(((k:Int)-(j:Int))*4+(k:Int)-((k:Int)-(j:Int)):Int)],InK .i64 x:=by simp only [mSg,forall_eq,InK];omega
        have hsrc:=lh (fun (W:World)=>ints_newG (k:=.i64) (w:=W) (t:=3) (l:=[(((k:Int)-(j:Int))*4+(k:Int)-((k:Int)-(j:Int)):Int)]) rfl (by simp [maxLen]) hin 1 rfl rfl)
        have hby:=lh (show ((natI S0).length+[(((k:Int)-(j:Int))*4+(k:Int)-((k:Int)-(j:Int)):Int)].length)*8≤140737488355328 by have:=HLJ.out;simp [natI];omega)
        exact qDRkO0
       ·have hyi:¬ (k:Int)-((k:Int)-(j:Int))<4:=by omega
        have hrow:Hid (rowO 4 k j=[]):=lh (by unfold rowO;rw [if_pos hpar,if_pos hpar,if_neg (by omega)])
        exact qDRkO1
      ·have hxi:¬ (k:Int)-(j:Int)<4:=by omega
       have hrow:Hid (rowO 4 k j=[]):=lh (by unfold rowO;rw [if_pos hpar,if_pos hpar,if_neg (by omega)])
       exact qDRkO1
     ·have hpi:¬ (k:Int) % 2=0:=by omega
      by_cases hx:j<4
      ·have hxi:(j:Int)<4:=by omega
       by_cases hy:k-j<4
       ·have hyi:(k:Int)-(j:Int)<4:=by omega
        have hrow:Hid (rowO 4 k j=[j*4+(k-j)]):=lh (by unfold rowO;rw [if_neg hpar,if_neg hpar,if_pos ⟨hy,hx⟩])
        have hval:Hid (((j:Int)*4+(k:Int)-(j:Int):Int)=(((j*4+(k-j):Nat)):Int)):=lh (by omega)
        have hin:∀ x∈[((j:Int)*4+(k:Int)-(j:Int):Int)],InK .i64 x:=by simp only [mSg,forall_eq,InK];omega
        have hsrc:=lh (fun (W:World)=>ints_newG (k:=.i64) (w:=W) (t:=3) (l:=[((j:Int)*4+(k:Int)-(j:Int):Int)]) rfl (by simp [maxLen]) hin 1 rfl rfl)
        have hby:=lh (show ((natI S0).length+[((j:Int)*4+(k:Int)-(j:Int):Int)].length)*8≤140737488355328 by have:=HLJ.out;simp [natI];omega)
        exact qDRkO0
       ·have hyi:¬ (k:Int)-(j:Int)<4:=by omega
        have hrow:Hid (rowO 4 k j=[]):=lh (by unfold rowO;rw [if_neg hpar,if_neg hpar,if_neg (by omega)])
        exact qDRkO1
      ·have hxi:¬ (j:Int)<4:=by omega
       have hrow:Hid (rowO 4 k j=[]):=lh (by unfold rowO;rw [if_neg hpar,if_neg hpar,if_neg (by omega)])
       exact qDRkO1
    ·obtain rfl:j=k+1:=by omega
     have hji:¬ ((k+1:Nat):Int)≤(k:Int):=by omega
     go_wp2_with fail
     exact ⟨⟨k+1,by omega,by go_num,by rw [HP.out];exact HOI.out,HFI.out,HQI.out⟩,by simp [intOf];omega⟩
  ·obtain rfl:k=7:=by omega
   have hlti:¬ ((7:Nat):Int)≤6:=by omega
   go_wp2_with fail
   go_ret
   exact ⟨_,rfl,HOwn.out,HQ.out⟩
theorem within_zero (l:List Int):withinB l 0 0=zeroB l:=by
 unfold withinB zeroB
 induction l with
 | nil=>rfl
 | cons x l ih =>
  simp only [List.all_cons]
  rw [ih]
  congr 1
  by_cases h:x=0
  ·subst h;rfl
  ·have h2:(x == 0)=false:=by simp [h]
   rw [h2]
   simp only [Bool.and_eq_false_iff,Bool.not_eq_false',Bool.and_eq_true,decide_eq_true_eq,Bool.or_eq_true,Bool.not_eq_true',Bool.or_eq_false_iff,decide_eq_false_iff_not]
   omega
theorem kzero_any {lo hi:Nat} {v:Value} {l:List Int} {w:World} (h:Ints .i64 lo hi w v l):Calls Tryz.prog 101 #[v] w fun e w'=>e=.returned (.bool (zeroB l))∧w=w':=by
 obtain ⟨a,cap,hv,-⟩:=h.open
 have HW:=lh (within_any 0 0 h)
 subst hv
 clear h
 go_enter Tryz.func101,Tryz.ntmps101
 go_wp2_with fail
 go_at_call 26
 refine HW.out.mono ?_
 rintro e w1 ⟨rfl,rfl⟩
 go_wp2_with fail
 go_ret
 exact ⟨by rw [show Value.bool (zeroB l)=Value.bool (withinB l 0 0) by rw [within_zero]];first | rfl | (rw [within_zero];rfl),rfl⟩
section
variable {σ:Type} {C:CodO σ} {base last a i:Nat} {l out:List Int} {rest:List Nat} {m m1 m2 m3:σ} {x:Int} {b:Bool}
theorem goG_skip (hi:i<last) (hB:C.bit (base+1+min i 7) (decide (l.getD a 0≠0)) m=(false,m1)):coefGoG C base last l (a :: rest) i out m=coefGoG C base last l rest (i+1) out m1:=by
 rw [coefGoG,if_pos hi,hB];exact if_neg (by simp)
theorem goG_bad (hi:i<last) (hB:C.bit (base+1+min i 7) (decide (l.getD a 0≠0)) m=(true,m1)) (hL:levelG C base (l.getD a 0) m1=(x,m2)) (hx:x < -16320∨16320<x):coefGoG C base last l (a :: rest) i out m=(.error ⟨[(sCoef,(i:Int))],3⟩,m2):=by
 rw [coefGoG,if_pos hi,hB];simp only [hL,if_true,if_pos hx]
theorem goG_done (hi:i<last) (hB:C.bit (base+1+min i 7) (decide (l.getD a 0≠0)) m=(true,m1)) (hL:levelG C base (l.getD a 0) m1=(x,m2)) (hx:¬ (x < -16320∨16320<x)) (h9:C.bit (base+9+min i 7) (zerosAt l rest) m2=(true,m3)):coefGoG C base last l (a :: rest) i out m=(.ok (out.set a x),m3):=by
 rw [coefGoG,if_pos hi,hB];simp only [hL,if_true,if_neg hx,h9]
theorem goG_more (hi:i<last) (hB:C.bit (base+1+min i 7) (decide (l.getD a 0≠0)) m=(true,m1)) (hL:levelG C base (l.getD a 0) m1=(x,m2)) (hx:¬ (x < -16320∨16320<x)) (h9:C.bit (base+9+min i 7) (zerosAt l rest) m2=(false,m3)):coefGoG C base last l (a :: rest) i out m=coefGoG C base last l rest (i+1) (out.set a x) m3:=by
 rw [coefGoG,if_pos hi,hB];simp only [hL,if_true,if_neg hx,h9];exact if_neg (by simp)
theorem goG_bad' (hi:¬ i<last) (hL:levelG C base (l.getD a 0) m=(x,m2)) (hx:x < -16320∨16320<x):coefGoG C base last l (a :: rest) i out m=(.error ⟨[(sCoef,(i:Int))],3⟩,m2):=by
 rw [coefGoG,if_neg hi];simp only [hL,if_pos hx]
theorem goG_more' (hi:¬ i<last) (hL:levelG C base (l.getD a 0) m=(x,m2)) (hx:¬ (x < -16320∨16320<x)):coefGoG C base last l (a :: rest) i out m=coefGoG C base last l rest (i+1) (out.set a x) m2:=by
 rw [coefGoG,if_neg hi];simp only [hL,if_neg hx]
end
theorem natI_at2 (l:List Nat) (i:Nat):(natI l).getD i 0=((l.getD i 0:Nat):Int):=by
 unfold natI
 rw [List.getD_eq_getElem?_getD,List.getD_eq_getElem?_getD,List.getElem?_map]
 cases l[i]? <;> rfl
/-- a coder's blocks and the block of a list that is made, behind W -/
structure CLoop (g:Nat) (F:List Nat) (W:World) (Fc:List Nat) (w:World):Prop where
 only:Only (g :: F) W w
 new:∀ x∈Fc,x∈F∨W.heap.size≤x
section
variable {g:Nat} {F Fc F':List Nat} {W w w':World}
theorem CLoop.went (h:CLoop g F W Fc w) (k:Went Fc w F' w'):CLoop g F W F' w' :=
 ⟨h.only.trans k.1 (fun x hx _=>hx) (fun x hx hl=>by rcases h.new x hx with a | a;exact List.mem_cons_of_mem _ a;omega),fun x hx=>(k.2 x hx).elim (h.new x) (fun a=>.inr (Nat.le_trans h.only.size a))⟩
theorem CLoop.store (h:CLoop g F W Fc w) (k:Only [g] w w'):CLoop g F W Fc w':=⟨h.only.trans k (fun x hx _=>hx) (fun x hx _=>by rw [mSg] at hx;rw [hx];exact List.mem_cons_self ..),h.new⟩
theorem CLoop.apart (h:CLoop g F W Fc w) (hg:g<W.heap.size) (hF:g∉F):g∉Fc:=fun hx=>(h.new g hx).elim hF (fun a=>by omega)
theorem CLoop.end {w0:World} {e:Nat} (hq:Only [] w0 W) (h:CLoop g F W Fc w) (o:Only [e] w w') (hg:w0.heap.size≤g) (he:w0.heap.size≤e):Went F w0 Fc w' :=
 ⟨(hq.trans h.only (U:=F) (by simp) (fun x hx hl=>by rcases List.mem_cons.1 hx with rfl | a;omega;exact a)).trans o (fun x hx _=>hx) (fun x hx hl=>by rw [mSg] at hx;omega),fun x hx=>(h.new x hx).imp_right (fun a=>Nat.le_trans hq.size a)⟩
end
section
variable {R:Nat} (X:KC R)
end
section
variable {σ:Type} {C:CodO σ} {qm:List Int} {ql:List (List Int)} {k:Nat} {ms:List Int} {ls:List (List Int)} {m m1 m2:σ} {mo:Nat} {l:List Int} {e:Err}
theorem smallGoG_more (h1:modeG C (qm.getD ms.length 0) m=(mo,m1)) (h2:coefG C 4 (ql.getD ls.length []) m1=(.ok l,m2)):smallGoG C qm ql (k+1) ms ls m=smallGoG C qm ql k (ms ++ [(mo:Int)]) (ls ++ [l]) m2:=by
 rw [smallGoG,h1];simp only [h2]
end
section
variable {O:Nat} {F F':List Nat} {w w':World} {vq:List Value} {ls:List (List Int)}
end
end Go.Proofs.YtmgbbgffkakcaaaGreatDoor
