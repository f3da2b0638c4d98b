/- Joined texts: DRow2, DCod, DRk13, DRkN, DRkC. Conditions: each part names its own. -/
import Derived.Test.YtkigikallkpbcaaGreatDoorK4
import Derived.Test.YtkigikallkpbcaaGreatDoorK1
import Derived.Test.YtkigikallkpbcaaGreatDoorS1
import Derived.Test.YtkigikallkpbcaaGreatDoorK5
import Derived.Deep.DeepCutAuto
import Derived.Test.YtkigikallkpbcaaGreatDoorS2
import Derived.Test.YtkigikallkpbcaaGreatDoorC3
import Derived.Test.YtkigikallkpbcaaGreatDoorK2
namespace Go.Proofs.YtkigikallkpbcaaGreatDoor
open Go.RowKit
set_option linter.unusedVariables false
set_option linter.unusedSimpArgs false
set_option maxRecDepth 100000
set_option maxHeartbeats 16000000
theorem row2_set {w:World} {g:Nat} {a b x y:Value} {t:TypeId} (h:w.heap[g]?=some (.cells #[a,b] t (0,0))) :
  ((w.setCell ⟨g,0,none⟩ x).setCell ⟨g,1,none⟩ y).heap[g]?=some (.cells #[x,y] t (0,0))∧Only [g] w ((w.setCell ⟨g,0,none⟩ x).setCell ⟨g,1,none⟩ y):=by
 have h1:=heap_setCell_same w g 0 _ _ x h
 have h2:=heap_setCell_same _ g 1 _ _ y h1
 exact ⟨h2,((Only.refl _ _).setCell (by simp) _).setCell (by simp) _⟩
/-- a coder: a bit by a context, a flat bit; the bit asked for is what a writer writes -/
structure CodO (σ:Type) where
 bit:Nat→Bool→σ→Bool×σ
 flat:Bool→σ→Bool×σ
section
variable {σ:Type} (C:CodO σ)
/-- how many ones stand ahead of a zero, at most k: asked is whether v is more than what was counted -/
def onesG (f:Nat→Nat) (v:Int):Nat→Nat→σ→Nat×σ
 | 0,n,s=>(n,s)
 | k+1,n,s=>if (C.bit (f n) (decide ((n:Int)<v)) s).1 then onesG f v k (n+1) (C.bit (f n) (decide ((n:Int)<v)) s).2 else (n,(C.bit (f n) (decide ((n:Int)<v)) s).2)
def kindG (v:Int) (s:σ):Nat×σ:=onesG C (fun n=>min n 63) v 3 0 s
/-- a mode that is asked, within its bounds -/
def modeG2 (m:Int) (s:σ):Nat×σ :=
 if (C.bit 3 (decide (1<m)) s).1 then (if (C.bit 5 (decide (m % 2=1)) (C.bit 3 (decide (1<m)) s).2).1 then 3 else 2,(C.bit 5 (decide (m % 2=1)) (C.bit 3 (decide (1<m)) s).2).2)
 else (if (C.bit 4 (decide (m % 2=1)) (C.bit 3 (decide (1<m)) s).2).1 then 1 else 0,(C.bit 4 (decide (m % 2=1)) (C.bit 3 (decide (1<m)) s).2).2)
def modeG (v:Int) (s:σ):Nat×σ:=modeG2 C (min (max v 0) 3) s
def partG3 (v:Int) (b:Bool) (s:σ):Int×σ:=(signD b (onesG C (fun n=>7+min n 6) (max v (-v)-1) 14 0 s).1,(onesG C (fun n=>7+min n 6) (max v (-v)-1) 14 0 s).2)
def partG2 (v:Int) (s:σ):Int×σ :=
 if (C.bit 6 (decide (v≠0)) s).1 then partG3 C v (C.flat (decide (v<0)) (C.bit 6 (decide (v≠0)) s).2).1 (C.flat (decide (v<0)) (C.bit 6 (decide (v≠0)) s).2).2 else (0,(C.bit 6 (decide (v≠0)) s).2)
def partG (v:Int) (s:σ):Int×σ:=partG2 C (min (max v (-15)) 15) s
def flatsG (u:Int):Nat→Nat→σ→Nat×σ
 | 0,n,s=>(n,s)
 | k+1,n,s=>if (C.flat (decide ((2:Int) ^ (n+1)≤u)) s).1 then flatsG u k (n+1) (C.flat (decide ((2:Int) ^ (n+1)≤u)) s).2 else (n,(C.flat (decide ((2:Int) ^ (n+1)≤u)) s).2)
def bitsG (u:Int):Nat→Nat→σ→Nat×σ
 | 0,n,s=>(n,s)
 | k+1,n,s=>bitsG u k (if (C.flat (decide (u / (2:Int) ^ k % 2=1)) s).1 then 2*n+1 else 2*n) (C.flat (decide (u / (2:Int) ^ k % 2=1)) s).2
def greatG (u:Int) (s:σ):Nat×σ:=bitsG C u (flatsG C u 13 0 s).1 1 (flatsG C u 13 0 s).2
def sizeG (base:Nat) (v:Int) (s:σ):Nat×σ :=
 if (onesG C (fun n=>base+17+min n 7) v 14 0 s).1=14 then (13+(greatG C (v-13) (onesG C (fun n=>base+17+min n 7) v 14 0 s).2).1,(greatG C (v-13) (onesG C (fun n=>base+17+min n 7) v 14 0 s).2).2)
 else onesG C (fun n=>base+17+min n 7) v 14 0 s
def levelG (base:Nat) (v:Int) (s:σ):Int×σ:=(signD (C.flat (decide (v<0)) s).1 (sizeG C base (max v (-v)-1) (C.flat (decide (v<0)) s).2).1,(sizeG C base (max v (-v)-1) (C.flat (decide (v<0)) s).2).2)
/-- are the levels at these places all 0? -/
def zerosAt (l:List Int) (o:List Nat):Bool:=o.all fun a=>l.getD a 0 == 0
/-- levels, told in their order from the i-th on -/
def coefGoG (base last:Nat) (l:List Int):List Nat→Nat→List Int→σ→Except Err (List Int)×σ
 | [],i,out,m=>(.ok out,m)
 | a :: rest,i,out,m =>
  if i<last then
   if (C.bit (base+1+min i 7) (decide (l.getD a 0≠0)) m).1 then
    if (levelG C base (l.getD a 0) (C.bit (base+1+min i 7) (decide (l.getD a 0≠0)) m).2).1 < -16320∨16320<(levelG C base (l.getD a 0) (C.bit (base+1+min i 7) (decide (l.getD a 0≠0)) m).2).1 then (.error ⟨[(sCoef,(i:Int))],3⟩,(levelG C base (l.getD a 0) (C.bit (base+1+min i 7) (decide (l.getD a 0≠0)) m).2).2)
    else if (C.bit (base+9+min i 7) (zerosAt l rest) (levelG C base (l.getD a 0) (C.bit (base+1+min i 7) (decide (l.getD a 0≠0)) m).2).2).1 then (.ok (out.set a (levelG C base (l.getD a 0) (C.bit (base+1+min i 7) (decide (l.getD a 0≠0)) m).2).1),(C.bit (base+9+min i 7) (zerosAt l rest) (levelG C base (l.getD a 0) (C.bit (base+1+min i 7) (decide (l.getD a 0≠0)) m).2).2).2)
    else coefGoG base last l rest (i+1) (out.set a (levelG C base (l.getD a 0) (C.bit (base+1+min i 7) (decide (l.getD a 0≠0)) m).2).1) (C.bit (base+9+min i 7) (zerosAt l rest) (levelG C base (l.getD a 0) (C.bit (base+1+min i 7) (decide (l.getD a 0≠0)) m).2).2).2
   else coefGoG base last l rest (i+1) out (C.bit (base+1+min i 7) (decide (l.getD a 0≠0)) m).2
  else
   if (levelG C base (l.getD a 0) m).1 < -16320∨16320<(levelG C base (l.getD a 0) m).1 then (.error ⟨[(sCoef,(i:Int))],3⟩,(levelG C base (l.getD a 0) m).2)
   else coefGoG base last l rest (i+1) (out.set a (levelG C base (l.getD a 0) m).1) (levelG C base (l.getD a 0) m).2
def zeroB (l:List Int):Bool:=l.all (· == 0)
def coefG (side:Nat) (l:List Int) (m:σ):Except Err (List Int)×σ :=
 if (C.bit (baseD side) (!zeroB l) m).1 then coefGoG C (baseD side) (side*side-1) l (orderD side) 0 (List.replicate (side*side) 0) (C.bit (baseD side) (!zeroB l) m).2
 else (.ok (List.replicate (side*side) 0),(C.bit (baseD side) (!zeroB l) m).2)
/-- a small square's four parts, from the i-th on: k are left; qm, ql: what is asked -/
def smallGoG (qm:List Int) (ql:List (List Int)):Nat→List Int→List (List Int)→σ→Except Err (List Int×List (List Int))×σ
 | 0,ms,ls,m=>(.ok (ms,ls),m)
 | k+1,ms,ls,m =>
  match (coefG C 4 (ql.getD ls.length []) (modeG C (qm.getD ms.length 0) m).2).1 with
  | .error e=>(.error e,(coefG C 4 (ql.getD ls.length []) (modeG C (qm.getD ms.length 0) m).2).2)
  | .ok l=>smallGoG qm ql k (ms ++ [((modeG C (qm.getD ms.length 0) m).1:Int)]) (ls ++ [l]) (coefG C 4 (ql.getD ls.length []) (modeG C (qm.getD ms.length 0) m).2).2
/-- a square that is asked of a coder: its kind and its mode any numbers -/
structure AskD where
 kind:Int
 mode:Int
 modes:List Int
 vx:Int
 vy:Int
 large:List Int
 small:List (List Int)
def kindKG (key:Bool) (k:Int) (m:σ):Nat×σ:=if key then (if (C.flat (decide (k=3)) m).1 then 3 else 2,(C.flat (decide (k=3)) m).2) else kindG C k m
def partsG (q:AskD) (k:Nat) (m:σ):Except Err SqD×σ :=
 if k=3 then
  match (smallGoG C q.modes q.small 4 [] [] m).1 with
  | .error e=>(.error e,(smallGoG C q.modes q.small 4 [] [] m).2)
  | .ok x=>(.ok ⟨3,0,x.1,0,0,[],x.2⟩,(smallGoG C q.modes q.small 4 [] [] m).2)
 else if k=0 then (.ok sq0,m)
 else if k=1 then
  match (coefG C 8 q.large (partG C q.vy (partG C q.vx m).2).2).1 with
  | .error e=>(.error e,(coefG C 8 q.large (partG C q.vy (partG C q.vx m).2).2).2)
  | .ok l=>(.ok ⟨1,0,[0,0,0,0],(partG C q.vx m).1,(partG C q.vy (partG C q.vx m).2).1,l,[[],[],[],[]]⟩,(coefG C 8 q.large (partG C q.vy (partG C q.vx m).2).2).2)
 else
  match (coefG C 8 q.large (modeG C q.mode m).2).1 with
  | .error e=>(.error e,(coefG C 8 q.large (modeG C q.mode m).2).2)
  | .ok l=>(.ok ⟨2,(modeG C q.mode m).1,[0,0,0,0],0,0,l,[[],[],[],[]]⟩,(coefG C 8 q.large (modeG C q.mode m).2).2)
/-- a square, told by a coder -/
def squareG (key:Bool) (q:AskD) (m:σ):Except Err SqD×σ :=
 match (partsG C q (kindKG C key q.kind m).1 (kindKG C key q.kind m).2).1 with
 | .error e=>(.error (inD sSyntax (kindKG C key q.kind m).1 e),(partsG C q (kindKG C key q.kind m).1 (kindKG C key q.kind m).2).2)
 | .ok s=>(.ok s,(partsG C q (kindKG C key q.kind m).1 (kindKG C key q.kind m).2).2)
end
/-! ### the one that reads -/
def rdC:CodO Mod:=⟨fun c _ m=>bitD c m,fun _ m=>flatD m⟩
theorem onesG_rd (f:Nat→Nat) (v:Int):∀ (k n:Nat) (m:Mod),onesG rdC f v k n m=onesD f k n m
 | 0,n,m=>rfl
 | k+1,n,m=>by
  show (if (bitD (f n) m).1 then onesG rdC f v k (n+1) (bitD (f n) m).2 else _)=_
  rw [onesG_rd f v k]
  rfl
theorem flatsG_rd (u:Int):∀ (k n:Nat) (m:Mod),flatsG rdC u k n m=flatsD k n m
 | 0,n,m=>rfl
 | k+1,n,m=>by
  show (if (flatD m).1 then flatsG rdC u k (n+1) (flatD m).2 else _)=_
  rw [flatsG_rd u k]
  rfl
theorem bitsG_rd (u:Int):∀ (k n:Nat) (m:Mod),bitsG rdC u k n m=bitsD k n m
 | 0,n,m=>rfl
 | k+1,n,m=>bitsG_rd u k _ _
theorem kindG_rd (v:Int) (m:Mod):kindG rdC v m=kindD m:=onesG_rd _ _ _ _ _
theorem modeG_rd (v:Int) (m:Mod):modeG rdC v m=modeD m:=rfl
theorem partG_rd (v:Int) (m:Mod):partG rdC v m=partD m:=by
 unfold partG partG2 partG3 partD
 rw [onesG_rd]
 rfl
theorem greatG_rd (u:Int) (m:Mod):greatG rdC u m=greatD m:=by
 unfold greatG greatD
 rw [flatsG_rd,bitsG_rd]
theorem sizeG_rd (base:Nat) (v:Int) (m:Mod):sizeG rdC base v m=sizeD base m:=by
 unfold sizeG sizeD
 rw [onesG_rd,greatG_rd]
theorem levelG_rd (base:Nat) (v:Int) (m:Mod):levelG rdC base v m=levelD base m:=by
 unfold levelG levelD
 rw [sizeG_rd]
 rfl
theorem coefGoG_rd (base last:Nat) (l:List Int):∀ (o:List Nat) (i:Nat) (out:List Int) (m:Mod),coefGoG rdC base last l o i out m=coefGo base last o i out m
 | [],i,out,m=>rfl
 | a :: rest,i,out,m=>by
  unfold coefGoG coefGo
  simp only [levelG_rd,coefGoG_rd base last l rest]
  rfl
theorem coefG_rd (side:Nat) (l:List Int) (m:Mod):coefG rdC side l m=coefD side m:=by
 unfold coefG coefD
 rw [coefGoG_rd]
 rfl
theorem smallGoG_rd (qm:List Int) (ql:List (List Int)):∀ (k:Nat) (ms:List Int) (ls:List (List Int)) (m:Mod),smallGoG rdC qm ql k ms ls m=smallGo k ms ls m
 | 0,ms,ls,m=>rfl
 | k+1,ms,ls,m=>by
  unfold smallGoG smallGo
  simp only [coefG_rd,modeG_rd,smallGoG_rd qm ql k]
  rfl
theorem kindKG_rd (key:Bool) (k:Int) (m:Mod):kindKG rdC key k m=kindK key m:=by
 unfold kindKG kindK
 rw [kindG_rd]
 rfl
theorem partsG_rd (q:AskD) (k:Nat) (m:Mod):partsG rdC q k m=partsD k m:=by
 unfold partsG partsD
 simp only [smallGoG_rd,coefG_rd,modeG_rd,partG_rd]
 rfl
theorem squareG_rd (key:Bool) (q:AskD) (m:Mod):squareG rdC key q m=squareD key m:=by
 unfold squareG squareD
 simp only [kindKG_rd,partsG_rd]
 rfl
section
variable {lo hi R D:Nat} {bv:Value} {w w':World} {m:Mod} {S:List Nat}
end
/-! ### what every coder of the document's gives -/
/-- a step: what was not the coder's stays; its blocks are the ones it had, or new -/
def Went (F:List Nat) (w:World) (F':List Nat) (w':World):Prop:=Only F w w'∧∀ g∈F',g∈F∨w.heap.size≤g
theorem Went.refl (F:List Nat) (w:World):Went F w F w:=⟨Only.refl _ _,fun g h=>.inl h⟩
theorem Went.trans {F F1 F2:List Nat} {w w1 w2:World} (h:Went F w F1 w1) (k:Went F1 w1 F2 w2):Went F w F2 w2 :=
 ⟨h.1.trans k.1 (fun g h _=>h) (fun g hg hlt=>(h.2 g hg).resolve_right (by omega)),fun g hg=>(k.2 g hg).elim (fun a=>h.2 g a) (fun a=>.inr (Nat.le_trans h.1.size a))⟩
theorem Went.q {F F1:List Nat} {w w1 w2:World} (h:Went F w F1 w1) (k:Only [] w1 w2):Went F w F1 w2:=⟨h.1.trans k (fun g h _=>h) (by simp),h.2⟩
theorem Went.ahead {F F1:List Nat} {w w1 w2:World} (k:Only [] w w1) (h:Went F w1 F1 w2):Went F w F1 w2:=⟨k.trans h.1 (by simp) (fun g h _=>h),fun g hg=>(h.2 g hg).imp_right (fun a=>Nat.le_trans k.size a)⟩
section
theorem bne_dec (a b:Int):(a != b)=decide (a≠b):=by by_cases h:a=b <;> simp [h]
theorem beq_dec (a b:Int):(a == b)=decide (a=b):=by by_cases h:a=b <;> simp [h]
theorem pow2_in {k:Nat} (h:k≤13):(2:Int) ^ k≤8192∧(0:Int)≤(2:Int) ^ k:=by
 rcases (by omega:k=0∨k=1∨k=2∨k=3∨k=4∨k=5∨k=6∨k=7∨k=8∨k=9∨k=10∨k=11∨k=12∨k=13) with rfl | rfl | rfl | rfl | rfl | rfl | rfl | rfl | rfl | rfl | rfl | rfl | rfl | rfl <;> decide
end
section
variable {σ:Type} {C:CodO σ} {base last a i:Nat} {l out:List Int} {rest:List Nat} {m m1 m2 m3:σ} {x:Int} {b:Bool}
theorem goG_skip (hi:i<last) (hB:C.bit (base+1+min i 7) (decide (l.getD a 0≠0)) m=(false,m1)):coefGoG C base last l (a :: rest) i out m=coefGoG C base last l rest (i+1) out m1:=by
 rw [coefGoG,if_pos hi,hB];exact if_neg (by simp)
theorem goG_bad (hi:i<last) (hB:C.bit (base+1+min i 7) (decide (l.getD a 0≠0)) m=(true,m1)) (hL:levelG C base (l.getD a 0) m1=(x,m2)) (hx:x < -16320∨16320<x):coefGoG C base last l (a :: rest) i out m=(.error ⟨[(sCoef,(i:Int))],3⟩,m2):=by
 rw [coefGoG,if_pos hi,hB];simp only [hL,if_true,if_pos hx]
theorem goG_done (hi:i<last) (hB:C.bit (base+1+min i 7) (decide (l.getD a 0≠0)) m=(true,m1)) (hL:levelG C base (l.getD a 0) m1=(x,m2)) (hx:¬ (x < -16320∨16320<x)) (h9:C.bit (base+9+min i 7) (zerosAt l rest) m2=(true,m3)):coefGoG C base last l (a :: rest) i out m=(.ok (out.set a x),m3):=by
 rw [coefGoG,if_pos hi,hB];simp only [hL,if_true,if_neg hx,h9]
theorem goG_more (hi:i<last) (hB:C.bit (base+1+min i 7) (decide (l.getD a 0≠0)) m=(true,m1)) (hL:levelG C base (l.getD a 0) m1=(x,m2)) (hx:¬ (x < -16320∨16320<x)) (h9:C.bit (base+9+min i 7) (zerosAt l rest) m2=(false,m3)):coefGoG C base last l (a :: rest) i out m=coefGoG C base last l rest (i+1) (out.set a x) m3:=by
 rw [coefGoG,if_pos hi,hB];simp only [hL,if_true,if_neg hx,h9];exact if_neg (by simp)
theorem goG_bad' (hi:¬ i<last) (hL:levelG C base (l.getD a 0) m=(x,m2)) (hx:x < -16320∨16320<x):coefGoG C base last l (a :: rest) i out m=(.error ⟨[(sCoef,(i:Int))],3⟩,m2):=by
 rw [coefGoG,if_neg hi];simp only [hL,if_pos hx]
theorem goG_more' (hi:¬ i<last) (hL:levelG C base (l.getD a 0) m=(x,m2)) (hx:¬ (x < -16320∨16320<x)):coefGoG C base last l (a :: rest) i out m=coefGoG C base last l rest (i+1) (out.set a x) m2:=by
 rw [coefGoG,if_neg hi];simp only [hL,if_neg hx]
end
theorem natI_at2 (l:List Nat) (i:Nat):(natI l).getD i 0=((l.getD i 0:Nat):Int):=by
 unfold natI
 rw [List.getD_eq_getElem?_getD,List.getD_eq_getElem?_getD,List.getElem?_map]
 cases l[i]? <;> rfl
/-- a coder's blocks and the block of a list that is made, behind W -/
structure CLoop (g:Nat) (F:List Nat) (W:World) (Fc:List Nat) (w:World):Prop where
 only:Only (g :: F) W w
 new:∀ x∈Fc,x∈F∨W.heap.size≤x
section
variable {g:Nat} {F Fc F':List Nat} {W w w':World}
theorem CLoop.went (h:CLoop g F W Fc w) (k:Went Fc w F' w'):CLoop g F W F' w' :=
 ⟨h.only.trans k.1 (fun x hx _=>hx) (fun x hx hl=>by rcases h.new x hx with a | a;exact List.mem_cons_of_mem _ a;omega),fun x hx=>(k.2 x hx).elim (h.new x) (fun a=>.inr (Nat.le_trans h.only.size a))⟩
theorem CLoop.store (h:CLoop g F W Fc w) (k:Only [g] w w'):CLoop g F W Fc w':=⟨h.only.trans k (fun x hx _=>hx) (fun x hx _=>by rw [mSg] at hx;rw [hx];exact List.mem_cons_self ..),h.new⟩
theorem CLoop.apart (h:CLoop g F W Fc w) (hg:g<W.heap.size) (hF:g∉F):g∉Fc:=fun hx=>(h.new g hx).elim hF (fun a=>by omega)
theorem CLoop.end {w0:World} {e:Nat} (hq:Only [] w0 W) (h:CLoop g F W Fc w) (o:Only [e] w w') (hg:w0.heap.size≤g) (he:w0.heap.size≤e):Went F w0 Fc w' :=
 ⟨(hq.trans h.only (U:=F) (by simp) (fun x hx hl=>by rcases List.mem_cons.1 hx with rfl | a;omega;exact a)).trans o (fun x hx _=>hx) (fun x hx hl=>by rw [mSg] at hx;omega),fun x hx=>(h.new x hx).imp_right (fun a=>Nat.le_trans hq.size a)⟩
end
end Go.Proofs.YtkigikallkpbcaaGreatDoor
