/- Joined texts: DCod, DRk13, DRkN, DRkC. Conditions: each part names its own. -/
import Derived.Test.YtmdobcffijnaoaaGreatDoorK1
import Derived.Test.YtmdobcffijnaoaaGreatDoorK4
import Derived.Test.YtmdobcffijnaoaaGreatDoorS1
import Derived.Test.YtmdobcffijnaoaaGreatDoorK5
import Derived.Deep.DeepCutAuto
import Derived.Test.YtmdobcffijnaoaaGreatDoorS2
import Derived.Test.YtmdobcffijnaoaaGreatDoorC3
import Derived.Test.YtmdobcffijnaoaaGreatDoorK2
namespace Go.Proofs.YtmdobcffijnaoaaGreatDoor
open Go.RowKit
set_option linter.unusedVariables false
set_option linter.unusedSimpArgs false
set_option maxRecDepth 100000
set_option maxHeartbeats 16000000
/-- a coder: a bit by a context, a flat bit; the bit asked for is what a writer writes -/
structure CodO (σ:Type) where
 bit:Nat→Bool→σ→Bool×σ
 flat:Bool→σ→Bool×σ
section
variable {σ:Type} (C:CodO σ)
/-- how many ones stand ahead of a zero, at most k: asked is whether v is more than what was counted -/
def onesG (f:Nat→Nat) (v:Int):Nat→Nat→σ→Nat×σ
 | 0,n,s=>(n,s)
 | k+1,n,s=>if (C.bit (f n) (decide ((n:Int)<v)) s).1 then onesG f v k (n+1) (C.bit (f n) (decide ((n:Int)<v)) s).2 else (n,(C.bit (f n) (decide ((n:Int)<v)) s).2)
def flatsG (u:Int):Nat→Nat→σ→Nat×σ
 | 0,n,s=>(n,s)
 | k+1,n,s=>if (C.flat (decide ((2:Int) ^ (n+1)≤u)) s).1 then flatsG u k (n+1) (C.flat (decide ((2:Int) ^ (n+1)≤u)) s).2 else (n,(C.flat (decide ((2:Int) ^ (n+1)≤u)) s).2)
def bitsG (u:Int):Nat→Nat→σ→Nat×σ
 | 0,n,s=>(n,s)
 | k+1,n,s=>bitsG u k (if (C.flat (decide (u / (2:Int) ^ k % 2=1)) s).1 then 2*n+1 else 2*n) (C.flat (decide (u / (2:Int) ^ k % 2=1)) s).2
def greatG (u:Int) (s:σ):Nat×σ:=bitsG C u (flatsG C u 13 0 s).1 1 (flatsG C u 13 0 s).2
def sizeG (base:Nat) (v:Int) (s:σ):Nat×σ :=
 if (onesG C (fun n=>base+17+min n 7) v 14 0 s).1=14 then (13+(greatG C (v-13) (onesG C (fun n=>base+17+min n 7) v 14 0 s).2).1,(greatG C (v-13) (onesG C (fun n=>base+17+min n 7) v 14 0 s).2).2)
 else onesG C (fun n=>base+17+min n 7) v 14 0 s
def levelG (base:Nat) (v:Int) (s:σ):Int×σ:=(signD (C.flat (decide (v<0)) s).1 (sizeG C base (max v (-v)-1) (C.flat (decide (v<0)) s).2).1,(sizeG C base (max v (-v)-1) (C.flat (decide (v<0)) s).2).2)
/-- are the levels at these places all 0? -/
def zerosAt (l:List Int) (o:List Nat):Bool:=o.all fun a=>l.getD a 0 == 0
/-- levels, told in their order from the i-th on -/
def coefGoG (base last:Nat) (l:List Int):List Nat→Nat→List Int→σ→Except Err (List Int)×σ
 | [],i,out,m=>(.ok out,m)
 | a :: rest,i,out,m =>
  if i<last then
   if (C.bit (base+1+min i 7) (decide (l.getD a 0≠0)) m).1 then
    if (levelG C base (l.getD a 0) (C.bit (base+1+min i 7) (decide (l.getD a 0≠0)) m).2).1 < -16320∨16320<(levelG C base (l.getD a 0) (C.bit (base+1+min i 7) (decide (l.getD a 0≠0)) m).2).1 then (.error ⟨[(sCoef,(i:Int))],3⟩,(levelG C base (l.getD a 0) (C.bit (base+1+min i 7) (decide (l.getD a 0≠0)) m).2).2)
    else if (C.bit (base+9+min i 7) (zerosAt l rest) (levelG C base (l.getD a 0) (C.bit (base+1+min i 7) (decide (l.getD a 0≠0)) m).2).2).1 then (.ok (out.set a (levelG C base (l.getD a 0) (C.bit (base+1+min i 7) (decide (l.getD a 0≠0)) m).2).1),(C.bit (base+9+min i 7) (zerosAt l rest) (levelG C base (l.getD a 0) (C.bit (base+1+min i 7) (decide (l.getD a 0≠0)) m).2).2).2)
    else coefGoG base last l rest (i+1) (out.set a (levelG C base (l.getD a 0) (C.bit (base+1+min i 7) (decide (l.getD a 0≠0)) m).2).1) (C.bit (base+9+min i 7) (zerosAt l rest) (levelG C base (l.getD a 0) (C.bit (base+1+min i 7) (decide (l.getD a 0≠0)) m).2).2).2
   else coefGoG base last l rest (i+1) out (C.bit (base+1+min i 7) (decide (l.getD a 0≠0)) m).2
  else
   if (levelG C base (l.getD a 0) m).1 < -16320∨16320<(levelG C base (l.getD a 0) m).1 then (.error ⟨[(sCoef,(i:Int))],3⟩,(levelG C base (l.getD a 0) m).2)
   else coefGoG base last l rest (i+1) (out.set a (levelG C base (l.getD a 0) m).1) (levelG C base (l.getD a 0) m).2
def zeroB (l:List Int):Bool:=l.all (· == 0)
def coefG (side:Nat) (l:List Int) (m:σ):Except Err (List Int)×σ :=
 if (C.bit (baseD side) (!zeroB l) m).1 then coefGoG C (baseD side) (side*side-1) l (orderD side) 0 (List.replicate (side*side) 0) (C.bit (baseD side) (!zeroB l) m).2
 else (.ok (List.replicate (side*side) 0),(C.bit (baseD side) (!zeroB l) m).2)
end
/-! ### the one that reads -/
def rdC:CodO Mod:=⟨fun c _ m=>bitD c m,fun _ m=>flatD m⟩
theorem onesG_rd (f:Nat→Nat) (v:Int):∀ (k n:Nat) (m:Mod),onesG rdC f v k n m=onesD f k n m
 | 0,n,m=>rfl
 | k+1,n,m=>by
  show (if (bitD (f n) m).1 then onesG rdC f v k (n+1) (bitD (f n) m).2 else _)=_
  rw [onesG_rd f v k]
  rfl
theorem flatsG_rd (u:Int):∀ (k n:Nat) (m:Mod),flatsG rdC u k n m=flatsD k n m
 | 0,n,m=>rfl
 | k+1,n,m=>by
  show (if (flatD m).1 then flatsG rdC u k (n+1) (flatD m).2 else _)=_
  rw [flatsG_rd u k]
  rfl
theorem bitsG_rd (u:Int):∀ (k n:Nat) (m:Mod),bitsG rdC u k n m=bitsD k n m
 | 0,n,m=>rfl
 | k+1,n,m=>bitsG_rd u k _ _
theorem greatG_rd (u:Int) (m:Mod):greatG rdC u m=greatD m:=by
 unfold greatG greatD
 rw [flatsG_rd,bitsG_rd]
theorem sizeG_rd (base:Nat) (v:Int) (m:Mod):sizeG rdC base v m=sizeD base m:=by
 unfold sizeG sizeD
 rw [onesG_rd,greatG_rd]
theorem levelG_rd (base:Nat) (v:Int) (m:Mod):levelG rdC base v m=levelD base m:=by
 unfold levelG levelD
 rw [sizeG_rd]
 rfl
theorem coefGoG_rd (base last:Nat) (l:List Int):∀ (o:List Nat) (i:Nat) (out:List Int) (m:Mod),coefGoG rdC base last l o i out m=coefGo base last o i out m
 | [],i,out,m=>rfl
 | a :: rest,i,out,m=>by
  unfold coefGoG coefGo
  simp only [levelG_rd,coefGoG_rd base last l rest]
  rfl
theorem coefG_rd (side:Nat) (l:List Int) (m:Mod):coefG rdC side l m=coefD side m:=by
 unfold coefG coefD
 rw [coefGoG_rd]
 rfl
section
variable {lo hi R D:Nat} {bv:Value} {w w':World} {m:Mod} {S:List Nat}
end
/-! ### what every coder of the document's gives -/
/-- a step: what was not the coder's stays; its blocks are the ones it had, or new -/
def Went (F:List Nat) (w:World) (F':List Nat) (w':World):Prop:=Only F w w'∧∀ g∈F',g∈F∨w.heap.size≤g
theorem Went.refl (F:List Nat) (w:World):Went F w F w:=⟨Only.refl _ _,fun g h=>.inl h⟩
theorem Went.trans {F F1 F2:List Nat} {w w1 w2:World} (h:Went F w F1 w1) (k:Went F1 w1 F2 w2):Went F w F2 w2 :=
 ⟨h.1.trans k.1 (fun g h _=>h) (fun g hg hlt=>(h.2 g hg).resolve_right (by omega)),fun g hg=>(k.2 g hg).elim (fun a=>h.2 g a) (fun a=>.inr (Nat.le_trans h.1.size a))⟩
theorem Went.q {F F1:List Nat} {w w1 w2:World} (h:Went F w F1 w1) (k:Only [] w1 w2):Went F w F1 w2:=⟨h.1.trans k (fun g h _=>h) (by simp),h.2⟩
theorem Went.ahead {F F1:List Nat} {w w1 w2:World} (k:Only [] w w1) (h:Went F w1 F1 w2):Went F w F1 w2:=⟨k.trans h.1 (by simp) (fun g h _=>h),fun g hg=>(h.2 g hg).imp_right (fun a=>Nat.le_trans k.size a)⟩
/-- a coder of the document's, its struct in block R -/
structure KC (R:Nat) where
 σ:Type
 C:CodO σ
 reads:Bool
 base:Nat
 At:List Nat→World→σ→Prop
 Ok:Nat→σ→Prop
 ok_le:∀ {n k:Nat} {s:σ},Ok n s→n≤k→Ok k s
 ok_bit:∀ {n:Nat} {s:σ} (c:Nat) (b:Bool),Ok n s→c<64→Ok (n+2) (C.bit c b s).2
 ok_flat:∀ {n:Nat} {s:σ} (b:Bool),Ok n s→Ok (n+2) (C.flat b s).2
 only:∀ {F S:List Nat} {w w':World} {s:σ},At F w s→Only S w w'→(∀ g∈S,base≤g∧g∉F)→At F w' s
 lt:∀ {F:List Nat} {w:World} {s:σ},At F w s→∀ g∈F,g<w.heap.size
 base_le:∀ {F:List Nat} {w:World} {s:σ},At F w s→base≤w.heap.size
 cell:∀ {F:List Nat} {w:World} {s:σ},At F w s→w.cell? ⟨R,0,none⟩=some (.bool reads)
 bit:∀ {F:List Nat} {w:World} {s:σ} {n:Nat} (c:Nat) (b:Bool),At F w s→Ok n s→n≤900000000→c<64 →
  Calls Tryz.prog 158 #[.pointer (some ⟨R,0,none⟩),.int .i64 c,.bool b] w fun e w'=>e=.returned (.bool (C.bit c b s).1)∧∃ F',At F' w' (C.bit c b s).2∧Went F w F' w'
 flat:∀ {F:List Nat} {w:World} {s:σ} {n:Nat} (b:Bool),At F w s→Ok n s→n≤900000000 →
  Calls Tryz.prog 157 #[.pointer (some ⟨R,0,none⟩),.bool b] w fun e w'=>e=.returned (.bool (C.flat b s).1)∧∃ F',At F' w' (C.flat b s).2∧Went F w F' w'
section
variable {R:Nat} (X:KC R)
theorem bne_dec (a b:Int):(a != b)=decide (a≠b):=by by_cases h:a=b <;> simp [h]
theorem beq_dec (a b:Int):(a == b)=decide (a=b):=by by_cases h:a=b <;> simp [h]
theorem pow2_in {k:Nat} (h:k≤13):(2:Int) ^ k≤8192∧(0:Int)≤(2:Int) ^ k:=by
 rcases (by omega:k=0∨k=1∨k=2∨k=3∨k=4∨k=5∨k=6∨k=7∨k=8∨k=9∨k=10∨k=11∨k=12∨k=13) with rfl | rfl | rfl | rfl | rfl | rfl | rfl | rfl | rfl | rfl | rfl | rfl | rfl | rfl <;> decide
end
section
variable {σ:Type} {C:CodO σ} {base last a i:Nat} {l out:List Int} {rest:List Nat} {m m1 m2 m3:σ} {x:Int} {b:Bool}
theorem goG_skip (hi:i<last) (hB:C.bit (base+1+min i 7) (decide (l.getD a 0≠0)) m=(false,m1)):coefGoG C base last l (a :: rest) i out m=coefGoG C base last l rest (i+1) out m1:=by
 rw [coefGoG,if_pos hi,hB];exact if_neg (by simp)
theorem goG_bad (hi:i<last) (hB:C.bit (base+1+min i 7) (decide (l.getD a 0≠0)) m=(true,m1)) (hL:levelG C base (l.getD a 0) m1=(x,m2)) (hx:x < -16320∨16320<x):coefGoG C base last l (a :: rest) i out m=(.error ⟨[(sCoef,(i:Int))],3⟩,m2):=by
 rw [coefGoG,if_pos hi,hB];simp only [hL,if_true,if_pos hx]
theorem goG_done (hi:i<last) (hB:C.bit (base+1+min i 7) (decide (l.getD a 0≠0)) m=(true,m1)) (hL:levelG C base (l.getD a 0) m1=(x,m2)) (hx:¬ (x < -16320∨16320<x)) (h9:C.bit (base+9+min i 7) (zerosAt l rest) m2=(true,m3)):coefGoG C base last l (a :: rest) i out m=(.ok (out.set a x),m3):=by
 rw [coefGoG,if_pos hi,hB];simp only [hL,if_true,if_neg hx,h9]
theorem goG_more (hi:i<last) (hB:C.bit (base+1+min i 7) (decide (l.getD a 0≠0)) m=(true,m1)) (hL:levelG C base (l.getD a 0) m1=(x,m2)) (hx:¬ (x < -16320∨16320<x)) (h9:C.bit (base+9+min i 7) (zerosAt l rest) m2=(false,m3)):coefGoG C base last l (a :: rest) i out m=coefGoG C base last l rest (i+1) (out.set a x) m3:=by
 rw [coefGoG,if_pos hi,hB];simp only [hL,if_true,if_neg hx,h9];exact if_neg (by simp)
theorem goG_bad' (hi:¬ i<last) (hL:levelG C base (l.getD a 0) m=(x,m2)) (hx:x < -16320∨16320<x):coefGoG C base last l (a :: rest) i out m=(.error ⟨[(sCoef,(i:Int))],3⟩,m2):=by
 rw [coefGoG,if_neg hi];simp only [hL,if_pos hx]
theorem goG_more' (hi:¬ i<last) (hL:levelG C base (l.getD a 0) m=(x,m2)) (hx:¬ (x < -16320∨16320<x)):coefGoG C base last l (a :: rest) i out m=coefGoG C base last l rest (i+1) (out.set a x) m2:=by
 rw [coefGoG,if_neg hi];simp only [hL,if_neg hx]
end
theorem natI_at2 (l:List Nat) (i:Nat):(natI l).getD i 0=((l.getD i 0:Nat):Int):=by
 unfold natI
 rw [List.getD_eq_getElem?_getD,List.getD_eq_getElem?_getD,List.getElem?_map]
 cases l[i]? <;> rfl
/-- a coder's blocks and the block of a list that is made, behind W -/
structure CLoop (g:Nat) (F:List Nat) (W:World) (Fc:List Nat) (w:World):Prop where
 only:Only (g :: F) W w
 new:∀ x∈Fc,x∈F∨W.heap.size≤x
section
variable {g:Nat} {F Fc F':List Nat} {W w w':World}
theorem CLoop.went (h:CLoop g F W Fc w) (k:Went Fc w F' w'):CLoop g F W F' w' :=
 ⟨h.only.trans k.1 (fun x hx _=>hx) (fun x hx hl=>by rcases h.new x hx with a | a;exact List.mem_cons_of_mem _ a;omega),fun x hx=>(k.2 x hx).elim (h.new x) (fun a=>.inr (Nat.le_trans h.only.size a))⟩
theorem CLoop.store (h:CLoop g F W Fc w) (k:Only [g] w w'):CLoop g F W Fc w':=⟨h.only.trans k (fun x hx _=>hx) (fun x hx _=>by rw [mSg] at hx;rw [hx];exact List.mem_cons_self ..),h.new⟩
theorem CLoop.apart (h:CLoop g F W Fc w) (hg:g<W.heap.size) (hF:g∉F):g∉Fc:=fun hx=>(h.new g hx).elim hF (fun a=>by omega)
theorem CLoop.end {w0:World} {e:Nat} (hq:Only [] w0 W) (h:CLoop g F W Fc w) (o:Only [e] w w') (hg:w0.heap.size≤g) (he:w0.heap.size≤e):Went F w0 Fc w' :=
 ⟨(hq.trans h.only (U:=F) (by simp) (fun x hx hl=>by rcases List.mem_cons.1 hx with rfl | a;omega;exact a)).trans o (fun x hx _=>hx) (fun x hx hl=>by rw [mSg] at hx;omega),fun x hx=>(h.new x hx).imp_right (fun a=>Nat.le_trans hq.size a)⟩
end
end Go.Proofs.YtmdobcffijnaoaaGreatDoor
