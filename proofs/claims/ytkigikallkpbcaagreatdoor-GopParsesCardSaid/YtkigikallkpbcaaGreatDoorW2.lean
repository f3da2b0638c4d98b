/- Joined texts: EQn, EPl, EOk, EAll, EStl, EPeak. Conditions: each part names its own. -/
import Derived.Test.YtkigikallkpbcaaGreatDoorK1
import Derived.Test.YtkigikallkpbcaaGreatDoorW1
import Derived.Test.YtkigikallkpbcaaGreatDoorR1
namespace Go.Proofs.YtkigikallkpbcaaGreatDoor
open Go.RowKit
set_option linter.unusedVariables false
set_option linter.unusedSimpArgs false
set_option maxRecDepth 100000
set_option maxHeartbeats 16000000
theorem dotD_addr:∀ {c a b:List Int},a.length=b.length→dotD c (addV a b)=dotD c a+dotD c b
 | [],a,b,h=>by simp [dotD]
 | x :: c,[],[],h=>by simp [dotD,addV]
 | x :: c,a :: a2,b :: b2,h=>by
  have ih:=dotD_addr (c:=c) (a:=a2) (b:=b2) (by simpa using h)
  simp only [dotD,addV,List.zipWith_cons_cons,List.sum_cons] at ih ⊢
  rw [ih,Int.mul_add];omega
 | _ :: _,[],_ :: _,h=>by cases h
 | _ :: _,_ :: _,[],h=>by cases h
theorem dot_abs {B:Int} (hB:0≤B):∀ (c l:List Int),(∀ x∈c,x=1∨x=-1)→(∀ x∈l,-B≤x∧x≤B)→-(l.length*B)≤dotD c l∧dotD c l≤l.length*B
 | [],l,_,_=>by
  have:0≤(l.length:Int)*B:=Int.mul_nonneg (by omega) hB
  simp only [dotD,List.zipWith_nil_left,List.sum_nil]
  omega
 | _ :: _,[],_,_=>by simp [dotD]
 | x :: c,y :: l,hc,hl=>by
  have ih:=dot_abs hB c l (fun z hz=>hc z (List.mem_cons_of_mem _ hz)) (fun z hz=>hl z (List.mem_cons_of_mem _ hz))
  have h1:=hl y (List.mem_cons_self ..)
  have e:((y :: l).length:Int)*B=l.length*B+B:=by rw [List.length_cons];push_cast;rw [Int.add_mul,Int.one_mul]
  simp only [dotD,List.zipWith_cons_cons,List.sum_cons] at ih ⊢
  rw [e]
  rcases hc x (List.mem_cons_self ..) with rfl | rfl <;> omega
theorem sgnD_one (u x:Nat):sgnD u x=1∨sgnD u x=-1:=by unfold sgnD;split <;> simp
theorem sgnRow_one (n k:Nat):∀ x∈sgnRow n k,x=1∨x=-1:=by
 intro x hx
 unfold sgnRow at hx
 obtain ⟨i,_,rfl⟩:=List.mem_map.1 hx
 rcases sgnD_one (k % n) (i % n) with a | a <;> rcases sgnD_one (k / n) (i / n) with b | b <;> rw [a,b] <;> simp
section
variable {n:Nat}
theorem turnD_add (hn:n=4∨n=8) {a b:List Int} (ha:a.length=n*n) (hb:b.length=n*n):turnD (addV a b)=addV (turnD a) (turnD b):=by
 have hab:(addV a b).length=n*n:=by rw [addV,List.length_zipWith,ha,hb,Nat.min_self]
 rw [turnD_sums hn hab,turnD_sums hn ha,turnD_sums hn hb]
 unfold addV
 rw [List.zipWith_map]
 rw [List.zipWith_self]
 refine List.map_congr_left (fun k _=>?_)
 exact dotD_addr (by rw [ha,hb])
theorem turnD_abs (hn:n=4∨n=8) {l:List Int} (hl:l.length=n*n) {B:Int} (hB:0≤B) (h:∀ x∈l,-B≤x∧x≤B):∀ x∈turnD l,-((n*n:Nat)*B)≤x∧x≤(n*n:Nat)*B:=by
 intro x hx
 rw [turnD_sums hn hl] at hx
 obtain ⟨k,_,rfl⟩:=List.mem_map.1 hx
 have:=dot_abs hB (sgnRow n k) l (sgnRow_one n k) h
 rw [hl] at this
 exact this
theorem sgnV_4:turnGoV 7 1 (sgnV 4)=(identV 16).map (fun c=>c.map (16 * ·)):=by kernel_rfl
theorem sgnV_8:turnGoV 7 1 (sgnV 8)=(identV 64).map (fun c=>c.map (64 * ·)):=by kernel_rfl
theorem dotD_mul (a:Int):∀ (c l:List Int),dotD (c.map (a * ·)) l=a*dotD c l
 | [],l=>by simp [dotD]
 | _ :: _,[]=>by simp [dotD]
 | x :: c,y :: l=>by
  have ih:=dotD_mul a c l
  simp only [dotD,List.map_cons,List.zipWith_cons_cons,List.sum_cons] at ih ⊢
  rw [ih,Int.mul_add,Int.mul_assoc]
theorem sgnV_rows (m:Nat):RowsV (m*m) (sgnV m):=⟨by simp [sgnV],fun c hc=>by
 obtain ⟨i,_,rfl⟩:=List.mem_map.1 hc
 simp [sgnRow]⟩
theorem turnD_twice (hn:n=4∨n=8) {l:List Int} (hl:l.length=n*n):turnD (turnD l)=l.map (((n*n:Nat):Int) * ·):=by
 have e1:turnD l=evalV (sgnV n) l:=by rw [turnD_sums hn hl];simp [evalV,sgnV]
 rw [e1]
 rcases hn with rfl | rfl
 ·have h:=evalV_go (e:=4) l 7 1 (sgnV_rows 4)
  show turnGo 7 1 (evalV (sgnV 4) l)=_
  rw [← h,sgnV_4]
  have hi:=evalV_ident hl
  unfold evalV at hi ⊢
  rw [List.map_map]
  conv=>rhs;rw [← hi]
  rw [List.map_map]
  exact List.map_congr_left (fun c _=>dotD_mul 16 c l)
 ·have h:=evalV_go (e:=6) l 7 1 (sgnV_rows 8)
  show turnGo 7 1 (evalV (sgnV 8) l)=_
  rw [← h,sgnV_8]
  have hi:=evalV_ident hl
  unfold evalV at hi ⊢
  rw [List.map_map]
  conv=>rhs;rw [← hi]
  rw [List.map_map]
  exact List.map_congr_left (fun c _=>dotD_mul 64 c l)
end
/-! ### levels -/
/-- the level of a number -/
def levD (qp c:Int):Int:=if c<0 then -((stepD qp / 2-c) / stepD qp) else (c+stepD qp / 2) / stepD qp
def levelsOf (d:List Int) (qp:Int):List Int:=(turnD d).map (levD qp)
theorem qp_cases {q:Nat} (h:q≤15) (P:Int→Prop) (hP:∀ s∈stepsD,P s):P (stepD q):=by
 unfold stepD
 refine hP _ ?_
 rw [List.getD_eq_getElem?_getD,List.getElem?_eq_getElem (by simp [stepsD];omega)]
 exact List.getElem_mem _
theorem lev_near {q:Nat} (h:q≤15) (c:Int):-(stepD q / 2)≤levD q c*stepD q-c∧levD q c*stepD q-c≤stepD q / 2∧(0≤c→0≤levD q c∧levD q c≤c)∧(c≤0→c≤levD q c∧levD q c≤0)∧(levD q c=0→-(stepD q / 2)≤c∧c≤stepD q / 2):=by
 unfold levD
 refine qp_cases h (fun s=>-(s / 2)≤(if c<0 then -((s / 2-c) / s) else (c+s / 2) / s)*s-c∧(if c<0 then -((s / 2-c) / s) else (c+s / 2) / s)*s-c≤s / 2∧(0≤c→0≤(if c<0 then -((s / 2-c) / s) else (c+s / 2) / s)∧(if c<0 then -((s / 2-c) / s) else (c+s / 2) / s)≤c)∧(c≤0→c≤(if c<0 then -((s / 2-c) / s) else (c+s / 2) / s)∧(if c<0 then -((s / 2-c) / s) else (c+s / 2) / s)≤0)∧((if c<0 then -((s / 2-c) / s) else (c+s / 2) / s)=0→-(s / 2)≤c∧c≤s / 2)) ?_
 intro s hs
 simp only [stepsD,List.mem_cons,List.not_mem_nil,or_false] at hs
 rcases hs with rfl | rfl | rfl | rfl | rfl | rfl | rfl | rfl | rfl | rfl | rfl | rfl | rfl | rfl | rfl | rfl <;> (by_cases hc:c<0 <;> simp only [if_pos,if_neg,hc,not_false_eq_true] <;> omega)
theorem levelsOf_len (d:List Int) (qp:Int):(levelsOf d qp).length=d.length:=by simp [levelsOf,turnD_len]
theorem levelsOf_ok {n q:Nat} (hn:n=4∨n=8) {d:List Int} (hl:d.length=n*n) (hd:∀ x∈d,-255≤x∧x≤255) (h:q≤15):LevOk (levelsOf d q):=by
 intro x hx
 unfold levelsOf at hx
 obtain ⟨c,hc,rfl⟩:=List.mem_map.1 hx
 have hb:=turnD_abs hn hl (by omega) hd c hc
 have hnn:((n*n:Nat):Int)*255≤16320:=by rcases hn with rfl | rfl <;> decide
 obtain ⟨_,_,a,b,_⟩:=lev_near h c
 by_cases h0:0≤c
 ·have:=a h0;omega
 ·have:=b (by omega);omega
/-- the error of levels -/
def levGap (q:Int) (c:List Int):List Int:=c.map fun x=>levD q x*stepD q-x
theorem values_err (q:Int) (c:List Int):valuesD (c.map (levD q)) q=addV c (levGap q c):=by
 unfold valuesD levGap addV
 rw [List.map_map,List.zipWith_map_right,List.zipWith_self]
 refine List.map_congr_left (fun x _=>?_)
 show levD q x*stepD q=x+(levD q x*stepD q-x)
 omega
/-- what levels make of a rest is within half a step of it -/
theorem rest_near {n q:Nat} (hn:n=4∨n=8) {d:List Int} (hl:d.length=n*n) (h:q≤15) {k:Nat} (hk:k<n*n) :
  -(stepD q / 2)≤(restD (levelsOf d q) q).getD k 0-d.getD k 0∧(restD (levelsOf d q) q).getD k 0-d.getD k 0≤stepD q / 2:=by
 have hs0:0≤stepD q / 2:=qp_cases h (fun s=>0≤s / 2) (fun s hs=>by
  simp only [stepsD,List.mem_cons,List.not_mem_nil,or_false] at hs
  rcases hs with rfl | rfl | rfl | rfl | rfl | rfl | rfl | rfl | rfl | rfl | rfl | rfl | rfl | rfl | rfl | rfl <;> decide)
 have ht:(turnD d).length=n*n:=by rw [turnD_len];exact hl
 have hel:(levGap q (turnD d)).length=n*n:=by simp [levGap,ht]
 have hE:=turnD_abs hn hel hs0 (fun x hx=>by
  unfold levGap at hx
  obtain ⟨c,_,rfl⟩:=List.mem_map.1 hx
  obtain ⟨a,b,_⟩:=lev_near h c
  exact ⟨a,b⟩)
 have e1:turnD (valuesD (levelsOf d q) q)=addV (d.map (((n*n:Nat):Int) * ·)) (turnD (levGap q (turnD d))):=by
  unfold levelsOf
  rw [values_err,turnD_add hn ht hel,turnD_twice hn hl]
 have hlen:(valuesD (levelsOf d q) q).length=n*n:=by rw [valuesD_len,levelsOf_len,hl]
 unfold restD inverseD
 rw [e1,hlen]
 have hk1:k<d.length:=by rw [hl];exact hk
 have hk2:k<(turnD (levGap q (turnD d))).length:=by rw [turnD_len,hel];exact hk
 have hm:=hE _ (List.getElem_mem hk2)
 have e2:((addV (d.map (((n*n:Nat):Int) * ·)) (turnD (levGap q (turnD d)))).map fun v=>(v+((n*n:Nat):Int) / 2) / ((n*n:Nat):Int)).getD k 0=(((n*n:Nat):Int)*d.getD k 0+(turnD (levGap q (turnD d)))[k]+((n*n:Nat):Int) / 2) / ((n*n:Nat):Int):=by
  rw [List.getD_eq_getElem?_getD,List.getElem?_map,addV,List.getElem?_zipWith,List.getElem?_map,List.getElem?_eq_getElem hk1,List.getElem?_eq_getElem hk2,List.getD_eq_getElem?_getD,List.getElem?_eq_getElem hk1]
  rfl
 rw [e2]
 generalize (turnD (levGap q (turnD d)))[k]=t at *
 generalize d.getD k 0=x at *
 generalize stepD q / 2=g at *
 rcases hn with rfl | rfl
 ·simp only [show ((4*4:Nat):Int)=16 from rfl] at hm ⊢
  omega
 ·simp only [show ((8*8:Nat):Int)=64 from rfl] at hm ⊢
  omega
/-- a square of a frame, as it is -/
def getSq (f:FrameD) (x y:Int) (n:Nat):List Int:=(List.range n).flatMap fun j:Nat=>(List.range n).map fun i:Nat=>f.pix.getD ((y+(j:Int))*f.W+x+(i:Int)).toNat 0
def sadD (a b:List Int):Int:=(List.zipWith (fun x y=>max (x-y) (y-x)) a b).sum
def levelsE (b p:List Int) (qp:Int):List Int:=levelsOf (subV b p) qp
def costE (a b:List Int) (vx vy:Int):Int:=4*sadD a b+max vx (-vx)+max vy (-vy)
/-- a search on its way: the best vector so far, what it costs -/
structure Seek where
 vx:Int
 vy:Int
 cost:Int
def tryE (prev:FrameD) (b:List Int) (x y:Int) (s:Seek) (v:Int×Int):Seek :=
 if costE (blockD prev x y 8 v.1 v.2) b v.1 v.2<s.cost then ⟨v.1,v.2,costE (blockD prev x y 8 v.1 v.2) b v.1 v.2⟩ else s
def gridE (reach:Nat):List (Int×Int):=(List.range (2*reach+1)).flatMap fun j:Nat=>(List.range (2*reach+1)).map fun i:Nat=>(2*((i:Int)-reach),2*((j:Int)-reach))
def mayV (v:Int×Int):Bool:=decide (-15≤v.1) && decide (v.1≤15) && decide (-15≤v.2) && decide (v.2≤15)
def nearE (vx vy:Int):List (Int×Int):=((List.range 3).flatMap fun j:Nat=>(List.range 3).map fun i:Nat=>(vx+((i:Int)-1),vy+((j:Int)-1))).filter mayV
def seek0 (prev:FrameD) (b:List Int) (x y:Int):Seek:=⟨0,0,costE (blockD prev x y 8 0 0) b 0 0⟩
def seek1 (prev:FrameD) (b:List Int) (x y:Int) (reach:Nat):Seek:=(gridE reach).foldl (tryE prev b x y) (seek0 prev b x y)
def searchE (prev:FrameD) (b:List Int) (x y:Int) (reach:Nat):Seek :=
 (nearE (seek1 prev b x y reach).vx (seek1 prev b x y reach).vy).foldl (tryE prev b x y) (seek1 prev b x y reach)
/-- the mode that is the most alike, how unlike it is -/
def bestGo (b top left:List Int) (corner:Int):List Nat→Nat×Int→Nat×Int
 | [],r=>r
 | m :: ms,r=>bestGo b top left corner ms (if r.2<0∨sadD b (predD m top left corner)<r.2 then (m,sadD b (predD m top left corner)) else r)
def bestE (b top left:List Int) (corner:Int):Nat×Int:=bestGo b top left corner [0,1,2,3] (0,-1)
def bestAt (cur:FrameD) (b:List Int) (x y:Int) (n:Nat):Nat×Int:=bestE b (topD cur x y n) (leftD cur x y n) (sampleD cur (x-1) (y-1))
def predE (cur:FrameD) (x y:Int) (n:Nat) (m:Nat):List Int:=predD m (topD cur x y n) (leftD cur x y n) (sampleD cur (x-1) (y-1))
def oneL (cur:FrameD) (b:List Int) (x y:Int) (n:Nat) (qp:Int):List Int:=levelsE b (predE cur x y n (bestAt cur b x y n).1) qp
def quarterE (b:List Int) (q:Nat):List Int:=(List.range 16).map fun k:Nat=>b.getD ((q / 2*4+k / 4)*8+q % 2*4+k % 4) 0
/-- four squares of a square, from the i-th on: k are left -/
def fourGo (b:List Int) (x y qp:Int):Nat→Nat→FrameD→List Int→List (List Int)→Int→List Int×List (List Int)×Int
 | 0,_,_,ms,ls,c=>(ms,ls,c)
 | k+1,i,cur,ms,ls,c =>
  fourGo b x y qp k (i+1)
   (oneD cur (x+((i % 2:Nat):Int)*4) (y+((i / 2:Nat):Int)*4) 4 (bestAt cur (quarterE b i) (x+((i % 2:Nat):Int)*4) (y+((i / 2:Nat):Int)*4) 4).1 qp (oneL cur (quarterE b i) (x+((i % 2:Nat):Int)*4) (y+((i / 2:Nat):Int)*4) 4 qp))
   (ms ++ [((bestAt cur (quarterE b i) (x+((i % 2:Nat):Int)*4) (y+((i / 2:Nat):Int)*4) 4).1:Int)])
   (ls ++ [oneL cur (quarterE b i) (x+((i % 2:Nat):Int)*4) (y+((i / 2:Nat):Int)*4) 4 qp])
   (c+4*(bestAt cur (quarterE b i) (x+((i % 2:Nat):Int)*4) (y+((i / 2:Nat):Int)*4) 4).2)
def fourE (cur:FrameD) (b:List Int) (x y qp:Int):List Int×List (List Int)×Int:=fourGo b x y qp 4 0 cur [] [] 24
/-- is the square as the frame ahead has it? -/
def sameE (prev:FrameD) (b:List Int) (x y qp:Int):Bool:=(levelsE b (blockD prev x y 8 0 0) qp).all (· == 0)
def sqMoved (prev:FrameD) (b:List Int) (x y qp:Int) (reach:Nat):SqD :=
 ⟨1,0,[0,0,0,0],(searchE prev b x y reach).vx,(searchE prev b x y reach).vy,levelsE b (blockD prev x y 8 (searchE prev b x y reach).vx (searchE prev b x y reach).vy) qp,[[],[],[],[]]⟩
def sqLarge (cur:FrameD) (b:List Int) (x y qp:Int):SqD:=⟨2,(bestAt cur b x y 8).1,[0,0,0,0],0,0,oneL cur b x y 8 qp,[[],[],[],[]]⟩
def sqSmall (cur:FrameD) (b:List Int) (x y qp:Int):SqD:=⟨3,0,(fourE cur b x y qp).1,0,0,[],(fourE cur b x y qp).2.1⟩
/-- the better one of two squares -/
def betterE (r:SqD×Int) (s:SqD) (c:Int):SqD×Int:=if r.2<0∨c<r.2 then (s,c) else r
def movedE (prev:FrameD) (b:List Int) (x y qp:Int) (reach:Nat):SqD×Int:=(sqMoved prev b x y qp reach,costE (blockD prev x y 8 (searchE prev b x y reach).vx (searchE prev b x y reach).vy) b (searchE prev b x y reach).vx (searchE prev b x y reach).vy)
def restE (cur:FrameD) (b:List Int) (x y qp:Int) (r:SqD×Int):SqD :=
 (betterE (betterE r (sqLarge cur b x y qp) (4*(bestAt cur b x y 8).2+8)) (sqSmall cur b x y qp) (fourE cur b x y qp).2.2).1
/-- how a square is coded -/
def chooseE (src prev:FrameD) (key:Bool) (qp:Int) (reach:Nat) (cur:FrameD) (x y:Int):SqD :=
 if key then restE cur (getSq src x y 8) x y qp (sq0,-1)
 else if sameE prev (getSq src x y 8) x y qp then sq0
 else restE cur (getSq src x y 8) x y qp (movedE prev (getSq src x y 8) x y qp reach)
/-! ### it may be written -/
theorem getSq_len (f:FrameD) (x y:Int) (n:Nat):(getSq f x y n).length=n*n:=by
 unfold getSq
 rw [flatMap_len n _ _ (fun j _=>by simp),List.length_range]
theorem getSq_in {f:FrameD} (h:SamOk f.pix) (x y:Int) (n:Nat):SamOk (getSq f x y n):=by
 intro v hv
 unfold getSq at hv
 obtain ⟨j,_,hv⟩:=List.mem_flatMap.1 hv
 obtain ⟨i,_,rfl⟩:=List.mem_map.1 hv
 exact h.at _
theorem quarterE_len (b:List Int) (q:Nat):(quarterE b q).length=16:=by simp [quarterE]
theorem quarterE_in {b:List Int} (h:SamOk b) (q:Nat):SamOk (quarterE b q):=by
 intro v hv
 unfold quarterE at hv
 obtain ⟨k,_,rfl⟩:=List.mem_map.1 hv
 exact h.at _
theorem subV_in {a b:List Int} (ha:SamOk a) (hb:SamOk b):∀ x∈subV a b,-255≤x∧x≤255:=by
 intro x hx
 unfold subV at hx
 obtain ⟨i,hi⟩:=List.getElem?_of_mem hx
 rw [List.getElem?_zipWith] at hi
 cases h1:a[i]? with
 | none=>rw [h1] at hi;cases hi
 | some u =>
  cases h2:b[i]? with
  | none=>rw [h1,h2] at hi;cases hi
  | some v =>
   rw [h1,h2] at hi
   simp only [Option.some.injEq] at hi
   have:=ha u (List.mem_of_getElem? h1)
   have:=hb v (List.mem_of_getElem? h2)
   omega
theorem subV_len {a b:List Int} {n:Nat} (ha:a.length=n) (hb:b.length=n):(subV a b).length=n:=by rw [subV,List.length_zipWith,ha,hb,Nat.min_self]
theorem levelsE_ok {n q:Nat} (hn:n=4∨n=8) {b p:List Int} (hb:b.length=n*n) (hp:p.length=n*n) (sb:SamOk b) (sp:SamOk p) (h:q≤15):(levelsE b p q).length=n*n∧LevOk (levelsE b p q) :=
 ⟨by unfold levelsE;rw [levelsOf_len,subV_len hb hp],levelsOf_ok hn (subV_len hb hp) (subV_in sb sp) h⟩
theorem bestGo_le (b top left:List Int) (corner:Int):∀ (ms:List Nat) (r:Nat×Int),(∀ m∈ms,m≤3)→r.1≤3→(bestGo b top left corner ms r).1≤3
 | [],r,_,h=>h
 | m :: ms,r,hm,h=>by
  unfold bestGo
  refine bestGo_le b top left corner ms _ (fun x hx=>hm x (List.mem_cons_of_mem _ hx)) ?_
  split
  ·exact hm m (List.mem_cons_self ..)
  ·exact h
theorem bestAt_le (cur:FrameD) (b:List Int) (x y:Int) (n:Nat):(bestAt cur b x y n).1≤3:=bestGo_le _ _ _ _ _ _ (by simp) (by simp)
theorem predE_ok {cur:FrameD} (h:SamOk cur.pix) (x y:Int) {n:Nat} (hn:1≤n) (m:Nat):(predE cur x y n m).length=n*n∧SamOk (predE cur x y n m) :=
 ⟨by unfold predE;rw [predD_len,topD_len],predD_in (topD_in h _ _ _) (leftD_in h _ _ _) (by rw [topD_len];exact hn) _ _⟩
theorem oneL_ok {n q:Nat} (hn:n=4∨n=8) {cur:FrameD} (h:SamOk cur.pix) {b:List Int} (hb:b.length=n*n) (sb:SamOk b) (x y:Int) (hq:q≤15):(oneL cur b x y n q).length=n*n∧LevOk (oneL cur b x y n q):=by
 obtain ⟨a,c⟩:=predE_ok h x y (n:=n) (by omega) (bestAt cur b x y n).1
 exact levelsE_ok hn hb a sb c hq
theorem oneD_sam {f:FrameD} (h:SamOk f.pix) (x y:Int) (n:Nat) (mode qp:Int) (l:List Int):SamOk (oneD f x y n mode qp l).pix:=by
 unfold oneD layD
 exact foldl_inv SamOk _ _ _ h (fun l j _ hl=>rowD_in hl (((addD_in _ _ _).drop _).take _) _)
theorem fourGo_ok {q:Nat} (hq:q≤15) {b:List Int} (sb:SamOk b) (x y:Int):∀ (k i:Nat) {cur:FrameD} (ms:List Int) (ls:List (List Int)) (c:Int),SamOk cur.pix→(∀ z∈ms,0≤z∧z≤3)→(∀ l∈ls,l.length=16∧LevOk l) →
  (fourGo b x y q k i cur ms ls c).1.length=ms.length+k∧(fourGo b x y q k i cur ms ls c).2.1.length=ls.length+k∧(∀ z∈(fourGo b x y q k i cur ms ls c).1,0≤z∧z≤3)∧∀ l∈(fourGo b x y q k i cur ms ls c).2.1,l.length=16∧LevOk l
 | 0,i,cur,ms,ls,c,h,h1,h2=>⟨rfl,rfl,h1,h2⟩
 | k+1,i,cur,ms,ls,c,h,h1,h2=>by
  unfold fourGo
  have L:=oneL_ok (n:=4) (.inl rfl) h (quarterE_len b i) (quarterE_in sb i) (x+((i % 2:Nat):Int)*4) (y+((i / 2:Nat):Int)*4) hq
  have M:=bestAt_le cur (quarterE b i) (x+((i % 2:Nat):Int)*4) (y+((i / 2:Nat):Int)*4) 4
  obtain ⟨a,b',c',d⟩:=fourGo_ok hq sb x y k (i+1) (ms ++ [((bestAt cur (quarterE b i) (x+((i % 2:Nat):Int)*4) (y+((i / 2:Nat):Int)*4) 4).1:Int)]) (ls ++ [oneL cur (quarterE b i) (x+((i % 2:Nat):Int)*4) (y+((i / 2:Nat):Int)*4) 4 q]) (c+4*(bestAt cur (quarterE b i) (x+((i % 2:Nat):Int)*4) (y+((i / 2:Nat):Int)*4) 4).2)
   (oneD_sam h (x+((i % 2:Nat):Int)*4) (y+((i / 2:Nat):Int)*4) 4 (bestAt cur (quarterE b i) (x+((i % 2:Nat):Int)*4) (y+((i / 2:Nat):Int)*4) 4).1 q (oneL cur (quarterE b i) (x+((i % 2:Nat):Int)*4) (y+((i / 2:Nat):Int)*4) 4 q))
   (fun z hz=>by rcases List.mem_append.1 hz with hz | hz;exact h1 z hz;rw [mSg] at hz;omega)
   (fun l hl=>by rcases List.mem_append.1 hl with hl | hl;exact h2 l hl;rw [mSg] at hl;rw [hl];exact L)
  rw [List.length_append,List.length_singleton] at a b'
  exact ⟨by omega,by omega,c',d⟩
/-- a vector that may be -/
def SeekOk (s:Seek):Prop:=-15≤s.vx∧s.vx≤15∧-15≤s.vy∧s.vy≤15
theorem tryE_fold {prev:FrameD} {b:List Int} {x y:Int} {P:Int→Int→Prop}:∀ (vs:List (Int×Int)) (s:Seek),(∀ v∈vs,P v.1 v.2)→P s.vx s.vy→P (vs.foldl (tryE prev b x y) s).vx (vs.foldl (tryE prev b x y) s).vy
 | [],s,_,h=>h
 | v :: vs,s,hv,h=>by
  rw [List.foldl_cons]
  refine tryE_fold vs _ (fun u hu=>hv u (List.mem_cons_of_mem _ hu)) ?_
  unfold tryE
  split
  ·exact hv v (List.mem_cons_self ..)
  ·exact h
theorem searchE_ok (prev:FrameD) (b:List Int) (x y:Int) {reach:Nat} (hr:reach≤7):SeekOk (searchE prev b x y reach):=by
 have h1:SeekOk (seek1 prev b x y reach):=by
  refine tryE_fold (P:=fun a c=>-15≤a∧a≤15∧-15≤c∧c≤15) _ _ (fun v hv=>?_) (by simp [seek0])
  unfold gridE at hv
  obtain ⟨j,hj,hv⟩:=List.mem_flatMap.1 hv
  obtain ⟨i,hi,rfl⟩:=List.mem_map.1 hv
  rw [List.mem_range] at hi hj
  simp only
  omega
 refine tryE_fold (P:=fun a c=>-15≤a∧a≤15∧-15≤c∧c≤15) _ _ (fun v hv=>?_) h1
 unfold nearE at hv
 have:=(List.mem_filter.1 hv).2
 unfold mayV at this
 simp only [Bool.and_eq_true,decide_eq_true_eq] at this
 obtain ⟨⟨⟨a,c⟩,d⟩,e⟩:=this
 exact ⟨a,c,d,e⟩
theorem betterE_either {P:SqD→Prop} {r:SqD×Int} {s:SqD} {c:Int} (h:0≤r.2→P r.1) (g:P s):P (betterE r s c).1:=by
 unfold betterE
 split
 ·exact g
 ·rename_i hn;exact h (by omega)
theorem small_wr {key:Bool} {ms:List Int} {ls:List (List Int)} (a:ms.length=4) (b:ls.length=4) (c:∀ z∈ms,0≤z∧z≤3) (d:∀ l∈ls,l.length=16∧LevOk l):SqWr key ⟨3,0,ms,0,0,[],ls⟩ :=
 ⟨Nat.le_refl _,(fun _=>by show 2≤3;omega),(fun h=>by cases h),(fun h=>by rcases h with h | h <;> cases h),(fun h=>by cases h),fun _=>⟨a,b,c,d⟩⟩
theorem large_wr {key:Bool} {m:Nat} {l:List Int} (a:m≤3) (b:l.length=64∧LevOk l):SqWr key ⟨2,m,[0,0,0,0],0,0,l,[[],[],[],[]]⟩ :=
 ⟨(by show 2≤3;omega),fun _=>Nat.le_refl _,fun _=>a,fun _=>b,(fun h=>by cases h),(fun h=>by cases h)⟩
theorem moved_wr {vx vy:Int} {l:List Int} (a:-15≤vx∧vx≤15∧-15≤vy∧vy≤15) (b:l.length=64∧LevOk l):SqWr false ⟨1,0,[0,0,0,0],vx,vy,l,[[],[],[],[]]⟩ :=
 ⟨(by show 1≤3;omega),(fun h=>by cases h),(fun h=>by cases h),fun _=>b,fun _=>a,(fun h=>by cases h)⟩
theorem ahead_wr:SqWr false sq0:=⟨(by show 0≤3;omega),(fun h=>by cases h),(fun h=>by cases h),(fun h=>by rcases h with h | h <;> cases h),(fun h=>by cases h),(fun h=>by cases h)⟩
theorem choose_wr {src prev cur:FrameD} {key:Bool} {q reach:Nat} (hs:SamOk src.pix) (hc:SamOk cur.pix) (hp:key=false→SamOk prev.pix) (hq:q≤15) (hr:reach≤7) (x y:Int):SqWr key (chooseE src prev key q reach cur x y):=by
 have hb:=getSq_len src x y 8
 have sb:=getSq_in hs x y 8
 unfold chooseE
 generalize getSq src x y 8=b at *
 have L:SqWr key (sqLarge cur b x y q):=large_wr (bestAt_le _ _ _ _ _) (oneL_ok (n:=8) (.inr rfl) hc hb sb x y hq)
 have S:SqWr key (sqSmall cur b x y q):=by
  have F:=fourGo_ok hq sb x y 4 0 [] [] 24 hc (fun z hz=>by cases hz) (fun l hl=>by cases hl)
  unfold sqSmall fourE
  generalize fourGo b x y (q:Int) 4 0 cur [] [] 24=G at *
  obtain ⟨a,b,c,d⟩:=F
  exact small_wr a b c d
 have R:∀ r:SqD×Int,(0≤r.2→SqWr key r.1)→SqWr key (restE cur b x y q r):=fun r h=>betterE_either (fun _=>betterE_either h L) S
 cases key with
 | true =>
  rw [if_pos rfl]
  exact R (sq0,-1) (fun h=>absurd h (by decide))
 | false =>
  rw [if_neg (by simp)]
  split
  ·exact ahead_wr
  ·refine R _ (fun _=>?_)
   have v:=searchE_ok prev b x y hr
   exact moved_wr v (levelsE_ok (n:=8) (.inr rfl) hb (blockD_len prev x y 8 (searchE prev b x y reach).vx (searchE prev b x y reach).vy) sb (blockD_in (hp rfl) _ _ _ _ _) hq)
theorem fix2_n {m:Wrt} (h:65536≤m.r):(Wrt.fix 2 m).n≤m.n+1:=by
 unfold Wrt.fix
 split
 ·unfold Wrt.fix
  rw [if_neg (by show ¬ m.r*256<16777216;omega)]
  show m.n+1≤m.n+1
  omega
 ·show m.n≤m.n+1
  omega
theorem narrow_n {m:Wrt} {w:Int} (h1:65536≤w) (h2:w≤m.r-65536) (b:Bool):(m.narrow w b).n≤m.n+1:=by
 unfold Wrt.narrow
 cases b with
 | true=>exact fix2_n (m:=⟨m.p,m.lo+w,m.n,m.r-w⟩) (by show 65536≤m.r-w;omega)
 | false=>exact fix2_n (m:=⟨m.p,m.lo,m.n,w⟩) h1
theorem chance_w2 {r p:Int} (h1:16777216≤r) (p1:31≤p) (p2:p≤2017):65536≤r / 2048*p∧r / 2048*p≤r-65536:=by
 have q1:8192≤r / 2048:=by omega
 have q2:r / 2048*2048≤r:=by omega
 generalize r / 2048=q at *
 have a:=Int.mul_le_mul_of_nonneg_left p1 (show 0≤q by omega)
 have b:=Int.mul_le_mul_of_nonneg_left p2 (show 0≤q by omega)
 constructor <;> omega
/-- may a coder that writes stand so, of at most n bytes? -/
def WOk (n:Nat) (m:Wrt):Prop:=WrtOk m∧m.n≤n
section
variable {n:Nat} {s:Wrt}
theorem WOk.le {k:Nat} (h:WOk n s) (hk:n≤k):WOk k s:=⟨h.1,Nat.le_trans h.2 hk⟩
theorem wok_bit (c:Nat) (b:Bool) (h:WOk n s) (hc:c<64):WOk (n+1) (wrC.bit c b s).2:=by
 refine ⟨(bitW_ok h.1 hc b).1,?_⟩
 have hx:=chW_at h.1 hc
 obtain ⟨w1,w2⟩:=chance_w2 h.1.r0 hx.1 hx.2
 have:=narrow_n (m:=⟨s.p.set c (learnV (s.p.getD c 0) b),s.lo,s.n,s.r⟩) w1 w2 b
 have h2:=h.2
 show (Wrt.narrow ⟨s.p.set c (learnV (s.p.getD c 0) b),s.lo,s.n,s.r⟩ (s.r / 2048*s.p.getD c 0) b).n≤n+1
 simp only at this
 omega
theorem wok_flat (b:Bool) (h:WOk n s):WOk (n+1) (wrC.flat b s).2:=by
 refine ⟨(flatW_ok h.1 b).1,?_⟩
 have hr:=h.1.r0
 have:=narrow_n (m:=s) (w:=s.r / 2) (by omega) (by omega) b
 have h2:=h.2
 show (s.narrow (s.r / 2) b).n≤n+1
 omega
theorem wok_ones {f:Nat→Nat} (hf:∀ i,f i<64) (v:Int):∀ (k i:Nat) {n:Nat} {s:Wrt},WOk n s→WOk (n+k) (onesG wrC f v k i s).2∧(onesG wrC f v k i s).1≤i+k
 | 0,i,n,s,h=>⟨h,Nat.le_refl _⟩
 | k+1,i,n,s,h=>by
  have a:=wok_bit (f i) (decide ((i:Int)<v)) h (hf i)
  unfold onesG
  split
  ·obtain ⟨x,z⟩:=wok_ones hf v k (i+1) a
   exact ⟨x.le (by omega),by omega⟩
  ·exact ⟨a.le (by omega),by simp⟩
theorem wok_flats (u:Int):∀ (k i:Nat) {n:Nat} {s:Wrt},WOk n s→WOk (n+k) (flatsG wrC u k i s).2∧(flatsG wrC u k i s).1≤i+k
 | 0,i,n,s,h=>⟨h,Nat.le_refl _⟩
 | k+1,i,n,s,h=>by
  have a:=wok_flat (decide ((2:Int) ^ (i+1)≤u)) h
  unfold flatsG
  split
  ·obtain ⟨x,z⟩:=wok_flats u k (i+1) a
   exact ⟨x.le (by omega),by omega⟩
  ·exact ⟨a.le (by omega),by simp⟩
theorem wok_bits (u:Int):∀ (k i:Nat) {n:Nat} {s:Wrt},WOk n s→WOk (n+k) (bitsG wrC u k i s).2
 | 0,i,n,s,h=>h
 | k+1,i,n,s,h=>by
  have a:=wok_flat (decide (u / (2:Int) ^ k % 2=1)) h
  unfold bitsG
  exact (wok_bits u k _ a).le (by omega)
theorem wok_size {base:Nat} (hb:base≤39) (v:Int) (h:WOk n s):WOk (n+40) (sizeG wrC base v s).2:=by
 obtain ⟨a,b⟩:=wok_ones (f:=fun n=>base+17+min n 7) (fun i=>by omega) v 14 0 h
 unfold sizeG
 split
 ·obtain ⟨p,q⟩:=wok_flats (v-13) 13 0 a
  exact (wok_bits (v-13) _ 1 p).le (by omega)
 ·exact a.le (by omega)
theorem wok_level {base:Nat} (hb:base≤39) (v:Int) (h:WOk n s):WOk (n+41) (levelG wrC base v s).2:=by
 unfold levelG
 exact (wok_size hb _ (wok_flat _ h)).le (by omega)
theorem wok_coefGo {base last:Nat} (hb:base≤39) {l:List Int}:∀ (o:List Nat) (i:Nat) (out:List Int) {n:Nat} {s:Wrt},WOk n s→WOk (n+43*o.length) (coefGoG wrC base last l o i out s).2
 | [],i,out,n,s,h=>h
 | a :: rest,i,out,n,s,h=>by
  have hl:(a :: rest).length=rest.length+1:=rfl
  have fin:∀ {n:Nat} {s:Wrt},WOk n s→∀ (br:Bool) (x:Int),WOk (n+1+43*rest.length) (coefEnd wrC base last l a rest i out br x s).2:=by
   intro n s h br x
   unfold coefEnd
   split
   ·exact h.le (by omega)
   split
   ·have B:=wok_bit (base+9+min i 7) (zerosAt l rest) h (by omega)
    split
    ·exact B.le (by omega)
    ·exact wok_coefGo hb rest (i+1) _ B
   ·exact (wok_coefGo hb rest (i+1) _ h).le (by omega)
  rw [coefGoG_eq]
  split
  ·have A:=wok_bit (base+1+min i 7) (decide (l.getD a 0≠0)) h (by omega)
   split
   ·exact (fin (wok_level hb (l.getD a 0) A) true _).le (by omega)
   ·exact (wok_coefGo hb rest (i+1) _ A).le (by omega)
  ·exact (fin (wok_level hb (l.getD a 0) h) false _).le (by omega)
theorem wok_coef {side:Nat} (hs:side=4∨side=8) (l:List Int) (h:WOk n s):WOk (n+1+43*(side*side)) (coefG wrC side l s).2:=by
 have hb:baseD side≤39:=by unfold baseD;split <;> omega
 have A:=wok_bit (baseD side) (!zeroB l) h (by omega)
 have hlen:(orderD side).length=side*side:=by rcases hs with rfl | rfl;exact orderD_len4;exact orderD_len8
 unfold coefG
 split
 ·have:=wok_coefGo hb (last:=side*side-1) (l:=l) (orderD side) 0 (List.replicate (side*side) 0) A
  rw [hlen] at this
  exact this
 ·exact A.le (by omega)
theorem wok_mode (v:Int) (h:WOk n s):WOk (n+2) (modeG wrC v s).2:=by
 have A:=wok_bit 3 (decide (1<min (max v 0) 3)) h (by omega)
 unfold modeG modeG2
 split
 ·exact wok_bit 5 _ A (by omega)
 ·exact wok_bit 4 _ A (by omega)
theorem wok_part (v:Int) (h:WOk n s):WOk (n+16) (partG wrC v s).2:=by
 have A:=wok_bit 6 (decide (min (max v (-15)) 15≠0)) h (by omega)
 unfold partG partG2
 split
 ·unfold partG3
  exact (wok_ones (f:=fun n=>7+min n 6) (fun i=>by omega) _ 14 0 (wok_flat _ A)).1.le (by omega)
 ·exact A.le (by omega)
theorem wok_small (qm:List Int) (ql:List (List Int)):∀ (k:Nat) (ms:List Int) (ls:List (List Int)) {n:Nat} {s:Wrt},WOk n s→WOk (n+691*k) (smallGoG wrC qm ql k ms ls s).2
 | 0,ms,ls,n,s,h=>h
 | k+1,ms,ls,n,s,h=>by
  have A:=wok_mode (qm.getD ms.length 0) h
  have B:=wok_coef (side:=4) (.inl rfl) (ql.getD ls.length []) A
  rw [smallGoG_eq]
  split
  ·exact B.le (by omega)
  ·exact (wok_small qm ql k _ _ B).le (by omega)
theorem wok_parts (q:AskD) (k:Nat) (h:WOk n s):WOk (n+2785) (partsG wrC q k s).2:=by
 unfold partsG
 split
 ·have A:=wok_small q.modes q.small 4 [] [] h
  split <;> exact A.le (by omega)
 split
 ·exact h.le (by omega)
 split
 ·have A:=wok_coef (side:=8) (.inr rfl) q.large (wok_part q.vy (wok_part q.vx h))
  split <;> exact A.le (by omega)
 ·have A:=wok_coef (side:=8) (.inr rfl) q.large (wok_mode q.mode h)
  split <;> exact A.le (by omega)
theorem wok_square (key:Bool) (q:AskD) (h:WOk n s):WOk (n+2788) (squareG wrC key q s).2:=by
 have A:WOk (n+3) (kindKG wrC key q.kind s).2:=by
  unfold kindKG
  cases key with
  | true=>exact (wok_flat _ h).le (by omega)
  | false=>exact (wok_ones (f:=fun n=>min n 63) (fun i=>by omega) _ 3 0 h).1
 have B:=wok_parts q (kindKG wrC key q.kind s).1 A
 unfold squareG
 split <;> exact B.le (by omega)
end
theorem encGo_n {key:Bool} {prev:FrameD} {qp:Int} {ch:FrameD→Int→Int→SqD}:∀ (k i:Nat) (f:FrameD) {n:Nat} {m:Wrt},WOk n m→WOk (n+2788*k) (encGo key prev qp ch k i f m).2
 | 0,i,f,n,m,h=>h
 | k+1,i,f,n,m,h=>by
  unfold encGo
  exact (encGo_n k (i+1) _ (wok_square key _ h)).le (by omega)
theorem laySq_sam {f prev:FrameD} (h:SamOk f.pix) {s:SqD} (g:s.kind<2→SamOk prev.pix) (x y qp:Int):SamOk (laySq f prev x y qp s).pix:=by
 have lay:∀ (n:Nat) {b:List Int},SamOk b→SamOk (layD f x y n b).pix:=fun n b hb=>foldl_inv SamOk _ _ _ h (fun l j _ hl=>rowD_in hl ((hb.drop _).take _) _)
 unfold laySq
 split
 ·exact lay 8 (blockD_in (g (by omega)) _ _ _ _ _)
 split
 ·exact lay 8 (addD_in _ _ _)
 split
 ·exact oneD_sam h _ _ _ _ _ _
 ·have:∀ (ys:List Nat) (f:FrameD),SamOk f.pix→SamOk (ys.foldl (smallD x y qp s) f).pix:=by
   intro ys
   induction ys with
   | nil=>intro f h;exact h
   | cons a ys ih=>intro f h;rw [List.foldl_cons];exact ih _ (oneD_sam h _ _ _ _ _ _)
  exact this _ f h
/-- a frame, coded; what is built of it -/
def encF (src prev:FrameD) (key:Bool) (qp:Int) (reach:Nat):FrameD×Wrt:=encGo key prev qp (chooseE src prev key qp reach) (src.W*src.H / 64).toNat 0 (newF src.W src.H 128) wrtNew
def codedE (src prev:FrameD) (key:Bool) (qp:Int) (reach:Nat):Coded:=⟨if key then 1 else 2,qp :: endW (encF src prev key qp reach).2⟩
theorem qEOk0 {p:Prop} (h:p:=by
 rw [h1,h2]
 simp only [Bool.true_eq_false,Bool.false_eq_true,if_false]
 rw [if_neg (by simp),if_neg (by simp;omega),if_neg (by have:=hl2;unfold codedE at this;simp only at this;omega)]):p:=h
/-- what is told of a coded frame is what was built of it -/
theorem enc_drift {src prev:FrameD} {key:Bool} {q reach:Nat} (hs:FrOk src) (hp:key=false→matesB prev src.W src.H=true) (hq:q≤15) (hr:reach≤7) :
  frameD (codedE src prev key q reach) prev src.W src.H=.ok (encF src prev key q reach).1∧(codedE src prev key q reach).data.length≤65000:=by
 have hpf:key=false→SamOk prev.pix:=fun e=>by
  have:=hp e
  unfold matesB at this
  rw [Bool.and_eq_true,Bool.and_eq_true,mayF_iff] at this
  exact this.1.1.sam
 have hn:newB src.W src.H 128=true:=newB_iff.2 ⟨⟨hs.w0,hs.w1,hs.w8⟩,⟨hs.h0,hs.h1,hs.h8⟩,by decide,by decide⟩
 have hC:(src.W*src.H / 64).toNat≤16:=by
  have h2:src.W*src.H≤32*32:=Int.mul_le_mul hs.w1 hs.h1 (by have:=hs.h0;omega) (by omega)
  omega
 have hsq:∀ f x y,SamOk f.pix→SqWr key (chooseE src prev key q reach f x y):=fun f x y hf=>choose_wr hs.sam hf hpf hq hr x y
 obtain ⟨a,b,c⟩:=enc_dec (key:=key) (prev:=prev) (qp:=(q:Int)) (ch:=chooseE src prev key q reach) (P:=fun f=>SamOk f.pix) hsq
  (fun f x y hf=>laySq_sam hf (fun hk=>by
   cases key with
   | true=>have:=(hsq f x y hf).key_ rfl;omega
   | false=>exact hpf rfl) _ _ _) (src.W*src.H / 64).toNat 0 (newF_ok hn).sam wrtNew_ok
 have hnn:=(encGo_n (key:=key) (prev:=prev) (qp:=(q:Int)) (ch:=chooseE src prev key q reach) (src.W*src.H / 64).toNat 0 (newF src.W src.H 128) (n:=4) (m:=wrtNew) ⟨wrtNew_ok,Nat.le_refl _⟩).2
 have hlen:=endW_len (encF src prev key q reach).2
 have hl2:(codedE src prev key q reach).data.length≤65000:=by
  show (endW (encF src prev key q reach).2).length+1≤65000
  have:(encF src prev key q reach).2.n≤4+2788*(src.W*src.H / 64).toNat:=hnn
  omega
 refine ⟨?_,hl2⟩
 have hu:=endW_u8 (encF src prev key q reach).2
 have hdec:=c (endW_tells a) (WIn.refl _) (reads_new hu)
 have hrd:readB (codedE src prev key q reach)=none:=by
  unfold readB codedE
  cases key with
  | true =>
   simp only [if_true]
   have h1:kindB 1=true:=rfl
   have h2:bareB 1=false:=rfl
   exact qEOk0
  | false =>
   simp only [Bool.false_eq_true,if_false]
   have h1:kindB 2=true:=rfl
   have h2:bareB 2=false:=rfl
   exact qEOk0
 unfold frameD
 rw [if_neg (by rw [hn];simp),hrd]
 cases key with
 | true =>
  have hk:(codedE src prev true q reach).kind=1:=rfl
  simp only [hk]
  rw [if_neg (by omega),if_neg (by omega),if_neg (by omega)]
  exact hdec
 | false =>
  have hk:(codedE src prev false q reach).kind=2:=rfl
  simp only [hk]
  rw [if_neg (fun h=>by rw [hp rfl] at h;cases h.2),if_neg (by omega),if_neg (by omega)]
  exact hdec
theorem SqWr.norm_ok {key:Bool} {s:SqD} (h:SqWr key s):SqOk (normSq s):=by
 unfold normSq
 split
 ·rename_i h3
  exact ⟨(by show 3≤3;omega),(by show 0≤3;omega),(fun h=>by rcases h with h | h <;> cases h),(by show -15≤(0:Int)∧(0:Int)≤15∧-15≤(0:Int)∧(0:Int)≤15;omega),fun _=>h.small h3⟩
 split
 ·exact ⟨(by show 0≤3;omega),(by show 0≤3;omega),(fun h=>by rcases h with h | h <;> cases h),(by show -15≤(0:Int)∧(0:Int)≤15∧-15≤(0:Int)∧(0:Int)≤15;omega),(fun h=>by cases h)⟩
 split
 ·rename_i h1
  exact ⟨(by show 1≤3;omega),(by show 0≤3;omega),fun _=>h.large (.inl h1),h.vec h1,(fun h=>by cases h)⟩
 ·have h2:s.kind=2:=by have:=h.kind;omega
  exact ⟨(by show 2≤3;omega),h.mode h2,fun _=>h.large (.inr h2),(by show -15≤(0:Int)∧(0:Int)≤15∧-15≤(0:Int)∧(0:Int)≤15;omega),(fun h=>by cases h)⟩
theorem laySq_fr {key:Bool} {f prev:FrameD} (h:FrOk f) {s:SqD} (hw:SqWr key s) (g:s.kind<2→SamOk prev.pix) {x y:Int} (hx:0≤x) (hxn:x+8≤f.W) (hy:0≤y) (hyn:y+8≤f.H) (qp:Int):FrOk (laySq f prev x y qp s):=by
 rw [← laySq_norm hw.kind]
 refine laySq_ok h (fun hk=>g ?_) hx hxn hy hyn hw.norm_ok qp
 unfold normSq at hk
 split at hk
 ·exact absurd hk (by show ¬ 3<2;omega)
 rename_i h3
 split at hk
 ·omega
 split at hk
 ·omega
 ·exact absurd hk (by show ¬ 2<2;omega)
/-- the number of a sample's square -/
def sqNo (W idx:Nat):Nat:=idx / W / 8*(W / 8)+idx % W / 8
theorem sq_pos {u i:Nat} (hu:u=1∨u=2∨u=3∨u=4):(i:Int)*8 % ((8*u:Nat):Int)=((i % u*8:Nat):Int)∧(i:Int)*8 / ((8*u:Nat):Int)*8=((i / u*8:Nat):Int):=by
 rcases hu with rfl | rfl | rfl | rfl <;> constructor <;> omega
theorem sqNo_iff {u i idx:Nat} (hu:u=1∨u=2∨u=3∨u=4):sqNo (8*u) idx=i↔(i % u*8≤idx % (8*u)∧idx % (8*u)<i % u*8+8)∧i / u*8≤idx / (8*u)∧idx / (8*u)<i / u*8+8:=by
 unfold sqNo
 generalize hr:idx / (8*u)=r
 have hc:idx % (8*u)<8*u:=Nat.mod_lt _ (by rcases hu with rfl | rfl | rfl | rfl <;> omega)
 generalize idx % (8*u)=c at *
 rw [Nat.mul_div_cancel_left u (by omega)]
 rcases hu with rfl | rfl | rfl | rfl <;> omega
section
variable {key:Bool} {prev:FrameD} {qp:Int} {ch:FrameD→Int→Int→SqD} {W Hh:Nat}
/-- what holds of the samples of each square that is laid holds of all samples at the end -/
theorem encGo_all {u v:Nat} (hu:u=1∨u=2∨u=3∨u=4) (hv:v=1∨v=2∨v=3∨v=4) {Q:Nat→Int→Prop}
  (hwr:∀ f x y,FrOk f→SqWr key (ch f x y)) (hpv:key=false→SamOk prev.pix)
  (hch:∀ (f:FrameD) (x y idx:Nat),FrOk f→f.W=((8*u:Nat):Int)→f.H=((8*v:Nat):Int)→x+8≤8*u→y+8≤8*v→x % 8=0→y % 8=0→(x≤idx % (8*u)∧idx % (8*u)<x+8)→(y≤idx / (8*u)∧idx / (8*u)<y+8) →
   Q idx ((laySq f prev x y qp (ch f x y)).pix.getD idx 0)) :
  ∀ (k i:Nat) {f:FrameD} {m:Wrt},i+k=u*v→FrOk f→f.W=((8*u:Nat):Int)→f.H=((8*v:Nat):Int)→(∀ idx,sqNo (8*u) idx<i→Q idx (f.pix.getD idx 0)) →
   FrOk (encGo key prev qp ch k i f m).1∧(encGo key prev qp ch k i f m).1.W=((8*u:Nat):Int)∧(encGo key prev qp ch k i f m).1.H=((8*v:Nat):Int)∧∀ idx,sqNo (8*u) idx<u*v→Q idx ((encGo key prev qp ch k i f m).1.pix.getD idx 0)
 | 0,i,f,m,hik,hf,hW,hH,hq=>⟨hf,hW,hH,fun idx hi=>hq idx (by omega)⟩
 | k+1,i,f,m,hik,hf,hW,hH,hq=>by
  have hi:i<u*v:=by omega
  have hx:i % u*8+8≤8*u:=by rcases hu with rfl | rfl | rfl | rfl <;> omega
  have hy:i / u*8+8≤8*v:=by
   have:i / u<v:=Nat.div_lt_of_lt_mul hi
   omega
  obtain ⟨e1,e2⟩:=sq_pos (i:=i) hu
  unfold encGo
  rw [hW,e1,e2]
  have hs:=hwr f ((i % u*8:Nat):Int) ((i / u*8:Nat):Int) hf
  have hg:(ch f ((i % u*8:Nat):Int) ((i / u*8:Nat):Int)).kind<2→SamOk prev.pix:=fun hk=>by
   cases key with
   | true=>have:=hs.key_ rfl;omega
   | false=>exact hpv rfl
  have hw:=laySq_W f prev ((i % u*8:Nat):Int) ((i / u*8:Nat):Int) qp (ch f ((i % u*8:Nat):Int) ((i / u*8:Nat):Int))
  refine encGo_all hu hv hwr hpv hch k (i+1) (by omega) (laySq_fr hf hs hg (by omega) (by rw [hW];omega) (by omega) (by rw [hH];omega) qp) (hw.1.trans hW) (hw.2.trans hH) (fun idx hidx=>?_)
  by_cases h:sqNo (8*u) idx=i
  ·obtain ⟨a,b⟩:=(sqNo_iff hu).1 h
   exact hch f (i % u*8) (i / u*8) idx hf hW hH hx hy (by omega) (by omega) a b
  ·have hout:=(fun hh=>h ((sqNo_iff hu).2 ⟨⟨hh.1,hh.2.1⟩,hh.2.2.1,hh.2.2.2⟩):¬ (i % u*8≤idx % (8*u)∧idx % (8*u)<i % u*8+8∧i / u*8≤idx / (8*u)∧idx / (8*u)<i / u*8+8))
   have hlen:(i / u*8+8)*(8*u)≤f.pix.length:=by
    have h1:=hf.len
    rw [hW,hH] at h1
    have h2:(i / u*8+8)*(8*u)≤8*v*(8*u):=Nat.mul_le_mul_right _ hy
    have h3:((f.pix.length:Nat):Int)=((8*u*(8*v):Nat):Int):=by rw [h1];push_cast;rfl
    have h4:f.pix.length=8*u*(8*v):=by exact_mod_cast h3
    rw [h4,Nat.mul_comm (8*u)]
    exact h2
   rw [laySq_out hW hx hlen hout]
   exact hq idx (by omega)
end
theorem FrOk.units {f:FrameD} (h:FrOk f):∃ u v:Nat,(u=1∨u=2∨u=3∨u=4)∧(v=1∨v=2∨v=3∨v=4)∧f.W=((8*u:Nat):Int)∧f.H=((8*v:Nat):Int)∧(f.W*f.H / 64).toNat=u*v∧f.pix.length=8*u*(8*v):=by
 have:=h.w0;have:=h.w1;have:=h.w8;have:=h.h0;have:=h.h1;have:=h.h8
 have hl:=h.len
 refine ⟨(f.W / 8).toNat,(f.H / 8).toNat,by omega,by omega,by omega,by omega,?_,?_⟩
 ·have hw:f.W=8∨f.W=16∨f.W=24∨f.W=32:=by omega
  have hh:f.H=8∨f.H=16∨f.H=24∨f.H=32:=by omega
  rcases hw with e | e | e | e <;> rcases hh with g | g | g | g <;> rw [e,g] <;> rfl
 ·have hw:f.W=8∨f.W=16∨f.W=24∨f.W=32:=by omega
  have hh:f.H=8∨f.H=16∨f.H=24∨f.H=32:=by omega
  rcases hw with e | e | e | e <;> rcases hh with g | g | g | g <;> rw [e,g] at hl ⊢ <;> (simp at hl ⊢;omega)
theorem sqNo_lt {u v idx:Nat} (hu:u=1∨u=2∨u=3∨u=4) (h:idx<8*u*(8*v)):sqNo (8*u) idx<u*v:=by
 unfold sqNo
 have hr:idx / (8*u)<8*v:=Nat.div_lt_of_lt_mul h
 have hc:idx % (8*u)<8*u:=Nat.mod_lt _ (by rcases hu with rfl | rfl | rfl | rfl <;> omega)
 generalize idx / (8*u)=r at *
 generalize idx % (8*u)=c at *
 rw [Nat.mul_div_cancel_left u (by omega)]
 have h1:r / 8+1≤v:=by omega
 have h2:(r / 8+1)*u≤v*u:=Nat.mul_le_mul_right u h1
 rw [Nat.add_mul,Nat.one_mul,Nat.mul_comm v u] at h2
 omega
/-- what holds of the samples of each square that is chosen and laid holds of a frame that is coded -/
theorem encF_all {src prev:FrameD} {key:Bool} {q reach:Nat} (hs:FrOk src) (hp:key=false→SamOk prev.pix) (hq:q≤15) (hr:reach≤7) {Q:Nat→Int→Prop}
  (hch:∀ (f:FrameD) (W Hh x y idx:Nat),FrOk f→f.W=(W:Int)→f.H=(Hh:Int)→src.W=(W:Int)→src.H=(Hh:Int)→x+8≤W→y+8≤Hh→x % 8=0→y % 8=0→(x≤idx % W∧idx % W<x+8)→(y≤idx / W∧idx / W<y+8) →
   Q idx ((laySq f prev x y q (chooseE src prev key q reach f x y)).pix.getD idx 0)) :
  FrOk (encF src prev key q reach).1∧(encF src prev key q reach).1.W=src.W∧(encF src prev key q reach).1.H=src.H∧∀ idx,idx<src.pix.length→Q idx ((encF src prev key q reach).1.pix.getD idx 0):=by
 obtain ⟨u,v,hu,hv,eW,eH,eC,eL⟩:=hs.units
 have hn:newB src.W src.H 128=true:=newB_iff.2 ⟨⟨hs.w0,hs.w1,hs.w8⟩,⟨hs.h0,hs.h1,hs.h8⟩,by decide,by decide⟩
 have A:=encGo_all (key:=key) (prev:=prev) (qp:=(q:Int)) (ch:=chooseE src prev key q reach) hu hv (Q:=Q) (fun f x y hf=>choose_wr hs.sam hf.sam hp hq hr x y) hp
  (fun f x y idx hf hW hH hx hy hx8 hy8 a b=>hch f (8*u) (8*v) x y idx hf hW hH eW eH hx hy hx8 hy8 a b) (u*v) 0 (f:=newF src.W src.H 128) (m:=wrtNew) (by omega) (newF_ok hn) eW eH (fun idx h=>by omega)
 unfold encF
 rw [eC]
 obtain ⟨a,b,c,d⟩:=A
 exact ⟨a,b.trans eW.symm,c.trans eH.symm,fun idx hi=>d idx (sqNo_lt hu (by omega))⟩
theorem chunk_getD {b:List Int} {n r c:Nat} (hc:c<n):((b.drop (r*n)).take n).getD c 0=b.getD (r*n+c) 0:=by
 rw [List.getD_eq_getElem?_getD,List.getD_eq_getElem?_getD,List.getElem?_take,if_pos hc,List.getElem?_drop]
theorem getSq_at {f:FrameD} {W x y n r c:Nat} (hW:f.W=(W:Int)) (hr:r<n) (hc:c<n):(getSq f x y n).getD (r*n+c) 0=f.pix.getD ((y+r)*W+(x+c)) 0:=by
 rw [← chunk_getD hc]
 unfold getSq
 rw [chunk_flatMap _ n _ r (by simpa using hr) (fun j _=>by simp)]
 rw [List.getElem_range,List.getD_eq_getElem?_getD,List.getElem?_map,List.getElem?_range hc]
 show f.pix.getD (((y:Int)+(r:Int))*f.W+(x:Int)+(c:Int)).toNat 0=_
 congr 1
 rw [hW,← Int.natCast_add,← Int.natCast_mul,← Int.natCast_add,← Int.natCast_add,Int.toNat_natCast]
 omega
/-! ### what is told in zeros -/
/-! ### key frames -/
/-- within h of one another -/
def NearI (h a b:Int):Prop:=-h≤a-b∧a-b≤h
/-- a sample inside of a square that is laid -/
theorem layD_in {f:FrameD} {W x y n idx:Nat} {b:List Int} (hW:f.W=(W:Int)) (hw:0<W) (hb:b.length=n*n) (hx:x+n≤W) (hp:(y+n)*W≤f.pix.length) (h1:x≤idx % W∧idx % W<x+n) (h2:y≤idx / W∧idx / W<y+n) :
  (layD f x y n b).pix.getD idx 0=b.getD ((idx / W-y)*n+(idx % W-x)) 0:=by
 show ((List.range n).foldl (layP f.W x y n b) f.pix).getD idx 0=_
 rw [hW]
 have h:=(layF_in (b:=b) hw hx (fun j hj=>by
  rw [List.length_take,List.length_drop,hb]
  have:(j+1)*n≤n*n:=Nat.mul_le_mul_right _ hj
  rw [Nat.add_mul,Nat.one_mul] at this
  omega) h1 h2.1 n (Nat.le_refl _) hp).2 h2.2
 rw [h,chunk_getD (by omega)]
theorem qEPeak0 {p:Prop} (h:p:=by
 rw [List.getD_eq_getElem?_getD,List.getElem?_zipWith,List.getD_eq_getElem?_getD,List.getD_eq_getElem?_getD,List.getElem?_eq_getElem (by omega),List.getElem?_eq_getElem (by omega)]
 rfl):p:=h
theorem add_near {n q:Nat} (hn:n=4∨n=8) {b p:List Int} (hb:b.length=n*n) (hp:p.length=n*n) (sb:SamOk b) (hq:q≤15) {k:Nat} (hk:k<n*n):NearI (stepD q / 2) ((addD p (levelsE b p q) q).getD k 0) (b.getD k 0):=by
 have hl:(subV b p).length=n*n:=subV_len hb hp
 have hr:=rest_near hn hl hq hk
 have hrl:(restD (levelsE b p q) q).length=n*n:=by rw [restD_len];unfold levelsE;rw [levelsOf_len,hl]
 have e1:(subV b p).getD k 0=b.getD k 0-p.getD k 0:=by
  unfold subV
  exact qEPeak0
 have e2:(addD p (levelsE b p q) q).getD k 0=clipD (p.getD k 0+(restD (levelsE b p q) q).getD k 0):=by
  unfold addD
  exact qEPeak0
 have hbk:=sb.at k
 rw [e2]
 unfold levelsE at hr ⊢
 rw [e1] at hr
 unfold NearI clipD
 generalize (restD (levelsOf (subV b p) q) q).getD k 0=t at *
 omega
theorem inside_len {f:FrameD} {W Hh y n:Nat} (hf:FrOk f) (hW:f.W=(W:Int)) (hH:f.H=(Hh:Int)) (hy:y+n≤Hh):(y+n)*W≤f.pix.length:=by
 obtain ⟨u,v,_,_,e1,e2,_,e3⟩:=hf.units
 have w1:W=8*u:=by have:=hW.symm.trans e1;exact_mod_cast this
 have w2:Hh=8*v:=by have:=hH.symm.trans e2;exact_mod_cast this
 rw [e3,w1,Nat.mul_comm (8*u)]
 exact Nat.mul_le_mul_right _ (by omega)
/-- the sample of the source that a place inside of a square has -/
theorem src_at {src:FrameD} {W x y idx:Nat} (hW:src.W=(W:Int)) (hw:0<W) (h1:x≤idx % W∧idx % W<x+8) (h2:y≤idx / W∧idx / W<y+8):(getSq src x y 8).getD ((idx / W-y)*8+(idx % W-x)) 0=src.pix.getD idx 0:=by
 rw [getSq_at hW (by omega) (by omega)]
 congr 1
 have hmod:=Nat.div_add_mod idx W
 rw [Nat.mul_comm] at hmod
 rw [show y+(idx / W-y)=idx / W by omega]
 omega
/-- the frame while a square's four pieces are built -/
def curE (f:FrameD) (b:List Int) (x y qp:Int):Nat→FrameD
 | 0=>f
 | i+1=>oneD (curE f b x y qp i) (x+((i % 2:Nat):Int)*4) (y+((i / 2:Nat):Int)*4) 4 (bestAt (curE f b x y qp i) (quarterE b i) (x+((i % 2:Nat):Int)*4) (y+((i / 2:Nat):Int)*4) 4).1 qp (oneL (curE f b x y qp i) (quarterE b i) (x+((i % 2:Nat):Int)*4) (y+((i / 2:Nat):Int)*4) 4 qp)
def modeE (f:FrameD) (b:List Int) (x y qp:Int) (i:Nat):Int:=((bestAt (curE f b x y qp i) (quarterE b i) (x+((i % 2:Nat):Int)*4) (y+((i / 2:Nat):Int)*4) 4).1:Int)
def listE (f:FrameD) (b:List Int) (x y qp:Int) (i:Nat):List Int:=oneL (curE f b x y qp i) (quarterE b i) (x+((i % 2:Nat):Int)*4) (y+((i / 2:Nat):Int)*4) 4 qp
theorem fourGo_cur (f:FrameD) (b:List Int) (x y qp:Int):∀ (k i:Nat) (ms:List Int) (ls:List (List Int)) (c:Int),∃ c',fourGo b x y qp k i (curE f b x y qp i) ms ls c=(ms ++ (List.range' i k).map (modeE f b x y qp),ls ++ (List.range' i k).map (listE f b x y qp),c')
 | 0,i,ms,ls,c=>⟨c,by simp [fourGo]⟩
 | k+1,i,ms,ls,c=>by
  obtain ⟨c',h⟩:=fourGo_cur f b x y qp k (i+1) (ms ++ [modeE f b x y qp i]) (ls ++ [listE f b x y qp i]) (c+4*(bestAt (curE f b x y qp i) (quarterE b i) (x+((i % 2:Nat):Int)*4) (y+((i / 2:Nat):Int)*4) 4).2)
  refine ⟨c',?_⟩
  rw [List.range'_succ,List.map_cons,List.map_cons]
  have e:ms ++ modeE f b x y qp i :: (List.range' (i+1) k).map (modeE f b x y qp)=(ms ++ [modeE f b x y qp i]) ++ (List.range' (i+1) k).map (modeE f b x y qp):=by simp
  have e2:ls ++ listE f b x y qp i :: (List.range' (i+1) k).map (listE f b x y qp)=(ls ++ [listE f b x y qp i]) ++ (List.range' (i+1) k).map (listE f b x y qp):=by simp
  rw [e,e2,← h]
  rfl
theorem small_cur (f p:FrameD) (b:List Int) (x y qp:Int):laySq f p x y qp (sqSmall f b x y qp)=curE f b x y qp 4:=by
 obtain ⟨c',h⟩:=fourGo_cur f b x y qp 4 0 [] [] 24
 have e:fourE f b x y qp=([modeE f b x y qp 0,modeE f b x y qp 1,modeE f b x y qp 2,modeE f b x y qp 3],[listE f b x y qp 0,listE f b x y qp 1,listE f b x y qp 2,listE f b x y qp 3],c'):=h
 unfold sqSmall
 rw [e]
 have c:∀ i,curE f b x y qp (i+1)=oneD (curE f b x y qp i) (x+((i % 2:Nat):Int)*4) (y+((i / 2:Nat):Int)*4) 4 (modeE f b x y qp i) qp (listE f b x y qp i):=fun _=>rfl
 have c0:curE f b x y qp 0=f:=rfl
 clear h e
 generalize modeE f b x y qp=M at *
 generalize listE f b x y qp=Ls at *
 generalize curE f b x y qp=C at *
 rw [c 3,c 2,c 1,c 0,c0]
 rfl
theorem curE_W (f:FrameD) (b:List Int) (x y qp:Int):∀ i,(curE f b x y qp i).W=f.W∧(curE f b x y qp i).H=f.H
 | 0=>⟨rfl,rfl⟩
 | i+1=>by
  obtain ⟨a,c⟩:=curE_W f b x y qp i
  exact ⟨(oneD_W _ _ _ _ _ _ _).1.trans a,(oneD_W _ _ _ _ _ _ _).2.trans c⟩
theorem curE_ok {f:FrameD} (hf:FrOk f) {W Hh x y q:Nat} (hW:f.W=(W:Int)) (hH:f.H=(Hh:Int)) (hx:x+8≤W) (hy:y+8≤Hh) {b:List Int} (sb:SamOk b) (hq:q≤15):∀ i,i≤4→FrOk (curE f b x y q i)
 | 0,_=>hf
 | i+1,hi=>by
  have h:=curE_ok hf hW hH hx hy sb hq i (by omega)
  obtain ⟨a,c⟩:=curE_W f b x y q i
  have L:=oneL_ok (n:=4) (.inl rfl) h.sam (quarterE_len b i) (quarterE_in sb i) ((x:Int)+((i % 2:Nat):Int)*4) ((y:Int)+((i / 2:Nat):Int)*4) hq
  refine oneD_ok h (by omega) ?_ (by omega) ?_ L.1 (by omega) _ _
  ·rw [a,hW];omega
  ·rw [c,hH];omega
/-- a sample of a piece, from the step that lays it on -/
theorem curE_near {f:FrameD} (hf:FrOk f) {W Hh x y q:Nat} (hW:f.W=(W:Int)) (hH:f.H=(Hh:Int)) (hx:x+8≤W) (hy:y+8≤Hh) {b:List Int} (hb:b.length=64) (sb:SamOk b) (hq:q≤15) {idx:Nat} (h1:x≤idx % W∧idx % W<x+8) (h2:y≤idx / W∧idx / W<y+8) :
  ∀ i,i≤4→(idx / W-y) / 4*2+(idx % W-x) / 4<i→NearI (stepD q / 2) ((curE f b x y q i).pix.getD idx 0) (b.getD ((idx / W-y)*8+(idx % W-x)) 0)
 | 0,_,h=>by omega
 | i+1,hi,h=>by
  have hok:=curE_ok hf hW hH hx hy sb hq i (by omega)
  obtain ⟨a,c⟩:=curE_W f b x y q i
  have hx':x+i % 2*4+4≤W:=by omega
  have hy':y+i / 2*4+4≤Hh:=by omega
  have ex:(x:Int)+((i % 2:Nat):Int)*4=((x+i % 2*4:Nat):Int):=by push_cast;rfl
  have ey:(y:Int)+((i / 2:Nat):Int)*4=((y+i / 2*4:Nat):Int):=by push_cast;rfl
  have hlen:=inside_len hok (a.trans hW) (c.trans hH) hy'
  show NearI (stepD q / 2) ((oneD (curE f b x y q i) ((x:Int)+((i % 2:Nat):Int)*4) ((y:Int)+((i / 2:Nat):Int)*4) 4 (bestAt (curE f b x y q i) (quarterE b i) ((x:Int)+((i % 2:Nat):Int)*4) ((y:Int)+((i / 2:Nat):Int)*4) 4).1 q (oneL (curE f b x y q i) (quarterE b i) ((x:Int)+((i % 2:Nat):Int)*4) ((y:Int)+((i / 2:Nat):Int)*4) 4 q)).pix.getD idx 0) _
  rw [ex,ey]
  have hbl:=quarterE_len b i
  have hbi:=quarterE_in sb i
  by_cases he:(idx / W-y) / 4*2+(idx % W-x) / 4=i
  ·have P:=predE_ok hok.sam ((x+i % 2*4:Nat):Int) ((y+i / 2*4:Nat):Int) (n:=4) (by omega) (bestAt (curE f b x y q i) (quarterE b i) ((x+i % 2*4:Nat):Int) ((y+i / 2*4:Nat):Int) 4).1
   unfold oneD
   rw [layD_in (n:=4) (a.trans hW) (by omega) (by rw [addD_len (by rw [predD_len,topD_len];exact (oneL_ok (n:=4) (.inl rfl) hok.sam hbl hbi _ _ hq).1.symm),predD_len,topD_len]) hx' hlen (by omega) (by omega)]
   have N:=add_near (n:=4) (.inl rfl) hbl P.1 hbi hq (k:=(idx / W-(y+i / 2*4))*4+(idx % W-(x+i % 2*4))) (by omega)
   have eb:(quarterE b i).getD ((idx / W-(y+i / 2*4))*4+(idx % W-(x+i % 2*4))) 0=b.getD ((idx / W-y)*8+(idx % W-x)) 0:=by
    unfold quarterE
    rw [List.getD_eq_getElem?_getD,List.getElem?_map,List.getElem?_range (by omega)]
    show b.getD _ 0=_
    congr 1
    omega
   rw [eb] at N
   exact N
  ·unfold oneD
   rw [(layD_out (a.trans hW) hx' hlen (by omega)).1]
   exact curE_near hf hW hH hx hy hb sb hq h1 h2 i (by omega) (by omega)
/-- a sample inside of a square that is chosen and laid -/
theorem choose_near {src prev f:FrameD} {key:Bool} {q reach:Nat} (hs:FrOk src) (hf:FrOk f) (hp:key=false→FrOk prev∧prev.W=src.W∧prev.H=src.H) (hq:q≤15) {W Hh x y idx:Nat} (hW:f.W=(W:Int)) (hH:f.H=(Hh:Int)) (hsW:src.W=(W:Int)) (hsH:src.H=(Hh:Int))
  (hx:x+8≤W) (hy:y+8≤Hh) (h1:x≤idx % W∧idx % W<x+8) (h2:y≤idx / W∧idx / W<y+8) :
  NearI (stepD q / 2) ((laySq f prev x y q (chooseE src prev key q reach f x y)).pix.getD idx 0) (src.pix.getD idx 0):=by
 have hw:0<W:=by omega
 have hb:=getSq_len src x y 8
 have sb:=getSq_in hs.sam x y 8
 have hlen:=inside_len hf hW hH hy
 rw [← src_at hsW hw h1 h2]
 have hk:(idx / W-y)*8+(idx % W-x)<8*8:=by omega
 unfold chooseE
 generalize getSq src x y 8=b at *
 have L:NearI (stepD q / 2) ((laySq f prev x y q (sqLarge f b x y q)).pix.getD idx 0) (b.getD ((idx / W-y)*8+(idx % W-x)) 0):=by
  have e:laySq f prev x y q (sqLarge f b x y q)=layD f x y 8 (addD (predE f x y 8 (bestAt f b x y 8).1) (levelsE b (predE f x y 8 (bestAt f b x y 8).1) q) q):=rfl
  have P:=predE_ok hf.sam (x:Int) (y:Int) (n:=8) (by omega) (bestAt f b x y 8).1
  rw [e,layD_in (n:=8) hW hw (by rw [addD_len (by unfold levelsE;rw [levelsOf_len,subV_len hb P.1,P.1]),P.1]) hx hlen h1 h2]
  exact add_near (.inr rfl) hb P.1 sb hq hk
 have S:NearI (stepD q / 2) ((laySq f prev x y q (sqSmall f b x y q)).pix.getD idx 0) (b.getD ((idx / W-y)*8+(idx % W-x)) 0):=by
  rw [small_cur]
  exact curE_near hf hW hH hx hy hb sb hq h1 h2 4 (by omega) (by omega)
 have R:∀ r:SqD×Int,(0≤r.2→NearI (stepD q / 2) ((laySq f prev x y q r.1).pix.getD idx 0) (b.getD ((idx / W-y)*8+(idx % W-x)) 0))→NearI (stepD q / 2) ((laySq f prev x y q (restE f b x y q r)).pix.getD idx 0) (b.getD ((idx / W-y)*8+(idx % W-x)) 0):=fun r h =>
  betterE_either (P:=fun s=>NearI (stepD q / 2) ((laySq f prev x y q s).pix.getD idx 0) (b.getD ((idx / W-y)*8+(idx % W-x)) 0)) (fun _=>betterE_either (P:=fun s=>NearI (stepD q / 2) ((laySq f prev x y q s).pix.getD idx 0) (b.getD ((idx / W-y)*8+(idx % W-x)) 0)) h L) S
 cases key with
 | true =>
  rw [if_pos rfl]
  exact R (sq0,-1) (fun h=>absurd h (by decide))
 | false =>
  obtain ⟨hpf,hpW,hpH⟩:=hp rfl
  rw [if_neg (by simp)]
  split
  ·rename_i hz
   have e:laySq f prev x y q sq0=layD f x y 8 (blockD prev x y 8 0 0):=rfl
   have hbl:=blockD_len prev x y 8 0 0
   rw [e,layD_in (n:=8) hW hw hbl hx hlen h1 h2]
   -- the levels are all 0, so half a step away at most
   have hl:(subV b (blockD prev x y 8 0 0)).length=8*8:=subV_len hb hbl
   have hr:=rest_near (.inr rfl) hl hq hk
   have hz2:levelsOf (subV b (blockD prev x y 8 0 0)) q=List.replicate 64 0:=by
    unfold sameE levelsE at hz
    rw [List.all_eq_true] at hz
    exact List.eq_replicate_iff.2 ⟨by rw [levelsOf_len,hl],fun x hx=>by simpa using hz x hx⟩
   have hrz:(restD (List.replicate 64 0) (q:Int)).getD ((idx / W-y)*8+(idx % W-x)) 0=0:=by
    have e1:restD (List.replicate 64 0) (q:Int)=List.replicate 64 0:=by
     unfold restD
     rw [values_zero]
     decide +kernel
    rw [e1,List.getD_eq_getElem?_getD,List.getElem?_replicate]
    split <;> rfl
   rw [hz2,hrz] at hr
   have e1:(subV b (blockD prev x y 8 0 0)).getD ((idx / W-y)*8+(idx % W-x)) 0=b.getD ((idx / W-y)*8+(idx % W-x)) 0-(blockD prev x y 8 0 0).getD ((idx / W-y)*8+(idx % W-x)) 0:=by
    unfold subV
    exact qEPeak0
   rw [e1] at hr
   unfold NearI
   omega
  ·refine R _ (fun _=>?_)
   have e:laySq f prev x y q (movedE prev b x y q reach).1=layD f x y 8 (addD (blockD prev x y 8 (searchE prev b x y reach).vx (searchE prev b x y reach).vy) (levelsE b (blockD prev x y 8 (searchE prev b x y reach).vx (searchE prev b x y reach).vy) q) q):=rfl
   have hbl:=blockD_len prev x y 8 (searchE prev b x y reach).vx (searchE prev b x y reach).vy
   rw [e,layD_in (n:=8) hW hw (by rw [addD_len (by unfold levelsE;rw [levelsOf_len,subV_len hb hbl,hbl]),hbl]) hx hlen h1 h2]
   exact add_near (.inr rfl) hb hbl sb hq hk
/-- no sample is further from its own than half a step -/
theorem enc_peak {src prev:FrameD} {key:Bool} {q reach:Nat} (hs:FrOk src) (hp:key=false→FrOk prev∧prev.W=src.W∧prev.H=src.H) (hq:q≤15) (hr:reach≤7) :
  FrOk (encF src prev key q reach).1∧(encF src prev key q reach).1.W=src.W∧(encF src prev key q reach).1.H=src.H∧∀ idx,idx<src.pix.length→NearI (stepD q / 2) ((encF src prev key q reach).1.pix.getD idx 0) (src.pix.getD idx 0) :=
 encF_all hs (fun h=>(hp h).1.sam) hq hr (Q:=fun idx v=>NearI (stepD q / 2) v (src.pix.getD idx 0))
  (fun f W Hh x y idx hf hW hH hsW hsH hx hy _ _ h1 h2=>choose_near hs hf hp hq hW hH hsW hsH hx hy h1 h2)
end Go.Proofs.YtkigikallkpbcaaGreatDoor
