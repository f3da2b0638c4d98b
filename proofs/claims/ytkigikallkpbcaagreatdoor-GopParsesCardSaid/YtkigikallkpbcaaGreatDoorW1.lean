/- Joined texts: EWr, EWrS, EWrV, EEnd, ERac, EEnc. Conditions: each part names its own. -/
import Derived.Test.YtkigikallkpbcaaGreatDoorR2
import Derived.Test.YtkigikallkpbcaaGreatDoorK1
import Derived.Test.YtkigikallkpbcaaGreatDoorK2
namespace Go.Proofs.YtkigikallkpbcaaGreatDoor
open Go.RowKit
set_option linter.unusedVariables false
set_option linter.unusedSimpArgs false
set_option maxRecDepth 100000
set_option maxHeartbeats 16000000
/-- a coder that writes: its chances, its low as a number, how many bytes that has, its range -/
structure Wrt where
 p:List Int
 lo:Int
 n:Nat
 r:Int
def Wrt.shift (m:Wrt):Wrt:=⟨m.p,m.lo*256,m.n+1,m.r*256⟩
def Wrt.fix:Nat→Wrt→Wrt
 | 0,m=>m
 | k+1,m=>if m.r<16777216 then Wrt.fix k m.shift else m
def Wrt.narrow (m:Wrt) (w:Int) (b:Bool):Wrt:=if b then Wrt.fix 2 ⟨m.p,m.lo+w,m.n,m.r-w⟩ else Wrt.fix 2 ⟨m.p,m.lo,m.n,w⟩
def bitW (c:Nat) (b:Bool) (m:Wrt):Bool×Wrt:=(b,Wrt.narrow ⟨m.p.set c (learnV (m.p.getD c 0) b),m.lo,m.n,m.r⟩ (m.r / 2048*m.p.getD c 0) b)
def flatW (b:Bool) (m:Wrt):Bool×Wrt:=(b,m.narrow (m.r / 2) b)
def wrC:CodO Wrt:=⟨bitW,flatW⟩
def wrtNew:Wrt:=⟨List.replicate 64 1024,0,4,4294967295⟩
/-- may a coder that writes stand so? -/
structure WrtOk (m:Wrt):Prop where
 len:m.p.length=64
 ch:∀ x∈m.p,31≤x∧x≤2017
 lo0:0≤m.lo
 r0:16777216≤m.r
 r1:m.r≤4294967295
 n4:4≤m.n
 top:m.lo+m.r≤256 ^ m.n
/-- a range that is not yet wide enough -/
structure WrtMid (k:Nat) (m:Wrt):Prop where
 len:m.p.length=64
 ch:∀ x∈m.p,31≤x∧x≤2017
 lo0:0≤m.lo
 r0:16777216≤m.r*256 ^ k
 rp:1≤m.r
 r1:m.r≤4294967295
 n4:4≤m.n
 top:m.lo+m.r≤256 ^ m.n
/-- z's interval lies in m's -/
def WIn (z m:Wrt):Prop:=m.n≤z.n∧m.lo*256 ^ (z.n-m.n)≤z.lo∧z.lo+z.r≤(m.lo+m.r)*256 ^ (z.n-m.n)
theorem pow256_pos (k:Nat):(0:Int)<256 ^ k:=Int.pow_pos (by decide)
theorem WIn.refl (m:Wrt):WIn m m:=⟨Nat.le_refl _,by rw [Nat.sub_self];simp,by rw [Nat.sub_self];simp⟩
theorem WIn.trans {a b c:Wrt} (h:WIn a b) (g:WIn b c):WIn a c:=by
 obtain ⟨h1,h2,h3⟩:=h
 obtain ⟨g1,g2,g3⟩:=g
 have e:a.n-c.n=(b.n-c.n)+(a.n-b.n):=by omega
 have hp:=pow256_pos (a.n-b.n)
 refine ⟨by omega,?_,?_⟩
 ·rw [e,Int.pow_add,← Int.mul_assoc]
  exact Int.le_trans (Int.mul_le_mul_of_nonneg_right g2 (Int.le_of_lt hp)) h2
 ·rw [e,Int.pow_add,← Int.mul_assoc]
  exact Int.le_trans h3 (Int.mul_le_mul_of_nonneg_right g3 (Int.le_of_lt hp))
theorem WIn.shift (m:Wrt):WIn m.shift m:=by
 have e:m.shift.n-m.n=1:=by show m.n+1-m.n=1;omega
 refine ⟨by show m.n≤m.n+1;omega,?_,?_⟩
 ·rw [e,Int.pow_one];show m.lo*256≤m.lo*256;omega
 ·rw [e,Int.pow_one];show m.lo*256+m.r*256≤(m.lo+m.r)*256;omega
theorem WIn.fix:∀ (k:Nat) (m:Wrt),WIn (Wrt.fix k m) m
 | 0,m=>WIn.refl m
 | k+1,m=>by
  unfold Wrt.fix
  split
  ·exact (WIn.fix k m.shift).trans (WIn.shift m)
  ·exact WIn.refl m
theorem WrtMid.shift {k:Nat} {m:Wrt} (h:WrtMid (k+1) m) (hr:m.r<16777216):WrtMid k m.shift:=by
 obtain ⟨h1,h2,h3,h4,h5,h6,h7,h8⟩:=h
 refine ⟨h1,h2,?_,?_,?_,?_,?_,?_⟩
 ·show 0≤m.lo*256;omega
 ·show 16777216≤m.r*256*256 ^ k
  rw [Int.pow_succ,Int.mul_comm (256 ^ k) 256,← Int.mul_assoc] at h4;exact h4
 ·show 1≤m.r*256;omega
 ·show m.r*256≤_;omega
 ·show 4≤m.n+1;omega
 ·show m.lo*256+m.r*256≤256 ^ (m.n+1)
  rw [Int.pow_succ];omega
theorem WrtMid.fix:∀ {k:Nat} {m:Wrt},WrtMid k m→WrtOk (Wrt.fix k m)∧(Wrt.fix k m).n≤m.n+k∧(Wrt.fix k m).p=m.p
 | 0,m,h=>⟨⟨h.len,h.ch,h.lo0,by have:=h.r0;rw [Int.pow_zero,Int.mul_one] at this;exact this,h.r1,h.n4,h.top⟩,Nat.le_refl _,rfl⟩
 | k+1,m,h=>by
  unfold Wrt.fix
  split
  ·rename_i hr
   obtain ⟨a,b,c⟩:=(h.shift hr).fix
   exact ⟨a,by have:m.shift.n=m.n+1:=rfl;omega,c⟩
  ·rename_i hr
   exact ⟨⟨h.len,h.ch,h.lo0,by omega,h.r1,h.n4,h.top⟩,by omega,rfl⟩
theorem WrtOk.mid {m:Wrt} (h:WrtOk m) {w:Int} (h1:8192≤w) (h2:w≤m.r-8192):WrtMid 2 ⟨m.p,m.lo+w,m.n,m.r-w⟩∧WrtMid 2 ⟨m.p,m.lo,m.n,w⟩∧WIn ⟨m.p,m.lo+w,m.n,m.r-w⟩ m∧WIn ⟨m.p,m.lo,m.n,w⟩ m:=by
 obtain ⟨a,b,c,d,e,f,g⟩:=h
 refine ⟨⟨a,b,?_,?_,?_,?_,f,?_⟩,⟨a,b,c,?_,?_,?_,f,?_⟩,⟨Nat.le_refl _,?_,?_⟩,⟨Nat.le_refl _,?_,?_⟩⟩
 all_goals try simp only [Nat.sub_self,Int.pow_zero,Int.mul_one]
 all_goals first | omega | (show m.lo+w+(m.r-w)≤256 ^ m.n;omega) | (show m.lo+w≤256 ^ m.n;omega)
theorem WrtOk.narrow {m:Wrt} (h:WrtOk m) {w:Int} (h1:8192≤w) (h2:w≤m.r-8192) (b:Bool):WrtOk (m.narrow w b)∧WIn (m.narrow w b) m∧(m.narrow w b).n≤m.n+2∧(m.narrow w b).p=m.p:=by
 obtain ⟨m1,m2,i1,i2⟩:=h.mid h1 h2
 unfold Wrt.narrow
 cases b with
 | true =>
  obtain ⟨x,y,z⟩:=m1.fix
  exact ⟨x,(WIn.fix _ _).trans i1,y,z⟩
 | false =>
  obtain ⟨x,y,z⟩:=m2.fix
  exact ⟨x,(WIn.fix _ _).trans i2,y,z⟩
theorem chW_at {m:Wrt} (h:WrtOk m) {c:Nat} (hc:c<64):31≤m.p.getD c 0∧m.p.getD c 0≤2017:=h.ch _ (by
 have:=h.len
 rw [List.getD_eq_getElem?_getD,List.getElem?_eq_getElem (by omega)]
 exact List.getElem_mem _)
theorem WrtOk.set {m:Wrt} (h:WrtOk m) {c:Nat} (hc:c<64) (b:Bool):WrtOk ⟨m.p.set c (learnV (m.p.getD c 0) b),m.lo,m.n,m.r⟩:=by
 refine ⟨by show (m.p.set _ _).length=64;rw [List.length_set];exact h.len,fun x hx=>?_,h.lo0,h.r0,h.r1,h.n4,h.top⟩
 rcases List.mem_or_eq_of_mem_set hx with hx | rfl
 ·exact h.ch x hx
 ·exact learn_in _ (chW_at h hc)
theorem bitW_ok {m:Wrt} (h:WrtOk m) {c:Nat} (hc:c<64) (b:Bool):WrtOk (bitW c b m).2∧WIn (bitW c b m).2 m∧(bitW c b m).2.n≤m.n+2:=by
 have hx:=chW_at h hc
 obtain ⟨w1,w2⟩:=chance_w h.r0 h.r1 (p:=m.p.getD c 0) (by omega) (by omega)
 obtain ⟨a,i,n,_⟩:=(h.set hc b).narrow w1 w2 b
 exact ⟨a,i,n⟩
theorem flatW_ok {m:Wrt} (h:WrtOk m) (b:Bool):WrtOk (flatW b m).2∧WIn (flatW b m).2 m∧(flatW b m).2.n≤m.n+2:=by
 have:=h.r0
 have:=h.r1
 obtain ⟨a,i,n,_⟩:=h.narrow (w:=m.r / 2) (by omega) (by omega) b
 exact ⟨a,i,n⟩
theorem wrtNew_ok:WrtOk wrtNew:=⟨by simp [wrtNew],fun x hx=>by have:=(List.mem_replicate.1 hx).2;omega,by decide,by decide,by decide,by decide,by decide⟩
/-! ### a reader of what was written -/
/-- the number of the first k bytes, zeros behind them -/
def numW (D:List Int):Nat→Int
 | 0=>0
 | k+1=>numW D k*256+D.getD k 0
/-- D tells the low of z -/
structure Tells (D:List Int) (z:Wrt):Prop where
 u8:∀ x∈D,InK .u8 x
 num:∀ k,k≤z.n→numW D k=z.lo / 256 ^ (z.n-k)
 r0:1≤z.r
/-- the reader of D stands as the coder m stood -/
structure Reads (D:List Int) (m:Wrt) (d:Mod):Prop where
 p:d.p=m.p
 b:d.d.b=D
 pos:d.d.pos=m.n
 r:d.d.r=m.r
 off:d.d.off=numW D m.n-m.lo
theorem Tells.at {D:List Int} {z m:Wrt} (h:Tells D z) (i:WIn z m):m.lo≤numW D m.n∧numW D m.n<m.lo+m.r:=by
 have hp:=pow256_pos (z.n-m.n)
 rw [h.num m.n i.1]
 refine ⟨(Int.le_ediv_iff_mul_le hp).2 i.2.1,(Int.ediv_lt_iff_lt_mul hp).2 ?_⟩
 have:=i.2.2
 have:=h.r0
 omega
theorem Reads.shift {D:List Int} {z m:Wrt} {d:Rac} {p:List Int} (h:Tells D z) (i:WIn z m.shift) (g:Reads D m ⟨p,d⟩):Reads D m.shift ⟨p,d.shift⟩:=by
 obtain ⟨g1,g2,g3,g4,g5⟩:=g
 simp only at g1 g2 g3 g4 g5
 have ha:=h.at i
 have hn:numW D m.shift.n=numW D m.n*256+d.byte:=by
  show numW D (m.n+1)=_
  unfold Rac.byte
  rw [g2,g3]
  rfl
 rw [hn] at ha
 have h1:m.shift.lo=m.lo*256:=rfl
 have h2:m.shift.r=m.r*256:=rfl
 rw [h1,h2] at ha
 refine ⟨g1,g2,by show d.pos+1=m.n+1;omega,by show d.r*256=m.r*256;rw [g4],?_⟩
 show min (d.off*256+d.byte) (d.r*256)=numW D m.shift.n-m.lo*256
 rw [hn,g4,g5]
 omega
theorem Reads.fix {D:List Int} {z:Wrt} (h:Tells D z):∀ (k:Nat) {m:Wrt} {d:Rac} {p:List Int},WIn z (Wrt.fix k m)→Reads D m ⟨p,d⟩→Reads D (Wrt.fix k m) ⟨p,Rac.fix k d⟩
 | 0,m,d,p,i,g=>g
 | k+1,m,d,p,i,g=>by
  have hr:d.r=m.r:=g.r
  unfold Wrt.fix at i ⊢
  unfold Rac.fix
  rw [hr]
  split
  ·rename_i hlt
   rw [if_pos hlt] at i
   exact Reads.fix h k i (Reads.shift h (i.trans (WIn.fix k _)) g)
  ·exact g
theorem Reads.narrow {D:List Int} {z m:Wrt} {d:Mod} {w:Int} {b:Bool} (h:Tells D z) (i:WIn z (m.narrow w b)) (g:Reads D m d):(d.d.narrow w).1=b∧Reads D (m.narrow w b) ⟨d.p,(d.d.narrow w).2⟩:=by
 obtain ⟨p,dd⟩:=d
 obtain ⟨g1,g2,g3,g4,g5⟩:=g
 simp only at g1 g2 g3 g4 g5
 unfold Wrt.narrow at i ⊢
 cases b with
 | true =>
  rw [if_pos rfl] at i
  have ha:=(h.at (i.trans (WIn.fix 2 _))).1
  simp only at ha
  have hw:w≤dd.off:=by omega
  have e:Rac.narrow dd w=(true,Rac.fix 2 ⟨dd.b,dd.pos,dd.off-w,dd.r-w⟩):=if_pos hw
  show (Rac.narrow dd w).1=true∧Reads D (if true=true then _ else _) ⟨p,(Rac.narrow dd w).2⟩
  rw [e,if_pos rfl]
  refine ⟨rfl,?_⟩
  exact Reads.fix h 2 i ⟨g1,g2,g3,by simp only;omega,by simp only;omega⟩
 | false =>
  rw [if_neg (by simp)] at i
  have ha:=(h.at (i.trans (WIn.fix 2 _))).2
  simp only at ha
  have hw:¬ w≤dd.off:=by omega
  have e:Rac.narrow dd w=(false,Rac.fix 2 ⟨dd.b,dd.pos,dd.off,w⟩):=if_neg hw
  show (Rac.narrow dd w).1=false∧Reads D (if false=true then _ else _) ⟨p,(Rac.narrow dd w).2⟩
  rw [e,if_neg (by simp)]
  refine ⟨rfl,?_⟩
  exact Reads.fix h 2 i ⟨g1,g2,g3,rfl,by simp only;omega⟩
/-- a run of the coder that writes, and the same run of its reader -/
structure SameR {α:Type} (x:α×Wrt) (m:Wrt) (g:Mod→α×Mod):Prop where
 ok:WrtOk x.2
 inn:WIn x.2 m
 same:∀ {D:List Int} {z:Wrt} {d:Mod},Tells D z→WIn z x.2→Reads D m d→(g d).1=x.1∧Reads D x.2 (g d).2
section
variable {α β:Type} {m:Wrt}
theorem SameR.pure (h:WrtOk m) (a:α):SameR (a,m) m (fun d=>(a,d)):=⟨h,WIn.refl m,fun _ _ g=>⟨rfl,g⟩⟩
theorem SameR.seq {x:α×Wrt} {g:Mod→α×Mod} {y:β×Wrt} {h:α→Mod→β×Mod} (H1:SameR x m g) (H2:SameR y x.2 (h x.1)):SameR y m (fun d=>h (g d).1 (g d).2):=by
 refine ⟨H2.ok,H2.inn.trans H1.inn,fun t i r=>?_⟩
 obtain ⟨a,b⟩:=H1.same t (i.trans H2.inn) r
 rw [a]
 exact H2.same t i b
theorem SameR.map {x:α×Wrt} {g:Mod→α×Mod} (H:SameR x m g) (f:α→β):SameR (f x.1,x.2) m (fun d=>(f (g d).1,(g d).2)) :=
 ⟨H.ok,H.inn,fun t i r=>by obtain ⟨a,b⟩:=H.same t i r;exact ⟨by rw [a],b⟩⟩
theorem SameR.ite {b:Bool} {y1 y2:β×Wrt} {h1 h2:Mod→β×Mod} (H1:b=true→SameR y1 m h1) (H2:b=false→SameR y2 m h2):SameR (if b then y1 else y2) m (fun d=>if b then h1 d else h2 d):=by
 cases b with
 | true=>exact H1 rfl
 | false=>exact H2 rfl
theorem same_bit (h:WrtOk m) {c:Nat} (hc:c<64) (b:Bool):SameR (bitW c b m) m (bitD c):=by
 obtain ⟨a,i,_⟩:=bitW_ok h hc b
 refine ⟨a,i,fun {D z d} t j r=>?_⟩
 have r':Reads D ⟨m.p.set c (learnV (m.p.getD c 0) b),m.lo,m.n,m.r⟩ ⟨m.p.set c (learnV (m.p.getD c 0) b),d.d⟩:=⟨rfl,r.b,r.pos,r.r,r.off⟩
 obtain ⟨x,y⟩:=Reads.narrow (m:=⟨m.p.set c (learnV (m.p.getD c 0) b),m.lo,m.n,m.r⟩) (w:=m.r / 2048*m.p.getD c 0) (b:=b) t j r'
 simp only at x y
 unfold bitD
 rw [r.p,r.r,x]
 exact ⟨rfl,y⟩
theorem same_flat (h:WrtOk m) (b:Bool):SameR (flatW b m) m flatD:=by
 obtain ⟨a,i,_⟩:=flatW_ok h b
 refine ⟨a,i,fun {D z d} t j r=>?_⟩
 obtain ⟨x,y⟩:=Reads.narrow (w:=m.r / 2) (b:=b) t j r
 unfold flatD
 rw [r.r]
 exact ⟨x,y⟩
end
section
variable {m:Wrt}
theorem same_ones {f:Nat→Nat} (hf:∀ i,f i<64) (v v':Int):∀ (k n:Nat) {m:Wrt},WrtOk m→SameR (onesG wrC f v k n m) m (onesG rdC f v' k n)
 | 0,n,m,h=>SameR.pure h n
 | k+1,n,m,h=>by
  have B:=same_bit h (hf n) (decide ((n:Int)<v))
  refine SameR.seq B (h:=fun b d=>if b then onesG rdC f v' k (n+1) d else (n,d)) ?_
  exact SameR.ite (fun _=>same_ones hf v v' k (n+1) B.ok) (fun _=>SameR.pure B.ok n)
theorem same_flats (u u':Int):∀ (k n:Nat) {m:Wrt},WrtOk m→SameR (flatsG wrC u k n m) m (flatsG rdC u' k n)
 | 0,n,m,h=>SameR.pure h n
 | k+1,n,m,h=>by
  have B:=same_flat h (decide ((2:Int) ^ (n+1)≤u))
  refine SameR.seq B (h:=fun b d=>if b then flatsG rdC u' k (n+1) d else (n,d)) ?_
  exact SameR.ite (fun _=>same_flats u u' k (n+1) B.ok) (fun _=>SameR.pure B.ok n)
theorem same_bits (u u':Int):∀ (k n:Nat) {m:Wrt},WrtOk m→SameR (bitsG wrC u k n m) m (bitsG rdC u' k n)
 | 0,n,m,h=>SameR.pure h n
 | k+1,n,m,h=>by
  have B:=same_flat h (decide (u / (2:Int) ^ k % 2=1))
  exact SameR.seq B (h:=fun b d=>bitsG rdC u' k (if b then 2*n+1 else 2*n) d) (same_bits u u' k _ B.ok)
theorem same_great (u u':Int) (h:WrtOk m):SameR (greatG wrC u m) m (greatG rdC u'):=by
 have A:=same_flats u u' 13 0 h
 exact SameR.seq A (h:=fun z d=>bitsG rdC u' z 1 d) (same_bits u u' _ 1 A.ok)
theorem same_size {base:Nat} (hb:base≤39) (v v':Int) (h:WrtOk m):SameR (sizeG wrC base v m) m (sizeG rdC base v'):=by
 have A:=same_ones (f:=fun n=>base+17+min n 7) (fun i=>by omega) v v' 14 0 h
 refine SameR.seq A (h:=fun z d=>if z=14 then (13+(greatG rdC (v'-13) d).1,(greatG rdC (v'-13) d).2) else (z,d)) ?_
 unfold sizeG
 split
 ·exact (same_great (v-13) (v'-13) A.ok).map (fun z=>13+z)
 ·exact SameR.pure A.ok _
theorem same_level {base:Nat} (hb:base≤39) (v v':Int) (h:WrtOk m):SameR (levelG wrC base v m) m (levelG rdC base v'):=by
 have A:=same_flat h (decide (v<0))
 exact SameR.seq A (h:=fun s d=>(signD s (sizeG rdC base (max v' (-v')-1) d).1,(sizeG rdC base (max v' (-v')-1) d).2)) ((same_size hb _ _ A.ok).map (signD _))
theorem same_mode (v v':Int) (h:WrtOk m):SameR (modeG wrC v m) m (modeG rdC v'):=by
 have A:=same_bit h (c:=3) (by omega) (decide (1<min (max v 0) 3))
 refine SameR.seq A (h:=fun b d=>if b then (if (bitD 5 d).1 then 3 else 2,(bitD 5 d).2) else (if (bitD 4 d).1 then 1 else 0,(bitD 4 d).2)) ?_
 unfold modeG modeG2
 exact SameR.ite (fun _=>(same_bit A.ok (c:=5) (by omega) _).map (fun b:Bool=>if b then 3 else 2)) (fun _=>(same_bit A.ok (c:=4) (by omega) _).map (fun b:Bool=>if b then 1 else 0))
theorem same_part (v v':Int) (h:WrtOk m):SameR (partG wrC v m) m (partG rdC v'):=by
 unfold partG
 generalize min (max v (-15)) 15=u
 generalize min (max v' (-15)) 15=u'
 have A:=same_bit h (c:=6) (by omega) (decide (u≠0))
 refine SameR.seq A (h:=fun b d=>if b then partG3 rdC u' (flatD d).1 (flatD d).2 else (0,d)) ?_
 unfold partG2
 refine SameR.ite (fun _=>?_) (fun _=>SameR.pure A.ok _)
 have B:=same_flat A.ok (decide (u<0))
 exact SameR.seq B (h:=fun s d=>partG3 rdC u' s d) ((same_ones (f:=fun n=>7+min n 6) (fun i=>by omega) _ _ 14 0 B.ok).map (signD _))
/-- behind a level -/
def coefEnd {σ:Type} (C:CodO σ) (base last:Nat) (l:List Int) (a:Nat) (rest:List Nat) (i:Nat) (out:List Int) (br:Bool) (x:Int) (s:σ):Except Err (List Int)×σ :=
 if x < -16320∨16320<x then (.error ⟨[(sCoef,(i:Int))],3⟩,s)
 else if br then (if (C.bit (base+9+min i 7) (zerosAt l rest) s).1 then (.ok (out.set a x),(C.bit (base+9+min i 7) (zerosAt l rest) s).2) else coefGoG C base last l rest (i+1) (out.set a x) (C.bit (base+9+min i 7) (zerosAt l rest) s).2)
 else coefGoG C base last l rest (i+1) (out.set a x) s
theorem coefGoG_eq {σ:Type} (C:CodO σ) (base last:Nat) (l:List Int) (a:Nat) (rest:List Nat) (i:Nat) (out:List Int) (s:σ):coefGoG C base last l (a :: rest) i out s =
  if i<last then (if (C.bit (base+1+min i 7) (decide (l.getD a 0≠0)) s).1 then coefEnd C base last l a rest i out true (levelG C base (l.getD a 0) (C.bit (base+1+min i 7) (decide (l.getD a 0≠0)) s).2).1 (levelG C base (l.getD a 0) (C.bit (base+1+min i 7) (decide (l.getD a 0≠0)) s).2).2
   else coefGoG C base last l rest (i+1) out (C.bit (base+1+min i 7) (decide (l.getD a 0≠0)) s).2)
  else coefEnd C base last l a rest i out false (levelG C base (l.getD a 0) s).1 (levelG C base (l.getD a 0) s).2:=by
 rw [coefGoG]
 unfold coefEnd
 simp only [if_true,Bool.false_eq_true,if_false]
theorem same_coefGo {base last:Nat} (hb:base≤39) (l l':List Int):∀ (o:List Nat) (i:Nat) (out:List Int) {m:Wrt},WrtOk m→SameR (coefGoG wrC base last l o i out m) m (coefGoG rdC base last l' o i out)
 | [],i,out,m,h=>SameR.pure h _
 | a :: rest,i,out,m,h=>by
  have fin:∀ {m:Wrt},WrtOk m→∀ (br:Bool) (x:Int),SameR (coefEnd wrC base last l a rest i out br x m) m (coefEnd rdC base last l' a rest i out br x):=by
   intro m h br x
   unfold coefEnd
   by_cases hx:x < -16320∨16320<x
   ·simp only [if_pos hx]
    exact SameR.pure h _
   ·simp only [if_neg hx]
    refine SameR.ite (fun _=>?_) (fun _=>same_coefGo hb l l' rest (i+1) _ h)
    have B:=same_bit h (c:=base+9+min i 7) (by omega) (zerosAt l rest)
    refine SameR.seq B (h:=fun b d=>if b then (.ok (out.set a x),d) else coefGoG rdC base last l' rest (i+1) (out.set a x) d) ?_
    exact SameR.ite (fun _=>SameR.pure B.ok _) (fun _=>same_coefGo hb l l' rest (i+1) _ B.ok)
  have lev:∀ {m:Wrt},WrtOk m→∀ (br:Bool),SameR (coefEnd wrC base last l a rest i out br (levelG wrC base (l.getD a 0) m).1 (levelG wrC base (l.getD a 0) m).2) m (fun d=>coefEnd rdC base last l' a rest i out br (levelG rdC base (l'.getD a 0) d).1 (levelG rdC base (l'.getD a 0) d).2):=by
   intro m h br
   have L:=same_level hb (l.getD a 0) (l'.getD a 0) h
   exact SameR.seq L (h:=fun x d=>coefEnd rdC base last l' a rest i out br x d) (fin L.ok br _)
  by_cases hi:i<last
  ·have e1:coefGoG wrC base last l (a :: rest) i out m=(if (bitW (base+1+min i 7) (decide (l.getD a 0≠0)) m).1 then coefEnd wrC base last l a rest i out true (levelG wrC base (l.getD a 0) (bitW (base+1+min i 7) (decide (l.getD a 0≠0)) m).2).1 (levelG wrC base (l.getD a 0) (bitW (base+1+min i 7) (decide (l.getD a 0≠0)) m).2).2 else coefGoG wrC base last l rest (i+1) out (bitW (base+1+min i 7) (decide (l.getD a 0≠0)) m).2):=by
    rw [coefGoG_eq,if_pos hi];rfl
   have e2:coefGoG rdC base last l' (a :: rest) i out=fun d=>if (bitD (base+1+min i 7) d).1 then coefEnd rdC base last l' a rest i out true (levelG rdC base (l'.getD a 0) (bitD (base+1+min i 7) d).2).1 (levelG rdC base (l'.getD a 0) (bitD (base+1+min i 7) d).2).2 else coefGoG rdC base last l' rest (i+1) out (bitD (base+1+min i 7) d).2:=funext fun d=>by
    rw [coefGoG_eq,if_pos hi];rfl
   rw [e1,e2]
   have A:=same_bit h (c:=base+1+min i 7) (by omega) (decide (l.getD a 0≠0))
   refine SameR.seq A (h:=fun b d=>if b then coefEnd rdC base last l' a rest i out true (levelG rdC base (l'.getD a 0) d).1 (levelG rdC base (l'.getD a 0) d).2 else coefGoG rdC base last l' rest (i+1) out d) ?_
   exact SameR.ite (fun _=>lev A.ok true) (fun _=>same_coefGo hb l l' rest (i+1) _ A.ok)
  ·have e1:coefGoG wrC base last l (a :: rest) i out m=coefEnd wrC base last l a rest i out false (levelG wrC base (l.getD a 0) m).1 (levelG wrC base (l.getD a 0) m).2:=by rw [coefGoG_eq,if_neg hi]
   have e2:coefGoG rdC base last l' (a :: rest) i out=fun d=>coefEnd rdC base last l' a rest i out false (levelG rdC base (l'.getD a 0) d).1 (levelG rdC base (l'.getD a 0) d).2:=funext fun d=>by rw [coefGoG_eq,if_neg hi]
   rw [e1,e2]
   exact lev h false
theorem same_coef {side:Nat} (l l':List Int) (h:WrtOk m):SameR (coefG wrC side l m) m (coefG rdC side l'):=by
 have hb:baseD side≤39:=by unfold baseD;split <;> omega
 have A:=same_bit h (c:=baseD side) (by omega) (!zeroB l)
 refine SameR.seq A (h:=fun b d=>if b then coefGoG rdC (baseD side) (side*side-1) l' (orderD side) 0 (List.replicate (side*side) 0) d else (.ok (List.replicate (side*side) 0),d)) ?_
 unfold coefG
 exact SameR.ite (fun _=>same_coefGo hb l l' _ _ _ A.ok) (fun _=>SameR.pure A.ok _)
theorem smallGoG_eq {σ:Type} (C:CodO σ) (qm:List Int) (ql:List (List Int)) (k:Nat) (ms:List Int) (ls:List (List Int)) (s:σ):smallGoG C qm ql (k+1) ms ls s=match (coefG C 4 (ql.getD ls.length []) (modeG C (qm.getD ms.length 0) s).2).1 with
  | .error e=>(Except.error e,(coefG C 4 (ql.getD ls.length []) (modeG C (qm.getD ms.length 0) s).2).2)
  | .ok l=>smallGoG C qm ql k (ms ++ [((modeG C (qm.getD ms.length 0) s).1:Int)]) (ls ++ [l]) (coefG C 4 (ql.getD ls.length []) (modeG C (qm.getD ms.length 0) s).2).2:=rfl
theorem same_small (qm qm':List Int) (ql ql':List (List Int)):∀ (k:Nat) (ms:List Int) (ls:List (List Int)) {m:Wrt},WrtOk m→SameR (smallGoG wrC qm ql k ms ls m) m (smallGoG rdC qm' ql' k ms ls)
 | 0,ms,ls,m,h=>SameR.pure h _
 | k+1,ms,ls,m,h=>by
  have A:=same_mode (qm.getD ms.length 0) (qm'.getD ms.length 0) h
  refine SameR.seq A (h:=fun (mo:Nat) d=>match (coefG rdC 4 (ql'.getD ls.length []) d).1 with
   | .error e=>(Except.error e,(coefG rdC 4 (ql'.getD ls.length []) d).2)
   | .ok l=>smallGoG rdC qm' ql' k (ms ++ [(mo:Int)]) (ls ++ [l]) (coefG rdC 4 (ql'.getD ls.length []) d).2) ?_
  rw [smallGoG_eq]
  generalize modeG wrC (qm.getD ms.length 0) m=M at *
  have B:=same_coef (side:=4) (ql.getD ls.length []) (ql'.getD ls.length []) A.ok
  refine SameR.seq B (h:=fun r d=>match r with
   | .error e=>(Except.error e,d)
   | .ok l=>smallGoG rdC qm' ql' k (ms ++ [(M.1:Int)]) (ls ++ [l]) d) ?_
  generalize coefG wrC 4 (ql.getD ls.length []) M.2=K at *
  obtain ⟨kr,k2⟩:=K
  cases kr with
  | error e=>exact SameR.pure B.ok _
  | ok l=>exact same_small qm qm' ql ql' k _ _ B.ok
theorem same_kindK (key:Bool) (k k':Int) (h:WrtOk m):SameR (kindKG wrC key k m) m (kindKG rdC key k'):=by
 unfold kindKG
 cases key with
 | true=>exact (same_flat h (decide (k=3))).map (fun b:Bool=>if b then 3 else 2)
 | false=>exact same_ones (f:=fun n=>min n 63) (fun i=>by omega) _ _ 3 0 h
theorem same_parts (q q':AskD) (k:Nat) (h:WrtOk m):SameR (partsG wrC q k m) m (partsG rdC q' k):=by
 unfold partsG
 by_cases h3:k=3
 ·simp only [if_pos h3]
  have A:=same_small q.modes q'.modes q.small q'.small 4 [] [] h
  refine SameR.seq A (h:=fun r d=>match r with
   | .error e=>(Except.error e,d)
   | .ok x=>(Except.ok (⟨3,0,x.1,0,0,[],x.2⟩:SqD),d)) ?_
  generalize smallGoG wrC q.modes q.small 4 [] [] m=K at *
  obtain ⟨kr,k2⟩:=K
  cases kr <;> exact SameR.pure A.ok _
 simp only [if_neg h3]
 by_cases h0:k=0
 ·simp only [if_pos h0]
  exact SameR.pure h _
 simp only [if_neg h0]
 by_cases h1:k=1
 ·simp only [if_pos h1]
  have A:=same_part q.vx q'.vx h
  refine SameR.seq A (h:=fun vx d=>match (coefG rdC 8 q'.large (partG rdC q'.vy d).2).1 with
   | .error e=>(Except.error e,(coefG rdC 8 q'.large (partG rdC q'.vy d).2).2)
   | .ok l=>(Except.ok (⟨1,0,[0,0,0,0],vx,(partG rdC q'.vy d).1,l,[[],[],[],[]]⟩:SqD),(coefG rdC 8 q'.large (partG rdC q'.vy d).2).2)) ?_
  generalize partG wrC q.vx m=X at *
  have B:=same_part q.vy q'.vy A.ok
  refine SameR.seq B (h:=fun vy d=>match (coefG rdC 8 q'.large d).1 with
   | .error e=>(Except.error e,(coefG rdC 8 q'.large d).2)
   | .ok l=>(Except.ok (⟨1,0,[0,0,0,0],X.1,vy,l,[[],[],[],[]]⟩:SqD),(coefG rdC 8 q'.large d).2)) ?_
  generalize partG wrC q.vy X.2=Y at *
  have L:=same_coef (side:=8) q.large q'.large B.ok
  refine SameR.seq L (h:=fun r d=>match r with
   | .error e=>(Except.error e,d)
   | .ok l=>(Except.ok (⟨1,0,[0,0,0,0],X.1,Y.1,l,[[],[],[],[]]⟩:SqD),d)) ?_
  generalize coefG wrC 8 q.large Y.2=K at *
  obtain ⟨kr,k2⟩:=K
  cases kr <;> exact SameR.pure L.ok _
 simp only [if_neg h1]
 have A:=same_mode q.mode q'.mode h
 refine SameR.seq A (h:=fun (mo:Nat) d=>match (coefG rdC 8 q'.large d).1 with
  | .error e=>(Except.error e,(coefG rdC 8 q'.large d).2)
  | .ok l=>(Except.ok (⟨2,mo,[0,0,0,0],0,0,l,[[],[],[],[]]⟩:SqD),(coefG rdC 8 q'.large d).2)) ?_
 generalize modeG wrC q.mode m=M at *
 have L:=same_coef (side:=8) q.large q'.large A.ok
 refine SameR.seq L (h:=fun r d=>match r with
  | .error e=>(Except.error e,d)
  | .ok l=>(Except.ok (⟨2,M.1,[0,0,0,0],0,0,l,[[],[],[],[]]⟩:SqD),d)) ?_
 generalize coefG wrC 8 q.large M.2=K at *
 obtain ⟨kr,k2⟩:=K
 cases kr <;> exact SameR.pure L.ok _
/-- a square that is written is read again as the writer tells it -/
theorem same_square (key:Bool) (q:AskD) (h:WrtOk m):SameR (squareG wrC key q m) m (squareD key):=by
 have key':SameR (squareG wrC key q m) m (squareG rdC key q):=by
  have A:=same_kindK key q.kind q.kind h
  refine SameR.seq A (h:=fun (k:Nat) d=>match (partsG rdC q k d).1 with
   | .error e=>(Except.error (inD sSyntax k e),(partsG rdC q k d).2)
   | .ok s=>(Except.ok s,(partsG rdC q k d).2)) ?_
  unfold squareG
  generalize kindKG wrC key q.kind m=K at *
  have B:=same_parts q q K.1 A.ok
  refine SameR.seq B (h:=fun r d=>match r with
   | .error e=>(Except.error (inD sSyntax K.1 e),d)
   | .ok s=>(Except.ok s,d)) ?_
  generalize partsG wrC q K.1 K.2=P at *
  obtain ⟨kr,k2⟩:=P
  cases kr <;> exact SameR.pure B.ok _
 refine ⟨key'.ok,key'.inn,fun {D z d} t i r=>?_⟩
 have:=key'.same t i r
 rw [squareG_rd] at this
 exact this
end
theorem bitW_val (c:Nat) (b:Bool) (m:Wrt):(wrC.bit c b m).1=b:=rfl
theorem flatW_val (b:Bool) (m:Wrt):(wrC.flat b m).1=b:=rfl
theorem ones_val {f:Nat→Nat} {v:Int}:∀ (k n:Nat) (m:Wrt),(n:Int)≤v→v≤n+k→((onesG wrC f v k n m).1:Int)=v
 | 0,n,m,h1,h2=>by show (n:Int)=v;omega
 | k+1,n,m,h1,h2=>by
  unfold onesG
  rw [bitW_val]
  by_cases h:(n:Int)<v
  ·rw [if_pos (by simpa using h)]
   exact ones_val k (n+1) _ (by omega) (by omega)
  ·rw [if_neg (by simpa using h)]
   show (n:Int)=v
   omega
theorem ones_cap {f:Nat→Nat} {v:Int}:∀ (k n:Nat) (m:Wrt),(n:Int)+k≤v→(onesG wrC f v k n m).1=n+k
 | 0,n,m,h=>rfl
 | k+1,n,m,h=>by
  unfold onesG
  rw [bitW_val,if_pos (by simp;omega),ones_cap k (n+1) _ (by omega)]
  omega
theorem flats_val {u:Int}:∀ (k n:Nat) (m:Wrt),(2:Int) ^ n≤u→u<2 ^ (n+k+1)→(2:Int) ^ (flatsG wrC u k n m).1≤u∧u<2 ^ ((flatsG wrC u k n m).1+1)
 | 0,n,m,h1,h2=>⟨h1,h2⟩
 | k+1,n,m,h1,h2=>by
  unfold flatsG
  rw [flatW_val]
  by_cases h:(2:Int) ^ (n+1)≤u
  ·rw [if_pos (by simpa using h)]
   exact flats_val k (n+1) _ h (by rw [show n+1+k+1=n+(k+1)+1 by omega];exact h2)
  ·rw [if_neg (by simpa using h)]
   exact ⟨h1,Int.not_le.1 h⟩
theorem bits_val {u:Int} (hu:0≤u):∀ (k n:Nat) (m:Wrt),(n:Int)=u / 2 ^ k→((bitsG wrC u k n m).1:Int)=u
 | 0,n,m,h=>by show (n:Int)=u;rw [h];simp
 | k+1,n,m,h=>by
  unfold bitsG
  rw [flatW_val]
  refine bits_val hu k _ _ ?_
  have hp:(2:Int) ^ (k+1)=2 ^ k*2:=Int.pow_succ 2 k
  rw [hp,← Int.ediv_ediv_of_nonneg (Int.le_of_lt (Int.pow_pos (by decide)))] at h
  generalize u / 2 ^ k=q at *
  by_cases hb:q % 2=1
  ·rw [if_pos (by simpa using hb)];omega
  ·rw [if_neg (by simpa using hb)];omega
theorem great_val {u:Int} (h1:1≤u) (h2:u<16384) (m:Wrt):((greatG wrC u m).1:Int)=u:=by
 obtain ⟨a,b⟩:=flats_val (u:=u) 13 0 m (by simpa using h1) (by simpa using h2)
 unfold greatG
 generalize flatsG wrC u 13 0 m=F at *
 refine bits_val (by omega) _ _ _ ?_
 rw [Int.pow_succ] at b
 have hp:(0:Int)<2 ^ F.1:=Int.pow_pos (by decide)
 generalize (2:Int) ^ F.1=P at *
 have e1:1≤u / P:=(Int.le_ediv_iff_mul_le hp).2 (by omega)
 have e2:u / P<2:=(Int.ediv_lt_iff_lt_mul hp).2 (by omega)
 show (1:Int)=u / P
 omega
theorem size_val {base:Nat} {v:Int} (h1:0≤v) (h2:v≤16320) (m:Wrt):((sizeG wrC base v m).1:Int)=v:=by
 unfold sizeG
 by_cases h:v<14
 ·have e:=ones_val (f:=fun n=>base+17+min n 7) (v:=v) 14 0 m (by omega) (by omega)
  rw [if_neg (by omega)]
  exact e
 ·have e:=ones_cap (f:=fun n=>base+17+min n 7) (v:=v) 14 0 m (by omega)
  rw [if_pos (by omega)]
  have g:=great_val (u:=v-13) (by omega) (by omega) (onesG wrC (fun n=>base+17+min n 7) v 14 0 m).2
  show ((13+(greatG wrC (v-13) _).1:Nat):Int)=v
  omega
theorem level_val {base:Nat} {v:Int} (h0:v≠0) (h1:-16320≤v) (h2:v≤16320) (m:Wrt):(levelG wrC base v m).1=v:=by
 unfold levelG
 have e:=size_val (base:=base) (v:=max v (-v)-1) (by omega) (by omega) (wrC.flat (decide (v<0)) m).2
 rw [flatW_val]
 show signD (decide (v<0)) (sizeG wrC base (max v (-v)-1) (wrC.flat (decide (v<0)) m).2).1=v
 generalize sizeG wrC base (max v (-v)-1) (wrC.flat (decide (v<0)) m).2=S at *
 unfold signD
 by_cases h:v<0
 ·rw [if_pos (by simpa using h)];omega
 ·rw [if_neg (by simpa using h)];omega
theorem mode_val {v:Int} (h1:0≤v) (h2:v≤3) (m:Wrt):((modeG wrC v m).1:Int)=v:=by
 unfold modeG modeG2
 rw [show min (max v 0) 3=v by omega,bitW_val]
 by_cases h:1<v
 ·rw [if_pos (by simpa using h)]
  show ((if decide (v % 2=1)=true then 3 else 2:Nat):Int)=v
  by_cases hv:v % 2=1
  ·rw [if_pos (by simpa using hv)];omega
  ·rw [if_neg (by simpa using hv)];omega
 ·rw [if_neg (by simpa using h)]
  show ((if decide (v % 2=1)=true then 1 else 0:Nat):Int)=v
  by_cases hv:v % 2=1
  ·rw [if_pos (by simpa using hv)];omega
  ·rw [if_neg (by simpa using hv)];omega
theorem part_val {v:Int} (h1:-15≤v) (h2:v≤15) (m:Wrt):(partG wrC v m).1=v:=by
 unfold partG partG2
 rw [show min (max v (-15)) 15=v by omega,bitW_val]
 by_cases h:v=0
 ·rw [if_neg (by simpa using h)];exact h.symm
 ·rw [if_pos (by simpa using h)]
  unfold partG3
  have e:=ones_val (f:=fun n=>7+min n 6) (v:=max v (-v)-1) 14 0 (wrC.flat (decide (v<0)) (wrC.bit 6 (decide (v≠0)) m).2).2 (by omega) (by omega)
  rw [flatW_val]
  show signD (decide (v<0)) (onesG wrC (fun n=>7+min n 6) (max v (-v)-1) 14 0 (wrC.flat (decide (v<0)) (wrC.bit 6 (decide (v≠0)) m).2).2).1=v
  generalize onesG wrC (fun n=>7+min n 6) (max v (-v)-1) 14 0 (wrC.flat (decide (v<0)) (wrC.bit 6 (decide (v≠0)) m).2).2=S at *
  unfold signD
  by_cases hn:v<0
  ·rw [if_pos (by simpa using hn)];omega
  ·rw [if_neg (by simpa using hn)];omega
theorem kindK_val {key:Bool} {k:Int} (h1:0≤k) (h2:k≤3) (hk:key=true→2≤k) (m:Wrt):((kindKG wrC key k m).1:Int)=k:=by
 unfold kindKG
 cases key with
 | true =>
  rw [if_pos rfl]
  show ((if decide (k=3)=true then 3 else 2:Nat):Int)=k
  have:=hk rfl
  by_cases h:k=3
  ·rw [if_pos (by simpa using h)];omega
  ·rw [if_neg (by simpa using h)];omega
 | false =>
  rw [if_neg (by simp)]
  exact ones_val (f:=fun n=>min n 63) 3 0 m (by omega) (by omega)
/-! ### levels -/
/-- of the levels l those at the places that were told, the others 0 -/
structure Told (l:List Int) (rest:List Nat) (out:List Int):Prop where
 len:out.length=l.length
 at_:∀ j,j<l.length→out.getD j 0=if j∈rest then 0 else l.getD j 0
theorem getD_set_same {l:List Int} {a:Nat} {x:Int} (h:a<l.length):(l.set a x).getD a 0=x:=by
 rw [List.getD_eq_getElem?_getD,List.getElem?_set_self h];rfl
theorem getD_set_other {l:List Int} {a j:Nat} {x:Int} (h:j≠a):(l.set a x).getD j 0=l.getD j 0:=by
 rw [List.getD_eq_getElem?_getD,List.getElem?_set_ne (Ne.symm h),← List.getD_eq_getElem?_getD]
theorem Told.next {l out:List Int} {a:Nat} {rest:List Nat} (h:Told l (a :: rest) out) (ha:a<l.length) (hn:a∉rest):Told l rest (out.set a (l.getD a 0)):=by
 refine ⟨by rw [List.length_set];exact h.len,fun j hj=>?_⟩
 by_cases e:j=a
 ·subst e
  rw [getD_set_same (by rw [h.len];exact hj),if_neg hn]
 ·rw [getD_set_other e,h.at_ j hj]
  by_cases hr:j∈rest
  ·rw [if_pos (List.mem_cons_of_mem _ hr),if_pos hr]
  ·rw [if_neg (fun hm=>(List.mem_cons.1 hm).elim e hr),if_neg hr]
theorem Told.skip {l out:List Int} {a:Nat} {rest:List Nat} (h:Told l (a :: rest) out) (h0:l.getD a 0=0):Told l rest out:=by
 refine ⟨h.len,fun j hj=>?_⟩
 rw [h.at_ j hj]
 by_cases hr:j∈rest
 ·rw [if_pos (List.mem_cons_of_mem _ hr),if_pos hr]
 ·rw [if_neg hr]
  by_cases e:j=a
  ·subst e;rw [if_pos (List.mem_cons_self ..),h0]
  ·rw [if_neg (fun hm=>(List.mem_cons.1 hm).elim e hr)]
theorem Told.done {l out:List Int} {rest:List Nat} (h:Told l rest out) (hz:zerosAt l rest=true):out=l:=by
 refine List.ext_getElem h.len (fun j h1 h2=>?_)
 have e:=h.at_ j h2
 rw [List.getD_eq_getElem?_getD,List.getElem?_eq_getElem h1,List.getD_eq_getElem?_getD,List.getElem?_eq_getElem h2] at e
 simp only [Option.getD_some] at e
 by_cases hr:j∈rest
 ·rw [if_pos hr] at e
  unfold zerosAt at hz
  rw [List.all_eq_true] at hz
  have:=hz j hr
  rw [List.getD_eq_getElem?_getD,List.getElem?_eq_getElem h2] at this
  simp only [Option.getD_some,beq_iff_eq] at this
  rw [e,this]
 ·rw [if_neg hr] at e;exact e
theorem coefGo_val {base last:Nat} {l:List Int} (hl:LevOk l):∀ (o:List Nat) (i:Nat) (out:List Int) (m:Wrt),(∀ a∈o,a<l.length)→o.Nodup→i+o.length=last+1→zerosAt l o=false→Told l o out →
  (coefGoG wrC base last l o i out m).1=.ok l
 | [],i,out,m,ho,hn,hi,hz,ht=>by simp [zerosAt] at hz
 | a :: rest,i,out,m,ho,hn,hi,hz,ht=>by
  have ha:=ho a (List.mem_cons_self ..)
  have hn':=List.nodup_cons.1 hn
  have ho':∀ b∈rest,b<l.length:=fun b hb=>ho b (List.mem_cons_of_mem _ hb)
  have hlev:-16320≤l.getD a 0∧l.getD a 0≤16320:=hl _ (by rw [List.getD_eq_getElem?_getD,List.getElem?_eq_getElem ha];exact List.getElem_mem _)
  have hz':zerosAt l (a :: rest)=(l.getD a 0 == 0 && zerosAt l rest):=rfl
  rw [hz'] at hz
  rw [List.length_cons] at hi
  rw [coefGoG_eq]
  by_cases hil:i<last
  ·rw [if_pos hil,bitW_val]
   by_cases h0:l.getD a 0=0
   ·rw [if_neg (by simpa using h0)]
    rw [h0] at hz
    simp only [beq_self_eq_true,Bool.true_and] at hz
    exact coefGo_val hl rest (i+1) out _ ho' hn'.2 (by omega) hz (ht.skip h0)
   ·rw [if_pos (by simpa using h0),level_val h0 hlev.1 hlev.2]
    unfold coefEnd
    rw [if_neg (by omega),if_pos rfl,bitW_val]
    cases hr:zerosAt l rest with
    | true =>
     rw [if_pos rfl]
     show Except.ok (out.set a (l.getD a 0))=.ok l
     rw [(ht.next ha hn'.1).done hr]
    | false =>
     rw [if_neg (by simp)]
     exact coefGo_val hl rest (i+1) _ _ ho' hn'.2 (by omega) hr (ht.next ha hn'.1)
  ·have hr:rest=[]:=List.eq_nil_of_length_eq_zero (by omega)
   subst hr
   have h0:l.getD a 0≠0:=by intro e;rw [e] at hz;simp [zerosAt] at hz
   rw [if_neg hil,level_val h0 hlev.1 hlev.2]
   unfold coefEnd
   rw [if_neg (by omega),if_neg (by simp)]
   show Except.ok (out.set a (l.getD a 0))=.ok l
   rw [(ht.next ha hn'.1).done rfl]
theorem zeroB_at {l:List Int} (h:zeroB l=false) {o:List Nat} (ho:∀ j,j<l.length→j∈o):zerosAt l o=false:=by
 cases hz:zerosAt l o with
 | false=>rfl
 | true =>
  exfalso
  unfold zeroB at h
  rw [List.all_eq_false] at h
  obtain ⟨x,hx,hne⟩:=h
  obtain ⟨j,hj,rfl⟩:=List.mem_iff_getElem.1 hx
  unfold zerosAt at hz
  rw [List.all_eq_true] at hz
  have:=hz j (ho j hj)
  rw [List.getD_eq_getElem?_getD,List.getElem?_eq_getElem hj] at this
  exact hne this
theorem zeroB_eq {l:List Int} (h:zeroB l=true):l=List.replicate l.length 0:=by
 unfold zeroB at h
 rw [List.all_eq_true] at h
 exact List.eq_replicate_iff.2 ⟨rfl,fun x hx=>by simpa using h x hx⟩
theorem order_all4:(orderD 4).Nodup∧∀ j,j<16→j∈orderD 4:=by rw [orderD_4];decide
theorem order_all8:(orderD 8).Nodup∧∀ j,j<64→j∈orderD 8:=by rw [orderD_8];decide
theorem coef_val {side:Nat} (hs:side=4∨side=8) {l:List Int} (hlen:l.length=side*side) (hl:LevOk l) (m:Wrt):(coefG wrC side l m).1=.ok l:=by
 have hord:(orderD side).Nodup∧(∀ j,j<side*side→j∈orderD side)∧(∀ j∈orderD side,j<side*side)∧(orderD side).length=side*side:=by
  rcases hs with rfl | rfl
  ·exact ⟨order_all4.1,order_all4.2,orderD_lt4,orderD_len4⟩
  ·exact ⟨order_all8.1,order_all8.2,orderD_lt8,orderD_len8⟩
 unfold coefG
 rw [bitW_val]
 cases hz:zeroB l with
 | true =>
  rw [if_neg (by simp)]
  show Except.ok (List.replicate (side*side) 0)=.ok l
  rw [← hlen,← zeroB_eq hz]
 | false =>
  simp only [Bool.not_false,if_true]
  have hpos:0<side*side:=by rcases hs with rfl | rfl <;> decide
  refine coefGo_val hl (orderD side) 0 _ _ (fun a ha=>by rw [hlen];exact hord.2.2.1 a ha) hord.1 (by rw [hord.2.2.2];omega) (zeroB_at hz (fun j hj=>hord.2.1 j (by omega))) ⟨by simp [hlen],fun j hj=>?_⟩
  rw [if_pos (hord.2.1 j (by omega)),List.getD_eq_getElem?_getD,List.getElem?_replicate]
  split <;> rfl
/-! ### squares -/
/-- what is asked for a square -/
def askOf (s:SqD):AskD:=⟨s.kind,s.mode,s.modes,s.vx,s.vy,s.large,s.small⟩
/-- a square's own parts -/
def normSq (s:SqD):SqD :=
 if s.kind=3 then ⟨3,0,s.modes,0,0,[],s.small⟩ else if s.kind=0 then sq0 else if s.kind=1 then ⟨1,0,[0,0,0,0],s.vx,s.vy,s.large,[[],[],[],[]]⟩ else ⟨2,s.mode,[0,0,0,0],0,0,s.large,[[],[],[],[]]⟩
/-- may a square be written? -/
structure SqWr (key:Bool) (s:SqD):Prop where
 kind:s.kind≤3
 key_:key=true→2≤s.kind
 mode:s.kind=2→s.mode≤3
 large:s.kind=1∨s.kind=2→s.large.length=64∧LevOk s.large
 vec:s.kind=1→-15≤s.vx∧s.vx≤15∧-15≤s.vy∧s.vy≤15
 small:s.kind=3→s.modes.length=4∧s.small.length=4∧(∀ x∈s.modes,0≤x∧x≤3)∧∀ l∈s.small,l.length=16∧LevOk l
theorem qEWrV0 {p:Prop} (h:p:=by
 rw [show 4-k=4-(k+1)+1 by omega,List.take_succ_eq_append_getElem (by omega),List.getD_eq_getElem?_getD,List.getElem?_eq_getElem (by omega)];rfl):p:=h
theorem small_val {qm:List Int} {ql:List (List Int)} (hm:qm.length=4) (hl:ql.length=4) (hms:∀ x∈qm,0≤x∧x≤3) (hls:∀ l∈ql,l.length=16∧LevOk l):∀ (k:Nat) (m:Wrt),k≤4 →
  (smallGoG wrC qm ql k (qm.take (4-k)) (ql.take (4-k)) m).1=.ok (qm,ql)
 | 0,m,hk=>by
  show Except.ok (qm.take 4,ql.take 4)=.ok (qm,ql)
  rw [List.take_of_length_le (by omega),List.take_of_length_le (by omega)]
 | k+1,m,hk=>by
  have hj:4-(k+1)<4:=by omega
  have e1:(qm.take (4-(k+1))).length=4-(k+1):=by rw [List.length_take];omega
  have e2:(ql.take (4-(k+1))).length=4-(k+1):=by rw [List.length_take];omega
  rw [smallGoG_eq,e1,e2]
  have g1:qm.getD (4-(k+1)) 0∈qm:=by rw [List.getD_eq_getElem?_getD,List.getElem?_eq_getElem (by omega)];exact List.getElem_mem _
  have g2:ql.getD (4-(k+1)) []∈ql:=by rw [List.getD_eq_getElem?_getD,List.getElem?_eq_getElem (by omega)];exact List.getElem_mem _
  have hmv:=mode_val (hms _ g1).1 (hms _ g1).2 m
  generalize modeG wrC (qm.getD (4-(k+1)) 0) m=M at *
  have hcv:=coef_val (side:=4) (.inl rfl) (hls _ g2).1 (hls _ g2).2 M.2
  generalize coefG wrC 4 (ql.getD (4-(k+1)) []) M.2=K at *
  rw [hcv,hmv]
  have t1:qm.take (4-(k+1)) ++ [qm.getD (4-(k+1)) 0]=qm.take (4-k):=by
   exact qEWrV0
  have t2:ql.take (4-(k+1)) ++ [ql.getD (4-(k+1)) []]=ql.take (4-k):=by
   exact qEWrV0
  show (smallGoG wrC qm ql k (qm.take (4-(k+1)) ++ [qm.getD (4-(k+1)) 0]) (ql.take (4-(k+1)) ++ [ql.getD (4-(k+1)) []]) K.2).1=_
  rw [t1,t2]
  exact small_val hm hl hms hls k _ (by omega)
theorem square_val {key:Bool} {s:SqD} (h:SqWr key s) (m:Wrt):(squareG wrC key (askOf s) m).1=.ok (normSq s):=by
 have hk:=kindK_val (key:=key) (k:=(s.kind:Int)) (by omega) (by have:=h.kind;omega) (fun e=>by have:=h.key_ e;omega) m
 unfold squareG
 show (match (partsG wrC (askOf s) (kindKG wrC key (s.kind:Int) m).1 (kindKG wrC key (s.kind:Int) m).2).1 with
  | .error e=>(Except.error (inD sSyntax (kindKG wrC key (s.kind:Int) m).1 e),(partsG wrC (askOf s) (kindKG wrC key (s.kind:Int) m).1 (kindKG wrC key (s.kind:Int) m).2).2)
  | .ok s'=>(Except.ok s',(partsG wrC (askOf s) (kindKG wrC key (s.kind:Int) m).1 (kindKG wrC key (s.kind:Int) m).2).2)).1=_
 generalize kindKG wrC key (s.kind:Int) m=K at *
 have hk':K.1=s.kind:=by omega
 rw [hk']
 have key2:(partsG wrC (askOf s) s.kind K.2).1=.ok (normSq s):=by
  unfold partsG normSq
  by_cases h3:s.kind=3
  ·rw [if_pos h3,if_pos h3]
   obtain ⟨a,b,c,d⟩:=h.small h3
   have e:=small_val a b c d 4 K.2 (by omega)
   simp only [Nat.sub_self,List.take_zero] at e
   show (match (smallGoG wrC s.modes s.small 4 [] [] K.2).1 with
    | .error e=>(Except.error e,(smallGoG wrC s.modes s.small 4 [] [] K.2).2)
    | .ok x=>(Except.ok (⟨3,0,x.1,0,0,[],x.2⟩:SqD),(smallGoG wrC s.modes s.small 4 [] [] K.2).2)).1=_
   rw [e]
  rw [if_neg h3,if_neg h3]
  by_cases h0:s.kind=0
  ·rw [if_pos h0,if_pos h0]
  rw [if_neg h0,if_neg h0]
  by_cases h1:s.kind=1
  ·rw [if_pos h1,if_pos h1]
   obtain ⟨a,b⟩:=h.large (.inl h1)
   obtain ⟨v1,v2,v3,v4⟩:=h.vec h1
   have x1:=part_val v1 v2 K.2
   show (match (coefG wrC 8 s.large (partG wrC s.vy (partG wrC s.vx K.2).2).2).1 with
    | .error e=>(Except.error e,(coefG wrC 8 s.large (partG wrC s.vy (partG wrC s.vx K.2).2).2).2)
    | .ok l=>(Except.ok (⟨1,0,[0,0,0,0],(partG wrC s.vx K.2).1,(partG wrC s.vy (partG wrC s.vx K.2).2).1,l,[[],[],[],[]]⟩:SqD),(coefG wrC 8 s.large (partG wrC s.vy (partG wrC s.vx K.2).2).2).2)).1=_
   rw [x1]
   generalize partG wrC s.vx K.2=X at *
   rw [part_val v3 v4 X.2,coef_val (side:=8) (.inr rfl) a b]
  rw [if_neg h1,if_neg h1]
  have h2:s.kind=2:=by have:=h.kind;omega
  obtain ⟨a,b⟩:=h.large (.inr h2)
  have x1:=mode_val (v:=(s.mode:Int)) (by omega) (by have:=h.mode h2;omega) K.2
  show (match (coefG wrC 8 s.large (modeG wrC (s.mode:Int) K.2).2).1 with
   | .error e=>(Except.error e,(coefG wrC 8 s.large (modeG wrC (s.mode:Int) K.2).2).2)
   | .ok l=>(Except.ok (⟨2,(modeG wrC (s.mode:Int) K.2).1,[0,0,0,0],0,0,l,[[],[],[],[]]⟩:SqD),(coefG wrC 8 s.large (modeG wrC (s.mode:Int) K.2).2).2)).1=_
  generalize modeG wrC (s.mode:Int) K.2=M at *
  rw [coef_val (side:=8) (.inr rfl) a b,show M.1=s.mode by omega]
 generalize partsG wrC (askOf s) s.kind K.2=P at *
 rw [key2]
theorem laySq_norm {f prev:FrameD} {x y qp:Int} {s:SqD} (h:s.kind≤3):laySq f prev x y qp (normSq s)=laySq f prev x y qp s:=by
 unfold normSq
 by_cases h3:s.kind=3
 ·rw [if_pos h3];unfold laySq
  rw [if_neg (by simp),if_neg (by simp),if_neg (by simp),if_neg (by omega),if_neg (by omega),if_neg (by omega)]
  rfl
 by_cases h0:s.kind=0
 ·rw [if_neg h3,if_pos h0];unfold laySq
  rw [if_pos (by rfl),if_pos h0]
 by_cases h1:s.kind=1
 ·rw [if_neg h3,if_neg h0,if_pos h1];unfold laySq
  rw [if_neg (by simp),if_pos (by rfl),if_neg h0,if_pos h1]
 ·rw [if_neg h3,if_neg h0,if_neg h1];unfold laySq
  rw [if_neg (by simp),if_neg (by simp),if_pos (by rfl),if_neg h0,if_neg h1,if_pos (by omega)]
/-- the n bytes of a number, the highest first -/
def bytesBE (n:Nat) (v:Int):List Int:=(List.range n).map fun i=>v / 256 ^ (n-1-i) % 256
/-- without the zeros at its end -/
def stripZ (l:List Int):List Int:=(l.reverse.dropWhile (· == 0)).reverse
/-- the bytes that are told at the end -/
def endW (m:Wrt):List Int:=stripZ (bytesBE m.n m.lo)
theorem mem_tw {p:Int→Bool}:∀ {l:List Int} {x:Int},x∈l.takeWhile p→p x=true
 | [],x,h=>by simp at h
 | a :: l,x,h=>by
  rw [List.takeWhile_cons] at h
  split at h
  ·rename_i hp
   rcases List.mem_cons.1 h with rfl | h
   ·exact hp
   ·exact mem_tw h
  ·cases h
theorem stripZ_pre (l:List Int):∃ k,l=stripZ l ++ List.replicate k 0:=by
 unfold stripZ
 have h:=List.takeWhile_append_dropWhile (p:=(· == (0:Int))) (l:=l.reverse)
 refine ⟨(l.reverse.takeWhile (· == 0)).length,?_⟩
 have e:(l.reverse.takeWhile (· == 0))=List.replicate (l.reverse.takeWhile (· == 0)).length 0:=by
  refine List.eq_replicate_iff.2 ⟨rfl,fun x hx=>?_⟩
  have:=mem_tw hx
  simpa using this
 have h2:=congrArg List.reverse h
 rw [List.reverse_append,List.reverse_reverse,e,List.reverse_replicate] at h2
 exact h2.symm
theorem stripZ_getD (l:List Int) (i:Nat):(stripZ l).getD i 0=l.getD i 0:=by
 obtain ⟨k,h⟩:=stripZ_pre l
 have e:l.getD i 0=(stripZ l ++ List.replicate k 0).getD i 0:=by rw [← h]
 rw [e,List.getD_eq_getElem?_getD,List.getD_eq_getElem?_getD]
 by_cases hi:i<(stripZ l).length
 ·rw [List.getElem?_append_left hi]
 ·rw [List.getElem?_append_right (by omega),List.getElem?_eq_none (by omega),List.getElem?_replicate]
  split <;> rfl
theorem stripZ_len (l:List Int):(stripZ l).length≤l.length:=by
 obtain ⟨k,h⟩:=stripZ_pre l
 have:=congrArg List.length h
 rw [List.length_append] at this
 omega
theorem stripZ_mem {l:List Int} {x:Int} (h:x∈stripZ l):x∈l:=by
 obtain ⟨k,e⟩:=stripZ_pre l
 rw [e];exact List.mem_append_left _ h
theorem bytesBE_u8 (n:Nat) (v:Int):∀ x∈bytesBE n v,InK .u8 x:=by
 intro x hx
 obtain ⟨i,_,rfl⟩:=List.mem_map.1 hx
 simp only [InK]
 omega
theorem endW_u8 (m:Wrt):∀ x∈endW m,InK .u8 x:=fun x hx=>bytesBE_u8 _ _ x (stripZ_mem hx)
theorem endW_len (m:Wrt):(endW m).length≤m.n:=Nat.le_trans (stripZ_len _) (by simp [bytesBE])
theorem numW_congr {D E:List Int} (h:∀ i,D.getD i 0=E.getD i 0):∀ k,numW D k=numW E k
 | 0=>rfl
 | k+1=>by show numW D k*256+D.getD k 0=numW E k*256+E.getD k 0;rw [numW_congr h k,h k]
theorem numW_BE {n:Nat} {v:Int} (h0:0≤v) (h1:v<256 ^ n):∀ k,k≤n→numW (bytesBE n v) k=v / 256 ^ (n-k)
 | 0,_=>by
  show (0:Int)=v / 256 ^ n
  rw [Int.ediv_eq_zero_of_lt h0 h1]
 | k+1,hk=>by
  show numW (bytesBE n v) k*256+(bytesBE n v).getD k 0=_
  rw [numW_BE h0 h1 k (by omega)]
  have e:(bytesBE n v).getD k 0=v / 256 ^ (n-(k+1)) % 256:=by
   unfold bytesBE
   rw [List.getD_eq_getElem?_getD,List.getElem?_map,List.getElem?_range (by omega)]
   show v / 256 ^ (n-1-k) % 256=_
   rw [show n-1-k=n-(k+1) by omega]
  rw [e,show n-k=(n-(k+1))+1 by omega,Int.pow_succ,← Int.ediv_ediv_of_nonneg (Int.le_of_lt (pow256_pos _))]
  generalize v / 256 ^ (n-(k+1))=q
  omega
theorem endW_tells {z:Wrt} (h:WrtOk z):Tells (endW z) z:=by
 have hr:=h.r0
 have ht:=h.top
 refine ⟨endW_u8 z,fun k hk=>?_,by omega⟩
 rw [show numW (endW z) k=numW (bytesBE z.n z.lo) k from numW_congr (stripZ_getD (bytesBE z.n z.lo)) k]
 exact numW_BE h.lo0 (by omega) k hk
theorem reads_new {D:List Int} (h:∀ x∈D,InK .u8 x):Reads D wrtNew (modNew D):=by
 refine ⟨rfl,rfl,rfl,rfl,?_⟩
 show ((D.getD 0 0*256+D.getD 1 0)*256+D.getD 2 0)*256+D.getD 3 0=numW D 4-0
 simp only [numW]
 omega
/-! ### frames -/
/-- squares told one behind the other, from the i-th on: k are left; ch: what is chosen for a place, by what is built so far -/
def encGo (key:Bool) (prev:FrameD) (qp:Int) (ch:FrameD→Int→Int→SqD):Nat→Nat→FrameD→Wrt→FrameD×Wrt
 | 0,_,f,m=>(f,m)
 | k+1,i,f,m =>
  encGo key prev qp ch k (i+1) (laySq f prev ((i:Int)*8 % f.W) ((i:Int)*8 / f.W*8) qp (ch f ((i:Int)*8 % f.W) ((i:Int)*8 / f.W*8))) (squareG wrC key (askOf (ch f ((i:Int)*8 % f.W) ((i:Int)*8 / f.W*8))) m).2
theorem enc_dec {key:Bool} {prev:FrameD} {qp:Int} {ch:FrameD→Int→Int→SqD} {P:FrameD→Prop} (hP:∀ f x y,P f→SqWr key (ch f x y)) (hN:∀ f x y,P f→P (laySq f prev x y qp (ch f x y))) :
  ∀ (k i:Nat) {f:FrameD} {m:Wrt},P f→WrtOk m→WrtOk (encGo key prev qp ch k i f m).2∧WIn (encGo key prev qp ch k i f m).2 m ∧
   ∀ {D:List Int} {z:Wrt} {d:Mod},Tells D z→WIn z (encGo key prev qp ch k i f m).2→Reads D m d→squaresGo key prev qp k i f d=.ok (encGo key prev qp ch k i f m).1
 | 0,i,f,m,hf,hm=>⟨hm,WIn.refl m,fun t w r=>rfl⟩
 | k+1,i,f,m,hf,hm=>by
  have hs:=hP f ((i:Int)*8 % f.W) ((i:Int)*8 / f.W*8) hf
  have hn:=hN f ((i:Int)*8 % f.W) ((i:Int)*8 / f.W*8) hf
  have hsg:∀ (d:Mod) (s:SqD),(squareD key d).1=.ok s→squaresGo key prev qp (k+1) i f d=squaresGo key prev qp k (i+1) (laySq f prev ((i:Int)*8 % f.W) ((i:Int)*8 / f.W*8) qp s) (squareD key d).2:=fun d s h=>by rw [squaresGo,h]
  unfold encGo
  generalize (i:Int)*8 / f.W*8=y at *
  generalize (i:Int)*8 % f.W=x at *
  have S:=same_square key (askOf (ch f x y)) hm
  have V:=square_val hs m
  generalize hq:squareG wrC key (askOf (ch f x y)) m=q at *
  obtain ⟨a,b,c⟩:=enc_dec hP hN k (i+1) hn S.ok
  refine ⟨a,b.trans S.inn,fun {D z d} t w r=>?_⟩
  obtain ⟨u,v⟩:=S.same t (w.trans b) r
  rw [V] at u
  rw [hsg d _ u,laySq_norm hs.kind]
  exact c t w v
theorem bytesBE_len (n:Nat) (v:Int):(bytesBE n v).length=n:=by simp [bytesBE]
theorem bytesBE_snoc (n:Nat) (v:Int):bytesBE (n+1) v=bytesBE n (v / 256) ++ [v % 256]:=by
 unfold bytesBE
 rw [List.range_succ,List.map_append]
 congr 1
 ·refine List.map_congr_left (fun i hi=>?_)
  rw [List.mem_range] at hi
  rw [show n+1-1-i=(n-1-i)+1 by omega,Int.pow_succ,Int.mul_comm,← Int.ediv_ediv_of_nonneg (by omega)]
 ·simp
/-- one more, from the i-th byte back -/
def incAt:Nat→List Int→List Int
 | 0,l=>l
 | i+1,l=>if (l.getD i 0+1) % 256=0 then incAt i (l.set i 0) else l.set i ((l.getD i 0+1) % 256)
theorem incAt_BE:∀ (n:Nat) (v:Int) (t:List Int),incAt n (bytesBE n v ++ t)=bytesBE n (v+1) ++ t
 | 0,v,t=>rfl
 | n+1,v,t=>by
  unfold incAt
  have hl:(bytesBE n (v / 256)).length=n:=bytesBE_len _ _
  have hg:(bytesBE (n+1) v ++ t).getD n 0=v % 256:=by
   rw [bytesBE_snoc,List.append_assoc,List.getD_eq_getElem?_getD,List.getElem?_append_right (by omega),hl,Nat.sub_self]
   rfl
  have hs:∀ x:Int,(bytesBE (n+1) v ++ t).set n x=bytesBE n (v / 256) ++ (x :: t):=by
   intro x
   rw [bytesBE_snoc,List.append_assoc,List.set_append_right _ _ (by omega),hl,Nat.sub_self]
   rfl
  rw [hg]
  by_cases h:(v % 256+1) % 256=0
  ·rw [if_pos h,hs,incAt_BE n (v / 256) (0 :: t),bytesBE_snoc n (v+1),List.append_assoc]
   have e1:(v+1) / 256=v / 256+1:=by omega
   have e2:(v+1) % 256=0:=by omega
   rw [e1,e2]
   rfl
  ·rw [if_neg h,hs,bytesBE_snoc n (v+1),List.append_assoc]
   have e1:(v+1) / 256=v / 256:=by omega
   have e2:(v+1) % 256=(v % 256+1) % 256:=by omega
   rw [e1,e2]
   rfl
/-- the settled bytes and the four of the low -/
theorem bytesBE_low (n:Nat) (v:Int):bytesBE (n+4) v=bytesBE n (v / 4294967296) ++ [v / 16777216 % 256,v / 65536 % 256,v / 256 % 256,v % 256]:=by
 rw [bytesBE_snoc,bytesBE_snoc,bytesBE_snoc,bytesBE_snoc]
 have e1:v / 256 / 256=v / 65536:=by omega
 have e2:v / 256 / 256 / 256=v / 16777216:=by omega
 have e3:v / 256 / 256 / 256 / 256=v / 4294967296:=by omega
 rw [e3,e2,e1]
 simp
/-- a shift: the low's first byte is settled -/
theorem bytesBE_shift (n:Nat) (v:Int):bytesBE (n+1) (v*256 / 4294967296)=bytesBE n (v / 4294967296) ++ [v / 16777216 % 256]:=by
 rw [bytesBE_snoc]
 have e1:v*256 / 4294967296 / 256=v / 4294967296:=by omega
 have e2:v*256 / 4294967296 % 256=v / 16777216 % 256:=by omega
 rw [e1,e2]
theorem cells3 {w:World} {g:Nat} {v0 v1 v2:Value} {t:TypeId} (h:w.heap[g]?=some (.cells #[v0,v1,v2] t (0,0))) :
  w.cell? ⟨g,0,none⟩=some v0∧w.cell? ⟨g,1,none⟩=some v1∧w.cell? ⟨g,2,none⟩=some v2:=by
 refine ⟨?_,?_,?_⟩ <;> (rw [cell_of_row _ _ _ _ _ _ h];rfl)
/-- the bytes that are settled -/
def setW (m:Wrt):List Int:=bytesBE (m.n-4) (m.lo / 4294967296)
theorem setW_len (m:Wrt):(setW m).length=m.n-4:=bytesBE_len _ _
/-- the encoder in block E, its settled bytes an own row from base on -/
structure EncIn (base E:Nat) (w:World) (ov:Value) (m:Wrt):Prop where
 row:w.heap[E]?=some (.cells #[ov,.int .u64 (m.lo % 4294967296),.int .u64 m.r] 255 (0,0))
 own:Own .u8 5 base w ov (setW m)
 hE:base≤E
 ne:∀ g,ov.ownBlock=some g→g≠E
section
variable {base E:Nat} {w w':World} {ov:Value} {m:Wrt} {S:List Nat}
/-- the blocks of an encoder -/
abbrev encB (E:Nat) (ov:Value):List Nat:=E :: ov.ownBlock.toList
theorem EncIn.lt (h:EncIn base E w ov m):∀ g∈encB E ov,base≤g∧g<w.heap.size:=by
 intro g hg
 rcases List.mem_cons.1 hg with rfl | hg
 ·exact ⟨h.hE,(Array.getElem?_eq_some_iff.1 h.row).1⟩
 ·exact h.own.at g (by simpa using hg)
theorem EncIn.only (h:EncIn base E w ov m) (o:Only S w w') (hS:∀ g∈S,g∉encB E ov):EncIn base E w' ov m :=
 ⟨o.rowAt h.row (fun hm=>hS E hm (List.mem_cons_self ..)),h.own.only o (fun g hg e=>hS g hg (List.mem_cons_of_mem _ (by rw [e];simp))),h.hE,h.ne⟩
theorem EncIn.quiet (h:EncIn base E w ov m) (o:Only [] w w'):EncIn base E w' ov m:=h.only o (by simp)
theorem Own.nilOr {k:IntKind} {e:TypeId} {l:List Int} (h:Own k e base w ov l):(ov=.slice none 0 0∧l=[])∨∃ g cap,ov=.slice (some ⟨g,0,none⟩) l.length cap:=by
 rcases h.1.2 with ⟨rfl,h2⟩ | ⟨g,cap,cur,rfl,_⟩
 ·exact .inl ⟨rfl,by have:=h.1.1;rw [h2] at this;simpa using this⟩
 ·exact .inr ⟨g,cap,rfl⟩
/-- the encoder's cells -/
abbrev EncRow (E:Nat) (w:World) (ov:Value) (a b:Int):Prop:=w.heap[E]?=some (.cells #[ov,.int .u64 a,.int .u64 b] 255 (0,0))
theorem EncRow.set0 {a b:Int} (h:EncRow E w ov a b) (v:Value):EncRow E (w.setCell ⟨E,0,none⟩ v) v a b∧Only [E] w (w.setCell ⟨E,0,none⟩ v):=⟨heap_setCell_same w E 0 _ _ _ h,(Only.refl _ _).setCell (by simp) _⟩
theorem EncRow.set1 {a b:Int} (h:EncRow E w ov a b) (x:Int):EncRow E (w.setCell ⟨E,1,none⟩ (.int .u64 x)) ov x b∧Only [E] w (w.setCell ⟨E,1,none⟩ (.int .u64 x)):=⟨heap_setCell_same w E 1 _ _ _ h,(Only.refl _ _).setCell (by simp) _⟩
theorem EncRow.set2 {a b:Int} (h:EncRow E w ov a b) (x:Int):EncRow E (w.setCell ⟨E,2,none⟩ (.int .u64 x)) ov a x∧Only [E] w (w.setCell ⟨E,2,none⟩ (.int .u64 x)):=⟨heap_setCell_same w E 2 _ _ _ h,(Only.refl _ _).setCell (by simp) _⟩
end
theorem setW_shift {m:Wrt} (h:4≤m.n):setW m.shift=setW m ++ [m.lo / 16777216 % 256]:=by
 unfold setW
 show bytesBE (m.n+1-4) (m.lo*256 / 4294967296)=_
 rw [show m.n+1-4=(m.n-4)+1 by omega]
 exact bytesBE_shift _ _
theorem setW_carry (m:Wrt) {x:Int} (h0:0≤x) (h1:x<4294967296):setW ⟨m.p,m.lo+x,m.n,m.r-x⟩=if 4294967295<m.lo % 4294967296+x then incAt (setW m).length (setW m) else setW m:=by
 split
 ·rw [setW_len]
  have:=incAt_BE (m.n-4) (m.lo / 4294967296) []
  rw [List.append_nil,List.append_nil] at this
  show bytesBE (m.n-4) ((m.lo+x) / 4294967296)=incAt (m.n-4) (bytesBE (m.n-4) (m.lo / 4294967296))
  rw [this]
  congr 1;omega
 ·show bytesBE (m.n-4) ((m.lo+x) / 4294967296)=_
  unfold setW
  congr 1;omega
theorem endW_low (m:Wrt) (h:4≤m.n):endW m=stripZ (setW m ++ [m.lo / 16777216 % 256,m.lo / 65536 % 256,m.lo / 256 % 256,m.lo % 256]):=by
 unfold endW setW
 rw [show m.n=(m.n-4)+4 by omega,bytesBE_low,show m.n-4+4-4=m.n-4 by omega]
theorem stripZ_zero {l:List Int} {k:Nat} (hk:k<l.length) (h:l.getD k 0=0):stripZ (l.take (k+1))=stripZ (l.take k):=by
 unfold stripZ
 rw [List.take_succ_eq_append_getElem hk,List.reverse_append]
 have:l[k]=0:=by rw [List.getD_eq_getElem?_getD,List.getElem?_eq_getElem hk] at h;exact h
 simp [this]
theorem stripZ_last {l:List Int} {k:Nat} (hk:k<l.length) (h:l.getD k 0≠0):stripZ (l.take (k+1))=l.take (k+1):=by
 unfold stripZ
 rw [List.take_succ_eq_append_getElem hk,List.reverse_append]
 have:l[k]≠0:=by rw [List.getD_eq_getElem?_getD,List.getElem?_eq_getElem hk] at h;exact h
 simp [this]
/-- 'and' with the low's 32 bits -/
theorem and_whole {a:Int} (h0:0≤a) (h1:a<18446744073709551616):bits BinOp.and IntKind.u64 a 4294967295=a % 4294967296:=by
 obtain ⟨x,rfl⟩:=Int.eq_ofNat_of_zero_le h0
 have h:=bits_and_u64_nat x 4294967295 (by omega) (by omega)
 rw [show (4294967295:Nat)=2 ^ 32-1 from rfl,Nat.and_two_pow_sub_one_eq_mod] at h
 rw [show (4294967295:Int)=((2 ^ 32-1:Nat):Int) from rfl,h]
 omega
end Go.Proofs.YtkigikallkpbcaaGreatDoor
