/- Joined texts: DRBl, DSqK, DSqL, DSqO, DSqI, DSqA. Conditions: each part names its own. -/
import Derived.Test.YtkigikallkpbcaaGreatDoorK5
import Derived.Test.YtkigikallkpbcaaGreatDoorK2
import Derived.Test.YtkigikallkpbcaaGreatDoorC3
import Derived.Test.YtkigikallkpbcaaGreatDoorC4
import Derived.Deep.RegionHeld3
import Derived.BigRegion
import Derived.Test.YtkigikallkpbcaaGreatDoorS4
import Derived.Test.YtkigikallkpbcaaGreatDoorK1
set_option maxRecDepth 100000
set_option maxHeartbeats 16000000
namespace Go.Proofs.YtkigikallkpbcaaGreatDoor
open Go.RowKit
set_option linter.unusedVariables false
set_option linter.unusedSimpArgs false
/-- the append of integers, in a drawn region -/
theorem wp_append_ints {P:Program} {w:World} {o:Oper} {a:Act} {K:Act→World→Prop} {Q:Exit→Act→World→Prop} (hgd:o.guard=none) (s x:Operand) (t:TypeId)
  (ho:o.op=.call { callee:=.builtin .append,args:=#[s,x],argTypes:=#[t,t] })
  {k:IntKind} {e:TypeId} {z:Value} {bytes base lo hi:Nat} {v sv:Value} {l m:List Int} (E:Elem P t e z 1 bytes)
  (hown:Own k e base w v l) (hv:a.eval s=v) (hs:Ints k lo hi w sv m) (hx:a.eval x=sv)
  (hbytes:(l.length+m.length)*bytes≤140737488355328) (hbase:base≤w.heap.size)
  (h:∀ v' w',Own k e base w' v' (l ++ m)→Acc v w v' w'→K (a.put o.dst v') w'):Oper.wp P o a w K Q:=by
 have h1:=step_append_ints (ops:=#[]) (Q:=Q) (E':=True) hgd s x t ho E hown hv hs hx hbytes hbase h
 rwa [if_pos (by simp [Region.wanted,hgd])] at h1
section
end
end Go.Proofs.YtkigikallkpbcaaGreatDoor
/- A square that may be laid keeps a frame that may be. Conditions: the place lies in the frame. -/
namespace Go.Proofs.YtkigikallkpbcaaGreatDoor
set_option linter.unusedVariables false
theorem laySq_may {f prev:FrameD} (h:FrOk f) {s:SqD} (g:s.kind<2→SamOk prev.pix) {x y:Int} (hx:0≤x) (hxn:x+8≤f.W) (hy:0≤y) (hyn:y+8≤f.H) (hs:SqMay s) (qp:Int):FrOk (laySq f prev x y qp s):=by
 unfold laySq
 split
 ·rename_i h0
  exact layD_ok h hx hxn hy hyn (blockD_len _ _ _ _ _ _) (blockD_in (g (by omega)) _ _ _ _ _)
 rename_i h0
 split
 ·rename_i h1
  refine layD_ok h hx hxn hy hyn ?_ (addD_in _ _ _)
  rw [addD_len (by rw [blockD_len,(hs.large (.inl h1)).1]),blockD_len]
 rename_i h1
 split
 ·rename_i h2
  exact oneD_ok (n:=8) h hx hxn hy hyn (hs.large (.inr h2)).1 (by omega) _ _
 ·rename_i h2
  have h3:s.kind=3:=by have:=hs.kind;omega
  obtain ⟨a,b,c,d⟩:=hs.small h3
  have step:∀ (g:FrameD) (i:Nat),i<4→FrOk g→g.W=f.W→g.H=f.H→FrOk (smallD x y qp s g i)∧(smallD x y qp s g i).W=f.W∧(smallD x y qp s g i).H=f.H:=by
   intro g i hi hg hgw hgh
   refine ⟨(show FrOk (oneD g (x+((i % 2:Nat):Int)*4) (y+((i / 2:Nat):Int)*4) 4 (s.modes.getD i 0) qp (s.small.getD i [])) from oneD_ok hg (by omega) (by omega) (by omega) (by omega) ?_ (by omega) _ _),hgw,hgh⟩
   exact (d (s.small.getD i []) (by rw [List.getD_eq_getElem?_getD,List.getElem?_eq_getElem (by omega)];exact List.getElem_mem _)).1
  obtain ⟨h0,w0,e0⟩:=step f 0 (by omega) h rfl rfl
  obtain ⟨h1',w1,e1⟩:=step _ 1 (by omega) h0 w0 e0
  obtain ⟨h2',w2,e2⟩:=step _ 2 (by omega) h1' w1 e1
  exact (step _ 3 (by omega) h2' w2 e2).1
end Go.Proofs.YtkigikallkpbcaaGreatDoor
/- Plain laws for DecodeSquares: levels that are all 0 leave what is foretold, alike for each quantiser. Conditions: none. -/
namespace Go.Proofs.YtkigikallkpbcaaGreatDoor
set_option linter.unusedVariables false
theorem values_zero (n:Nat) (q:Int):valuesD (List.replicate n 0) q=List.replicate n 0:=by simp [valuesD]
/-- samples laid outside of a place leave it -/
theorem rowD_out {pix:List Int} {o:Nat} {row:List Int} {i:Nat} (ho:o+row.length≤pix.length) (hi:i<o∨o+row.length≤i):(rowD pix o row).getD i 0=pix.getD i 0:=by
 unfold rowD
 simp only [List.getD_eq_getElem?_getD]
 rcases hi with hi | hi
 ·rw [List.append_assoc,List.getElem?_append_left (by rw [List.length_take];omega),List.getElem?_take,if_pos hi]
 ·rw [List.getElem?_append_right (by simp;omega),List.getElem?_drop]
  congr 2
  simp
  omega
end Go.Proofs.YtkigikallkpbcaaGreatDoor
/- Plain laws for DecodeSquares: samples outside of a place stay. Conditions: the place lies in the plane. -/
namespace Go.Proofs.YtkigikallkpbcaaGreatDoor
set_option linter.unusedVariables false
theorem layP_out {W x y n j i:Nat} {b pix:List Int} (hx:x+n≤W) (hj:j<n) (hp:(y+n)*W≤pix.length) (hi:¬ (x≤i % W∧i % W<x+n∧y≤i / W∧i / W<y+n)) :
  (layP W x y n b pix j).getD i 0=pix.getD i 0∧(layP W x y n b pix j).length=pix.length:=by
 unfold layP
 have hc:((b.drop (j*n)).take n).length≤n:=by simp;omega
 have ho:(((y:Int)+(j:Int))*(W:Int)+(x:Int)).toNat=(y+j)*W+x:=by
  rw [← Int.natCast_add,← Int.natCast_mul,← Int.natCast_add];exact Int.toNat_natCast _
 rw [ho]
 have e:(y+j+1)*W=(y+j)*W+W:=Nat.succ_mul _ _
 have hb:(y+j)*W+x+n≤pix.length:=by
  have:(y+j+1)*W≤(y+n)*W:=Nat.mul_le_mul_right _ (by omega)
  omega
 generalize (b.drop (j*n)).take n=row at *
 refine ⟨rowD_out (by omega) ?_,by unfold rowD;simp;omega⟩
 by_cases h1:i<(y+j)*W+x
 ·exact .inl h1
 ·right
  by_cases h2:i<(y+j)*W+x+n
  ·exfalso
   apply hi
   have hdiv:i / W=y+j:=Nat.div_eq_of_lt_le (by omega) (by rw [e];omega)
   have hmod:=Nat.div_add_mod i W
   rw [hdiv,Nat.mul_comm] at hmod
   rw [hdiv]
   omega
  ·omega
theorem layF_out {W x y n i:Nat} {b:List Int} (hx:x+n≤W) (hi:¬ (x≤i % W∧i % W<x+n∧y≤i / W∧i / W<y+n)):∀ (k:Nat) {pix:List Int},k≤n→(y+n)*W≤pix.length →
  ((List.range k).foldl (layP W x y n b) pix).getD i 0=pix.getD i 0∧((List.range k).foldl (layP W x y n b) pix).length=pix.length
 | 0,pix,_,_=>⟨rfl,rfl⟩
 | k+1,pix,hk,hp=>by
  obtain ⟨a,c⟩:=layF_out hx hi k (pix:=pix) (by omega) hp
  rw [List.range_succ,List.foldl_append]
  obtain ⟨d,e⟩:=layP_out (b:=b) (pix:=(List.range k).foldl (layP W x y n b) pix) (j:=k) hx (by omega) (by rw [c];exact hp) hi
  exact ⟨d.trans a,e.trans c⟩
theorem layD_out {f:FrameD} {W x y n i:Nat} {b:List Int} (hW:f.W=(W:Int)) (hx:x+n≤W) (hp:(y+n)*W≤f.pix.length) (hi:¬ (x≤i % W∧i % W<x+n∧y≤i / W∧i / W<y+n)) :
  (layD f x y n b).pix.getD i 0=f.pix.getD i 0∧(layD f x y n b).pix.length=f.pix.length∧(layD f x y n b).W=f.W∧(layD f x y n b).H=f.H:=by
 obtain ⟨a,c⟩:=layF_out (b:=b) hx hi n (Nat.le_refl _) hp
 refine ⟨?_,?_,rfl,rfl⟩
 ·show ((List.range n).foldl (layP f.W x y n b) f.pix).getD i 0=_
  rw [hW]
  exact a
 ·show ((List.range n).foldl (layP f.W x y n b) f.pix).length=_
  rw [hW]
  exact c
theorem small_out {f:FrameD} {W x y i k:Nat} {q:Int} {s:SqD} (hk:k<4) (hW:f.W=(W:Int)) (hx:x+8≤W) (hp:(y+8)*W≤f.pix.length) (hi:¬ (x≤i % W∧i % W<x+8∧y≤i / W∧i / W<y+8)) :
  (smallD x y q s f k).pix.getD i 0=f.pix.getD i 0∧(smallD x y q s f k).pix.length=f.pix.length∧(smallD x y q s f k).W=f.W∧(smallD x y q s f k).H=f.H:=by
 have ex:((x:Int)+((k % 2:Nat):Int)*4)=((x+k % 2*4:Nat):Int):=by omega
 have ey:((y:Int)+((k / 2:Nat):Int)*4)=((y+k / 2*4:Nat):Int):=by omega
 unfold smallD oneD
 rw [ex,ey]
 have hle:(y+k / 2*4+4)*W≤(y+8)*W:=Nat.mul_le_mul_right _ (by omega)
 exact layD_out hW (by omega) (by omega) (by omega)
theorem laySq_out {f p:FrameD} {W x y i:Nat} {q:Int} {s:SqD} (hW:f.W=(W:Int)) (hx:x+8≤W) (hp:(y+8)*W≤f.pix.length) (hi:¬ (x≤i % W∧i % W<x+8∧y≤i / W∧i / W<y+8)) :
  (laySq f p x y q s).pix.getD i 0=f.pix.getD i 0:=by
 unfold laySq
 split
 ·exact (layD_out hW hx hp hi).1
 ·split
  ·exact (layD_out hW hx hp hi).1
  ·split
   ·unfold oneD
    exact (layD_out hW hx hp hi).1
   ·simp only [List.range_succ,List.range_zero,List.foldl_append,List.foldl_cons,List.foldl_nil,List.nil_append]
    obtain ⟨a0,b0,c0,d0⟩:=small_out (q:=q) (s:=s) (k:=0) (by omega) hW hx hp hi
    obtain ⟨a1,b1,c1,d1⟩:=small_out (f:=smallD x y q s f 0) (q:=q) (s:=s) (k:=1) (by omega) (c0.trans hW) hx (by rw [b0];exact hp) hi
    obtain ⟨a2,b2,c2,d2⟩:=small_out (f:=smallD x y q s (smallD x y q s f 0) 1) (q:=q) (s:=s) (k:=2) (by omega) (c1.trans (c0.trans hW)) hx (by rw [b1,b0];exact hp) hi
    obtain ⟨a3,b3,c3,d3⟩:=small_out (f:=smallD x y q s (smallD x y q s (smallD x y q s f 0) 1) 2) (q:=q) (s:=s) (k:=3) (by omega) (c2.trans (c1.trans (c0.trans hW))) hx (by rw [b2,b1,b0];exact hp) hi
    exact a3.trans (a2.trans (a1.trans a0))
end Go.Proofs.YtkigikallkpbcaaGreatDoor
/- Plain laws for DecodeSquares: samples inside of a place are the block's. Conditions: the place lies in the plane. -/
namespace Go.Proofs.YtkigikallkpbcaaGreatDoor
set_option linter.unusedVariables false
theorem rowD_at {pix:List Int} {o:Nat} {row:List Int} {i:Nat} (ho:o+row.length≤pix.length) (h1:o≤i) (h2:i<o+row.length):(rowD pix o row).getD i 0=row.getD (i-o) 0:=by
 unfold rowD
 simp only [List.getD_eq_getElem?_getD]
 have hl:(pix.take o).length=o:=by rw [List.length_take];omega
 rw [List.append_assoc,List.getElem?_append_right (by omega),hl,List.getElem?_append_left (by omega)]
theorem layP_at {W x y n j i:Nat} {b pix:List Int} (hW:0<W) (hx:x+n≤W) (hj:j<n) (hp:(y+n)*W≤pix.length) (hn:((b.drop (j*n)).take n).length=n) (hi:x≤i % W∧i % W<x+n) :
  (layP W x y n b pix j).length=pix.length∧(i / W=y+j→(layP W x y n b pix j).getD i 0=((b.drop (j*n)).take n).getD (i % W-x) 0)∧(i / W≠y+j→(layP W x y n b pix j).getD i 0=pix.getD i 0):=by
 unfold layP
 have ho:(((y:Int)+(j:Int))*(W:Int)+(x:Int)).toNat=(y+j)*W+x:=by
  rw [← Int.natCast_add,← Int.natCast_mul,← Int.natCast_add];exact Int.toNat_natCast _
 rw [ho]
 have e:(y+j+1)*W=(y+j)*W+W:=Nat.succ_mul _ _
 have hb:(y+j)*W+x+n≤pix.length:=by
  have:(y+j+1)*W≤(y+n)*W:=Nat.mul_le_mul_right _ (by omega)
  omega
 generalize (b.drop (j*n)).take n=row at *
 refine ⟨by unfold rowD;simp;omega,fun h=>?_,fun h=>?_⟩
 ·have hmod:=Nat.div_add_mod i W
  rw [h,Nat.mul_comm] at hmod
  rw [rowD_at (by omega) (by omega) (by omega)]
  congr 1
  omega
 ·apply rowD_out (by omega)
  by_cases h1:i<(y+j)*W+x
  ·exact .inl h1
  ·right
   by_cases h2:i<(y+j)*W+x+n
   ·exact absurd (Nat.div_eq_of_lt_le (by omega) (by rw [e];omega)) h
   ·omega
theorem layF_in {W x y n i:Nat} {b:List Int} (hW:0<W) (hx:x+n≤W) (hn:∀ j,j<n→((b.drop (j*n)).take n).length=n) (hi:x≤i % W∧i % W<x+n) (hy:y≤i / W):∀ (k:Nat) {pix:List Int},k≤n→(y+n)*W≤pix.length →
  ((List.range k).foldl (layP W x y n b) pix).length=pix.length∧(i / W<y+k→((List.range k).foldl (layP W x y n b) pix).getD i 0=((b.drop ((i / W-y)*n)).take n).getD (i % W-x) 0)
 | 0,pix,_,_=>⟨rfl,fun h=>by omega⟩
 | k+1,pix,hk,hp=>by
  obtain ⟨a,c⟩:=layF_in hW hx hn hi hy k (pix:=pix) (by omega) hp
  rw [List.range_succ,List.foldl_append]
  obtain ⟨d,e,g⟩:=layP_at (b:=b) (pix:=(List.range k).foldl (layP W x y n b) pix) (j:=k) hW hx (by omega) (by rw [a];exact hp) (hn k (by omega)) hi
  refine ⟨d.trans a,fun h=>?_⟩
  by_cases hr:i / W=y+k
  ·refine (e hr).trans ?_
   rw [hr,Nat.add_sub_cancel_left]
  ·exact (g hr).trans (c (by omega))
end Go.Proofs.YtkigikallkpbcaaGreatDoor
/- Plain law for DecodeSquares: a square as the frame ahead has it is that one's. Conditions: the place lies in both planes. -/
namespace Go.Proofs.YtkigikallkpbcaaGreatDoor
set_option linter.unusedVariables false
theorem chunk_flatMap {α β:Type} (g:α→List β) (k:Nat):∀ (l:List α) (j:Nat) (hj:j<l.length),(∀ x∈l,(g x).length=k)→((l.flatMap g).drop (j*k)).take k=g l[j]
 | a :: l,0,_,h=>by
  rw [Nat.zero_mul,List.drop_zero,List.flatMap_cons]
  exact List.take_left' (h a List.mem_cons_self)
 | a :: l,j+1,hj,h=>by
  have e:(j+1)*k=(g a).length+j*k:=by rw [h a List.mem_cons_self,Nat.succ_mul,Nat.add_comm]
  rw [e,List.flatMap_cons,List.drop_append,List.drop_eq_nil_of_le (by omega),List.nil_append,Nat.add_sub_cancel_left]
  exact chunk_flatMap g k l j (by simpa using hj) (fun x hx=>h x (List.mem_cons_of_mem _ hx))
end Go.Proofs.YtkigikallkpbcaaGreatDoor
