/- block.Order of 4 and of 8. Conditions: none. -/
import Derived.Test.YthcafdfdglfabaaGreatDoorK1
import Derived.Test.YthcafdfdglfabaaGreatDoorC4
namespace Go.Proofs.YthcafdfdglfabaaGreatDoor
open Go.RowKit
set_option linter.unusedVariables false
set_option linter.unusedSimpArgs false
set_option maxRecDepth 100000
set_option maxHeartbeats 16000000
def cJ (l:List Nat):List Int:=l.map fun x:Nat=>(x:Int)
theorem ej {β:Type} (g:Nat->List β) (k:Nat):(List.range (k+1)).flatMap g=(List.range k).flatMap g ++ g k:=by rw [List.range_succ,List.flatMap_append];simp
theorem fq (n s:Nat):∀ j,((List.range j).flatMap (bq n s)).length<=j
 | 0=>by simp
 | j+1=>by
  rw [List.range_succ,List.flatMap_append,Ln];have h:=fq n s j;have h1:(([j]:List Nat).flatMap (bq n s)).length<=1:=by
   simp only [List.flatMap_cons,List.flatMap_nil,LA,bq]
   (repeat' split) <;> first | exact Lm _ | exact Mc _
  omega
theorem ir (n k:Nat):((List.range k).flatMap fun s=>(List.range (s+1)).flatMap (bq n s)).length<=(k+1)*(k+1):=by
 induction k with
 | zero=>simp
 | succ k ih =>
  rw [List.range_succ,List.flatMap_append,Ln];have h:=fq n k (k+1);have e:([k]:List Nat).flatMap (fun s=>(List.range (s+1)).flatMap (bq n s))=(List.range (k+1)).flatMap (bq n k):=Mg;rw [e];have:(k+1+1)*(k+1+1)=(k+1)*(k+1)+2*k+3:=by rw [Nat.add_mul,Nat.mul_add (k+1)];omega
  omega
theorem oq {p:Prop} (h:p:=by
 have PG:=lh (fun (o:Obj)=>(show w.heap.size<=(wr.alloc o).heap.size by simp;omega));clear MX
 go_wp2_with (first
  | (at_builtin;refine aw rfl (.tmp 43) (.tmp 49) _ rfl EI (Wl.quiet (ae.new _ _)) rfl (Oa.out _) rfl Qj (PG.out _) (fun v1 w1 MN Nu=>?_);obtain ⟨x1,OW,OB,_⟩:=MN.ints.open;subst OB;simp only [Ln,List.length_singleton] at MN Nu |-;have Oy:=lh MN;have Od:=lh Nu;clear MN Nu)
  | fail)
 exact ⟨⟨j+1,Mf,Mm,by rw [HPJ.out,MS.out];have:=Oy.out;rw [PJ.out] at this;simpa [cJ] using this,Od.from_ Wk.out (PG.out _),(QL.q (ae.new _ _)).acc Od.out Wk.out⟩,Mk⟩):p:=h
theorem gX {p:Prop} (h:p:=by
 go_wp2_with fail;exact ⟨⟨j+1,Mf,Mm,by rw [HPJ.out,MS.out,LA];exact Wl,Wk.out,QL.out⟩,Mk⟩):p:=h
theorem xW {p:Prop} (h:p:=by
 obtain rfl:j=k+1:=Mf;have hji:¬ ((k+1:Nat):Int)<(k:Int)+1:=Mf;go_wp2_with fail;exact ⟨⟨k+1,Mf,Mm,by rw [HP.out];exact Wl,Wk.out,QL.out⟩,Mk⟩):p:=h
theorem Ab (w:World) :
  Calls Tryz.prog 199 #[.int .i64 4] w fun e w'=>∃ v',e=.returned v'/\Own .i64 3 w.heap.size w' v' (cJ (aC 4))/\ae [] w w':=by
 go_enter Tryz.func199,Tryz.ntmps199;go_wp2_with fail;go_loopw [3,17] (fun y s wr=>∃ k:Nat,k<=7/\s=.int .i64 k/\Own .i64 3 w.heap.size wr y (cJ ((List.range k).flatMap fun s=>(List.range (s+1)).flatMap (bq 4 s)))/\bB w.heap.size y/\ae [] w wr) (fun _ s _=>7-(intOf s).toNat)
 case atStart=>exact ⟨0,Mf,rfl,by simpa [cJ] using Own.nil _ _ _ _,bB.nil _,ae.refl _ _⟩
 case round =>
  obtain ⟨k,hk,rfl,MQ,Nx,hq⟩:=hrel;have Pw:=lh MQ;have Qv:=lh Nx;have HQ:=lh hq;clear MQ Nx hq;by_cases MO:k<7
  ·have Py:(k:Int)<7:=Mf
   have NU:(0:Int)<=(k:Int):=Mf;have HP:=lh (show (List.range (k+1)).flatMap (fun s=>(List.range (s+1)).flatMap (bq 4 s))=(List.range k).flatMap (fun s=>(List.range (s+1)).flatMap (bq 4 s)) ++ (List.range (k+1)).flatMap (bq 4 k) from ej _ k);have OX:=lh (ir 4 k);generalize (List.range k).flatMap (fun s=>(List.range (s+1)).flatMap (bq 4 s))=PRE at *
   go_wp2_with fail;go_loopw [3,22] (fun y i wi=>∃ j:Nat,j<=k+1/\i=.int .i64 j/\Own .i64 3 w.heap.size wi y (cJ (PRE ++ (List.range j).flatMap (bq 4 k)))/\bB w.heap.size y/\ae [] w wi) (fun _ i _=>k+1-(intOf i).toNat)
   case atStart=>exact ⟨0,Mf,rfl,by simpa using Pw.out,Qv.out,HQ.out⟩
   case round =>
    obtain ⟨j,hj,rfl,MQ,Nx,hq⟩:=hrel;have Wl:=lh MQ;have Wk:=lh Nx;have QL:=lh hq;clear MQ Nx hq;by_cases YJ:j<k+1
    ·have hji:(j:Int)<(k:Int)+1:=Mf
     have WB:(0:Int)<=(j:Int):=Mf;have HPJ:=lh (show PRE ++ (List.range (j+1)).flatMap (bq 4 k)=PRE ++ (List.range j).flatMap (bq 4 k) ++ bq 4 k j by rw [List.range_succ,List.flatMap_append,LR];simp);have HLJ:=lh (show (PRE ++ (List.range j).flatMap (bq 4 k)).length<=10000 by have:=fq 4 k j;have:=OX.out;have h16:(k+1)*(k+1)<=16*16:=Nat.mul_le_mul Mf Mf;rw [Ln];omega);generalize PRE ++ (List.range j).flatMap (bq 4 k)=S0 at *
     have hzj:=QL.size;by_cases NG:k % 2=0
     ·have hpi:(k:Int) % 2=0:=Mf
      by_cases hx:j<4
      ·have Vi:(j:Int)<4:=Mf
       by_cases hy:k-j<4
       ·have Vu:(k:Int)-(j:Int)<4:=Mf
        have MS:Hid (bq 4 k j=[(k-j)*4+j]):=lh (by unfold bq;rw [if_pos NG,if_pos NG,if_pos ⟨hx,hy⟩]);have PJ:Hid ((((k:Int)-(j:Int))*4+((k:Int)-((k:Int)-(j:Int))):Int)=((((k-j)*4+j:Nat)):Int)):=lh Mf;have MX:∀ x∈[(((k:Int)-(j:Int))*4+((k:Int)-((k:Int)-(j:Int))):Int)],InK .i64 x:=by simp only [mSg,forall_eq,InK];omega
        have Oa:=lh (fun (W:World)=>bg (k:=.i64) (w:=W) (t:=3) (l:=[(((k:Int)-(j:Int))*4+((k:Int)-((k:Int)-(j:Int))):Int)]) rfl Mo MX 1 rfl rfl);have Qj:=lh (show ((cJ S0).length+[(((k:Int)-(j:Int))*4+((k:Int)-((k:Int)-(j:Int))):Int)].length)*8<=140737488355328 by have:=HLJ.out;simp [cJ];omega);exact oq
       ·have Vu:¬ (k:Int)-(j:Int)<4:=Mf
        have MS:Hid (bq 4 k j=[]):=lh (by unfold bq;rw [if_pos NG,if_pos NG,if_neg Mf]);exact gX
      ·have Vi:¬ (j:Int)<4:=Mf
       have MS:Hid (bq 4 k j=[]):=lh (by unfold bq;rw [if_pos NG,if_pos NG,if_neg Mf]);exact gX
     ·have hpi:¬ (k:Int) % 2=0:=Mf
      by_cases hx:k-j<4
      ·have Vi:(k:Int)-(j:Int)<4:=Mf
       by_cases hy:j<4
       ·have Vu:(j:Int)<4:=Mf
        have MS:Hid (bq 4 k j=[j*4+(k-j)]):=lh (by unfold bq;rw [if_neg NG,if_neg NG,if_pos ⟨hx,hy⟩]);have PJ:Hid (((j:Int)*4+((k:Int)-(j:Int)):Int)=(((j*4+(k-j):Nat)):Int)):=lh Mf;have MX:∀ x∈[((j:Int)*4+((k:Int)-(j:Int)):Int)],InK .i64 x:=by simp only [mSg,forall_eq,InK];omega
        have Oa:=lh (fun (W:World)=>bg (k:=.i64) (w:=W) (t:=3) (l:=[((j:Int)*4+((k:Int)-(j:Int)):Int)]) rfl Mo MX 1 rfl rfl);have Qj:=lh (show ((cJ S0).length+[((j:Int)*4+((k:Int)-(j:Int)):Int)].length)*8<=140737488355328 by have:=HLJ.out;simp [cJ];omega);exact oq
       ·have Vu:¬ (j:Int)<4:=Mf
        have MS:Hid (bq 4 k j=[]):=lh (by unfold bq;rw [if_neg NG,if_neg NG,if_neg Mf]);exact gX
      ·have Vi:¬ (k:Int)-(j:Int)<4:=Mf
       have MS:Hid (bq 4 k j=[]):=lh (by unfold bq;rw [if_neg NG,if_neg NG,if_neg Mf]);exact gX
    ·exact xW
  ·obtain rfl:k=7:=Mf
   have Py:¬ ((7:Nat):Int)<7:=Mf;go_wp2_with fail;go_ret;exact ⟨_,rfl,Pw.out,HQ.out⟩
theorem Ac (w:World) :
  Calls Tryz.prog 199 #[.int .i64 8] w fun e w'=>∃ v',e=.returned v'/\Own .i64 3 w.heap.size w' v' (cJ (aC 8))/\ae [] w w':=by
 go_enter Tryz.func199,Tryz.ntmps199;go_wp2_with fail;go_loopw [3,17] (fun y s wr=>∃ k:Nat,k<=15/\s=.int .i64 k/\Own .i64 3 w.heap.size wr y (cJ ((List.range k).flatMap fun s=>(List.range (s+1)).flatMap (bq 8 s)))/\bB w.heap.size y/\ae [] w wr) (fun _ s _=>15-(intOf s).toNat)
 case atStart=>exact ⟨0,Mf,rfl,by simpa [cJ] using Own.nil _ _ _ _,bB.nil _,ae.refl _ _⟩
 case round =>
  obtain ⟨k,hk,rfl,MQ,Nx,hq⟩:=hrel;have Pw:=lh MQ;have Qv:=lh Nx;have HQ:=lh hq;clear MQ Nx hq;by_cases MO:k<15
  ·have Py:(k:Int)<15:=Mf
   have NU:(0:Int)<=(k:Int):=Mf;have HP:=lh (show (List.range (k+1)).flatMap (fun s=>(List.range (s+1)).flatMap (bq 8 s))=(List.range k).flatMap (fun s=>(List.range (s+1)).flatMap (bq 8 s)) ++ (List.range (k+1)).flatMap (bq 8 k) from ej _ k);have OX:=lh (ir 8 k);generalize (List.range k).flatMap (fun s=>(List.range (s+1)).flatMap (bq 8 s))=PRE at *
   go_wp2_with fail;go_loopw [3,22] (fun y i wi=>∃ j:Nat,j<=k+1/\i=.int .i64 j/\Own .i64 3 w.heap.size wi y (cJ (PRE ++ (List.range j).flatMap (bq 8 k)))/\bB w.heap.size y/\ae [] w wi) (fun _ i _=>k+1-(intOf i).toNat)
   case atStart=>exact ⟨0,Mf,rfl,by simpa using Pw.out,Qv.out,HQ.out⟩
   case round =>
    obtain ⟨j,hj,rfl,MQ,Nx,hq⟩:=hrel;have Wl:=lh MQ;have Wk:=lh Nx;have QL:=lh hq;clear MQ Nx hq;by_cases YJ:j<k+1
    ·have hji:(j:Int)<(k:Int)+1:=Mf
     have WB:(0:Int)<=(j:Int):=Mf;have HPJ:=lh (show PRE ++ (List.range (j+1)).flatMap (bq 8 k)=PRE ++ (List.range j).flatMap (bq 8 k) ++ bq 8 k j by rw [List.range_succ,List.flatMap_append,LR];simp);have HLJ:=lh (show (PRE ++ (List.range j).flatMap (bq 8 k)).length<=10000 by have:=fq 8 k j;have:=OX.out;have h16:(k+1)*(k+1)<=16*16:=Nat.mul_le_mul Mf Mf;rw [Ln];omega);generalize PRE ++ (List.range j).flatMap (bq 8 k)=S0 at *
     have hzj:=QL.size;by_cases NG:k % 2=0
     ·have hpi:(k:Int) % 2=0:=Mf
      by_cases hx:j<8
      ·have Vi:(j:Int)<8:=Mf
       by_cases hy:k-j<8
       ·have Vu:(k:Int)-(j:Int)<8:=Mf
        have MS:Hid (bq 8 k j=[(k-j)*8+j]):=lh (by unfold bq;rw [if_pos NG,if_pos NG,if_pos ⟨hx,hy⟩]);have PJ:Hid ((((k:Int)-(j:Int))*8+((k:Int)-((k:Int)-(j:Int))):Int)=((((k-j)*8+j:Nat)):Int)):=lh Mf;have MX:∀ x∈[(((k:Int)-(j:Int))*8+((k:Int)-((k:Int)-(j:Int))):Int)],InK .i64 x:=by simp only [mSg,forall_eq,InK];omega
        have Oa:=lh (fun (W:World)=>bg (k:=.i64) (w:=W) (t:=3) (l:=[(((k:Int)-(j:Int))*8+((k:Int)-((k:Int)-(j:Int))):Int)]) rfl Mo MX 1 rfl rfl);have Qj:=lh (show ((cJ S0).length+[(((k:Int)-(j:Int))*8+((k:Int)-((k:Int)-(j:Int))):Int)].length)*8<=140737488355328 by have:=HLJ.out;simp [cJ];omega);exact oq
       ·have Vu:¬ (k:Int)-(j:Int)<8:=Mf
        have MS:Hid (bq 8 k j=[]):=lh (by unfold bq;rw [if_pos NG,if_pos NG,if_neg Mf]);exact gX
      ·have Vi:¬ (j:Int)<8:=Mf
       have MS:Hid (bq 8 k j=[]):=lh (by unfold bq;rw [if_pos NG,if_pos NG,if_neg Mf]);exact gX
     ·have hpi:¬ (k:Int) % 2=0:=Mf
      by_cases hx:k-j<8
      ·have Vi:(k:Int)-(j:Int)<8:=Mf
       by_cases hy:j<8
       ·have Vu:(j:Int)<8:=Mf
        have MS:Hid (bq 8 k j=[j*8+(k-j)]):=lh (by unfold bq;rw [if_neg NG,if_neg NG,if_pos ⟨hx,hy⟩]);have PJ:Hid (((j:Int)*8+((k:Int)-(j:Int)):Int)=(((j*8+(k-j):Nat)):Int)):=lh Mf;have MX:∀ x∈[((j:Int)*8+((k:Int)-(j:Int)):Int)],InK .i64 x:=by simp only [mSg,forall_eq,InK];omega
        have Oa:=lh (fun (W:World)=>bg (k:=.i64) (w:=W) (t:=3) (l:=[((j:Int)*8+((k:Int)-(j:Int)):Int)]) rfl Mo MX 1 rfl rfl);have Qj:=lh (show ((cJ S0).length+[((j:Int)*8+((k:Int)-(j:Int)):Int)].length)*8<=140737488355328 by have:=HLJ.out;simp [cJ];omega);exact oq
       ·have Vu:¬ (j:Int)<8:=Mf
        have MS:Hid (bq 8 k j=[]):=lh (by unfold bq;rw [if_neg NG,if_neg NG,if_neg Mf]);exact gX
      ·have Vi:¬ (k:Int)-(j:Int)<8:=Mf
       have MS:Hid (bq 8 k j=[]):=lh (by unfold bq;rw [if_neg NG,if_neg NG,if_neg Mf]);exact gX
    ·exact xW
  ·obtain rfl:k=15:=Mf
   have Py:¬ ((15:Nat):Int)<15:=Mf;go_wp2_with fail;go_ret;exact ⟨_,rfl,Pw.out,HQ.out⟩
end Go.Proofs.YthcafdfdglfabaaGreatDoor
