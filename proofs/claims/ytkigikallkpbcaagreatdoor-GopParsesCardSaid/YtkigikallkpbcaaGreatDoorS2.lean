/- Joined texts: DOrder, DCoefA. Conditions: each part names its own. -/
import Derived.Test.YtkigikallkpbcaaGreatDoorK1
import Derived.Test.YtkigikallkpbcaaGreatDoorC4
import Derived.Test.YtkigikallkpbcaaGreatDoorG0
import Derived.Test.YtkigikallkpbcaaGreatDoorS1
import Derived.Test.YtkigikallkpbcaaGreatDoorK2
namespace Go.Proofs.YtkigikallkpbcaaGreatDoor
open Go.RowKit
set_option linter.unusedVariables false
set_option linter.unusedSimpArgs false
set_option maxRecDepth 100000
set_option maxHeartbeats 16000000
def natI (l:List Nat):List Int:=l.map fun x:Nat=>(x:Int)
theorem flatMap_range_succ {β:Type} (g:Nat→List β) (k:Nat):(List.range (k+1)).flatMap g=(List.range k).flatMap g ++ g k:=by rw [List.range_succ,List.flatMap_append];simp
theorem orderRow_len (n s:Nat):∀ j,((List.range j).flatMap (rowO n s)).length≤j
 | 0=>by simp
 | j+1=>by
  rw [List.range_succ,List.flatMap_append,List.length_append]
  have h:=orderRow_len n s j
  have h1:(([j]:List Nat).flatMap (rowO n s)).length≤1:=by
   simp only [List.flatMap_cons,List.flatMap_nil,List.append_nil,rowO]
   (repeat' split) <;> first | exact Nat.le_refl _ | exact Nat.zero_le _
  omega
theorem orderPre_len (n k:Nat):((List.range k).flatMap fun s=>(List.range (s+1)).flatMap (rowO n s)).length≤(k+1)*(k+1):=by
 induction k with
 | zero=>simp
 | succ k ih =>
  rw [List.range_succ,List.flatMap_append,List.length_append]
  have h:=orderRow_len n k (k+1)
  have e:([k]:List Nat).flatMap (fun s=>(List.range (s+1)).flatMap (rowO n s))=(List.range (k+1)).flatMap (rowO n k):=by simp
  rw [e]
  have:(k+1+1)*(k+1+1)=(k+1)*(k+1)+2*k+3:=by rw [Nat.add_mul,Nat.mul_add (k+1)];omega
  omega
theorem qDOrder0 {p:Prop} (h:p:=by
 have hba:=lh (fun (o:Obj)=>(show w.heap.size≤(wr.alloc o).heap.size by simp;omega))
 clear hin
 go_wp2_with (first
  | (at_builtin;refine wpList_append_ints rfl (.tmp 43) (.tmp 49) _ rfl EI (HOI.out.quiet (Only.new _ _)) rfl (hsrc.out _) rfl hby.out (hba.out _) (fun v1 w1 hown1 ho1=>?_);obtain ⟨x1,x1cap,hx1,_⟩:=hown1.ints.open;subst hx1;simp only [List.length_append,List.length_singleton] at hown1 ho1 ⊢;have HO1:=lh hown1;have HA1:=lh ho1;clear hown1 ho1)
  | fail)
 exact ⟨⟨j+1,by omega,by go_num,by rw [HPJ.out,hrow.out];have:=HO1.out;rw [hval.out] at this;simpa [natI] using this,HA1.out.from_ HFI.out (hba.out _),(HQI.out.q (Only.new _ _)).acc HA1.out HFI.out⟩,by simp [intOf];omega⟩):p:=h
theorem qDOrder1 {p:Prop} (h:p:=by
 go_wp2_with fail
 exact ⟨⟨j+1,by omega,by go_num,by rw [HPJ.out,hrow.out,List.append_nil];exact HOI.out,HFI.out,HQI.out⟩,by simp [intOf];omega⟩):p:=h
theorem qDOrder2 {p:Prop} (h:p:=by
 obtain rfl:j=k+1:=by omega
 have hji:¬ ((k+1:Nat):Int)<(k:Int)+1:=by omega
 go_wp2_with fail
 exact ⟨⟨k+1,by omega,by go_num,by rw [HP.out];exact HOI.out,HFI.out,HQI.out⟩,by simp [intOf];omega⟩):p:=h
theorem order4_any (w:World) :
  Calls Tryz.prog 165 #[.int .i64 4] w fun e w'=>∃ v',e=.returned v'∧Own .i64 3 w.heap.size w' v' (natI (orderD 4))∧Only [] w w':=by
 go_enter Tryz.func165,Tryz.ntmps165
 go_wp2_with fail
 go_loopw [3,17] (fun y s wr=>∃ k:Nat,k≤7∧s=.int .i64 k∧Own .i64 3 w.heap.size wr y (natI ((List.range k).flatMap fun s=>(List.range (s+1)).flatMap (rowO 4 s)))∧From w.heap.size y∧Only [] w wr) (fun _ s _=>7-(intOf s).toNat)
 case atStart=>exact ⟨0,by omega,rfl,by simpa [natI] using Own.nil _ _ _ _,From.nil _,Only.refl _ _⟩
 case round =>
  obtain ⟨k,hk,rfl,hown,hfrom,hq⟩:=hrel
  have HOwn:=lh hown
  have HFrom:=lh hfrom
  have HQ:=lh hq
  clear hown hfrom hq
  by_cases hlt:k<7
  ·have hlti:(k:Int)<7:=by omega
   have hk0:(0:Int)≤(k:Int):=by omega
   have HP:=lh (show (List.range (k+1)).flatMap (fun s=>(List.range (s+1)).flatMap (rowO 4 s))=(List.range k).flatMap (fun s=>(List.range (s+1)).flatMap (rowO 4 s)) ++ (List.range (k+1)).flatMap (rowO 4 k) from flatMap_range_succ _ k)
   have HLen:=lh (orderPre_len 4 k)
   generalize (List.range k).flatMap (fun s=>(List.range (s+1)).flatMap (rowO 4 s))=PRE at *
   go_wp2_with fail
   go_loopw [3,22] (fun y i wi=>∃ j:Nat,j≤k+1∧i=.int .i64 j∧Own .i64 3 w.heap.size wi y (natI (PRE ++ (List.range j).flatMap (rowO 4 k)))∧From w.heap.size y∧Only [] w wi) (fun _ i _=>k+1-(intOf i).toNat)
   case atStart=>exact ⟨0,by omega,rfl,by simpa using HOwn.out,HFrom.out,HQ.out⟩
   case round =>
    obtain ⟨j,hj,rfl,hown,hfrom,hq⟩:=hrel
    have HOI:=lh hown
    have HFI:=lh hfrom
    have HQI:=lh hq
    clear hown hfrom hq
    by_cases hjl:j<k+1
    ·have hji:(j:Int)<(k:Int)+1:=by omega
     have hj0:(0:Int)≤(j:Int):=by omega
     have HPJ:=lh (show PRE ++ (List.range (j+1)).flatMap (rowO 4 k)=PRE ++ (List.range j).flatMap (rowO 4 k) ++ rowO 4 k j by rw [List.range_succ,List.flatMap_append,List.append_assoc];simp)
     have HLJ:=lh (show (PRE ++ (List.range j).flatMap (rowO 4 k)).length≤10000 by have:=orderRow_len 4 k j;have:=HLen.out;have h16:(k+1)*(k+1)≤16*16:=Nat.mul_le_mul (by omega) (by omega);rw [List.length_append];omega)
     generalize PRE ++ (List.range j).flatMap (rowO 4 k)=S0 at *
     have hzj:=HQI.out.size
     by_cases hpar:k % 2=0
     ·have hpi:(k:Int) % 2=0:=by omega
      by_cases hx:j<4
      ·have hxi:(j:Int)<4:=by omega
       by_cases hy:k-j<4
       ·have hyi:(k:Int)-(j:Int)<4:=by omega
        have hrow:Hid (rowO 4 k j=[(k-j)*4+j]):=lh (by unfold rowO;rw [if_pos hpar,if_pos hpar,if_pos ⟨hx,hy⟩])
        have hval:Hid ((((k:Int)-(j:Int))*4+((k:Int)-((k:Int)-(j:Int))):Int)=((((k-j)*4+j:Nat)):Int)):=lh (by omega)
        have hin:∀ x∈[(((k:Int)-(j:Int))*4+((k:Int)-((k:Int)-(j:Int))):Int)],InK .i64 x:=by simp only [mSg,forall_eq,InK];omega
        have hsrc:=lh (fun (W:World)=>ints_newG (k:=.i64) (w:=W) (t:=3) (l:=[(((k:Int)-(j:Int))*4+((k:Int)-((k:Int)-(j:Int))):Int)]) rfl (by simp [maxLen]) hin 1 rfl rfl)
        have hby:=lh (show ((natI S0).length+[(((k:Int)-(j:Int))*4+((k:Int)-((k:Int)-(j:Int))):Int)].length)*8≤140737488355328 by have:=HLJ.out;simp [natI];omega)
        exact qDOrder0
       ·have hyi:¬ (k:Int)-(j:Int)<4:=by omega
        have hrow:Hid (rowO 4 k j=[]):=lh (by unfold rowO;rw [if_pos hpar,if_pos hpar,if_neg (by omega)])
        exact qDOrder1
      ·have hxi:¬ (j:Int)<4:=by omega
       have hrow:Hid (rowO 4 k j=[]):=lh (by unfold rowO;rw [if_pos hpar,if_pos hpar,if_neg (by omega)])
       exact qDOrder1
     ·have hpi:¬ (k:Int) % 2=0:=by omega
      by_cases hx:k-j<4
      ·have hxi:(k:Int)-(j:Int)<4:=by omega
       by_cases hy:j<4
       ·have hyi:(j:Int)<4:=by omega
        have hrow:Hid (rowO 4 k j=[j*4+(k-j)]):=lh (by unfold rowO;rw [if_neg hpar,if_neg hpar,if_pos ⟨hx,hy⟩])
        have hval:Hid (((j:Int)*4+((k:Int)-(j:Int)):Int)=(((j*4+(k-j):Nat)):Int)):=lh (by omega)
        have hin:∀ x∈[((j:Int)*4+((k:Int)-(j:Int)):Int)],InK .i64 x:=by simp only [mSg,forall_eq,InK];omega
        have hsrc:=lh (fun (W:World)=>ints_newG (k:=.i64) (w:=W) (t:=3) (l:=[((j:Int)*4+((k:Int)-(j:Int)):Int)]) rfl (by simp [maxLen]) hin 1 rfl rfl)
        have hby:=lh (show ((natI S0).length+[((j:Int)*4+((k:Int)-(j:Int)):Int)].length)*8≤140737488355328 by have:=HLJ.out;simp [natI];omega)
        exact qDOrder0
       ·have hyi:¬ (j:Int)<4:=by omega
        have hrow:Hid (rowO 4 k j=[]):=lh (by unfold rowO;rw [if_neg hpar,if_neg hpar,if_neg (by omega)])
        exact qDOrder1
      ·have hxi:¬ (k:Int)-(j:Int)<4:=by omega
       have hrow:Hid (rowO 4 k j=[]):=lh (by unfold rowO;rw [if_neg hpar,if_neg hpar,if_neg (by omega)])
       exact qDOrder1
    ·exact qDOrder2
  ·obtain rfl:k=7:=by omega
   have hlti:¬ ((7:Nat):Int)<7:=by omega
   go_wp2_with fail
   go_ret
   exact ⟨_,rfl,HOwn.out,HQ.out⟩
theorem order8_any (w:World) :
  Calls Tryz.prog 165 #[.int .i64 8] w fun e w'=>∃ v',e=.returned v'∧Own .i64 3 w.heap.size w' v' (natI (orderD 8))∧Only [] w w':=by
 go_enter Tryz.func165,Tryz.ntmps165
 go_wp2_with fail
 go_loopw [3,17] (fun y s wr=>∃ k:Nat,k≤15∧s=.int .i64 k∧Own .i64 3 w.heap.size wr y (natI ((List.range k).flatMap fun s=>(List.range (s+1)).flatMap (rowO 8 s)))∧From w.heap.size y∧Only [] w wr) (fun _ s _=>15-(intOf s).toNat)
 case atStart=>exact ⟨0,by omega,rfl,by simpa [natI] using Own.nil _ _ _ _,From.nil _,Only.refl _ _⟩
 case round =>
  obtain ⟨k,hk,rfl,hown,hfrom,hq⟩:=hrel
  have HOwn:=lh hown
  have HFrom:=lh hfrom
  have HQ:=lh hq
  clear hown hfrom hq
  by_cases hlt:k<15
  ·have hlti:(k:Int)<15:=by omega
   have hk0:(0:Int)≤(k:Int):=by omega
   have HP:=lh (show (List.range (k+1)).flatMap (fun s=>(List.range (s+1)).flatMap (rowO 8 s))=(List.range k).flatMap (fun s=>(List.range (s+1)).flatMap (rowO 8 s)) ++ (List.range (k+1)).flatMap (rowO 8 k) from flatMap_range_succ _ k)
   have HLen:=lh (orderPre_len 8 k)
   generalize (List.range k).flatMap (fun s=>(List.range (s+1)).flatMap (rowO 8 s))=PRE at *
   go_wp2_with fail
   go_loopw [3,22] (fun y i wi=>∃ j:Nat,j≤k+1∧i=.int .i64 j∧Own .i64 3 w.heap.size wi y (natI (PRE ++ (List.range j).flatMap (rowO 8 k)))∧From w.heap.size y∧Only [] w wi) (fun _ i _=>k+1-(intOf i).toNat)
   case atStart=>exact ⟨0,by omega,rfl,by simpa using HOwn.out,HFrom.out,HQ.out⟩
   case round =>
    obtain ⟨j,hj,rfl,hown,hfrom,hq⟩:=hrel
    have HOI:=lh hown
    have HFI:=lh hfrom
    have HQI:=lh hq
    clear hown hfrom hq
    by_cases hjl:j<k+1
    ·have hji:(j:Int)<(k:Int)+1:=by omega
     have hj0:(0:Int)≤(j:Int):=by omega
     have HPJ:=lh (show PRE ++ (List.range (j+1)).flatMap (rowO 8 k)=PRE ++ (List.range j).flatMap (rowO 8 k) ++ rowO 8 k j by rw [List.range_succ,List.flatMap_append,List.append_assoc];simp)
     have HLJ:=lh (show (PRE ++ (List.range j).flatMap (rowO 8 k)).length≤10000 by have:=orderRow_len 8 k j;have:=HLen.out;have h16:(k+1)*(k+1)≤16*16:=Nat.mul_le_mul (by omega) (by omega);rw [List.length_append];omega)
     generalize PRE ++ (List.range j).flatMap (rowO 8 k)=S0 at *
     have hzj:=HQI.out.size
     by_cases hpar:k % 2=0
     ·have hpi:(k:Int) % 2=0:=by omega
      by_cases hx:j<8
      ·have hxi:(j:Int)<8:=by omega
       by_cases hy:k-j<8
       ·have hyi:(k:Int)-(j:Int)<8:=by omega
        have hrow:Hid (rowO 8 k j=[(k-j)*8+j]):=lh (by unfold rowO;rw [if_pos hpar,if_pos hpar,if_pos ⟨hx,hy⟩])
        have hval:Hid ((((k:Int)-(j:Int))*8+((k:Int)-((k:Int)-(j:Int))):Int)=((((k-j)*8+j:Nat)):Int)):=lh (by omega)
        have hin:∀ x∈[(((k:Int)-(j:Int))*8+((k:Int)-((k:Int)-(j:Int))):Int)],InK .i64 x:=by simp only [mSg,forall_eq,InK];omega
        have hsrc:=lh (fun (W:World)=>ints_newG (k:=.i64) (w:=W) (t:=3) (l:=[(((k:Int)-(j:Int))*8+((k:Int)-((k:Int)-(j:Int))):Int)]) rfl (by simp [maxLen]) hin 1 rfl rfl)
        have hby:=lh (show ((natI S0).length+[(((k:Int)-(j:Int))*8+((k:Int)-((k:Int)-(j:Int))):Int)].length)*8≤140737488355328 by have:=HLJ.out;simp [natI];omega)
        exact qDOrder0
       ·have hyi:¬ (k:Int)-(j:Int)<8:=by omega
        have hrow:Hid (rowO 8 k j=[]):=lh (by unfold rowO;rw [if_pos hpar,if_pos hpar,if_neg (by omega)])
        exact qDOrder1
      ·have hxi:¬ (j:Int)<8:=by omega
       have hrow:Hid (rowO 8 k j=[]):=lh (by unfold rowO;rw [if_pos hpar,if_pos hpar,if_neg (by omega)])
       exact qDOrder1
     ·have hpi:¬ (k:Int) % 2=0:=by omega
      by_cases hx:k-j<8
      ·have hxi:(k:Int)-(j:Int)<8:=by omega
       by_cases hy:j<8
       ·have hyi:(j:Int)<8:=by omega
        have hrow:Hid (rowO 8 k j=[j*8+(k-j)]):=lh (by unfold rowO;rw [if_neg hpar,if_neg hpar,if_pos ⟨hx,hy⟩])
        have hval:Hid (((j:Int)*8+((k:Int)-(j:Int)):Int)=(((j*8+(k-j):Nat)):Int)):=lh (by omega)
        have hin:∀ x∈[((j:Int)*8+((k:Int)-(j:Int)):Int)],InK .i64 x:=by simp only [mSg,forall_eq,InK];omega
        have hsrc:=lh (fun (W:World)=>ints_newG (k:=.i64) (w:=W) (t:=3) (l:=[((j:Int)*8+((k:Int)-(j:Int)):Int)]) rfl (by simp [maxLen]) hin 1 rfl rfl)
        have hby:=lh (show ((natI S0).length+[((j:Int)*8+((k:Int)-(j:Int)):Int)].length)*8≤140737488355328 by have:=HLJ.out;simp [natI];omega)
        exact qDOrder0
       ·have hyi:¬ (j:Int)<8:=by omega
        have hrow:Hid (rowO 8 k j=[]):=lh (by unfold rowO;rw [if_neg hpar,if_neg hpar,if_neg (by omega)])
        exact qDOrder1
      ·have hxi:¬ (k:Int)-(j:Int)<8:=by omega
       have hrow:Hid (rowO 8 k j=[]):=lh (by unfold rowO;rw [if_neg hpar,if_neg hpar,if_neg (by omega)])
       exact qDOrder1
    ·exact qDOrder2
  ·obtain rfl:k=15:=by omega
   have hlti:¬ ((15:Nat):Int)<15:=by omega
   go_wp2_with fail
   go_ret
   exact ⟨_,rfl,HOwn.out,HQ.out⟩
theorem base_any4 (w:World):Calls Tryz.prog 164 #[.int .i64 4] w fun e w'=>e=.returned (.int .i64 14)∧w=w':=by
 go_enter Tryz.func164,Tryz.ntmps164
 go_wp2
 go_ret
 exact ⟨rfl,rfl⟩
theorem base_any8 (w:World):Calls Tryz.prog 164 #[.int .i64 8] w fun e w'=>e=.returned (.int .i64 39)∧w=w':=by
 go_enter Tryz.func164,Tryz.ntmps164
 go_wp2
 go_ret
 exact ⟨rfl,rfl⟩
section
variable {base last a i:Nat} {rest:List Nat} {out:List Int} {m:Mod}
end
end Go.Proofs.YtkigikallkpbcaaGreatDoor
