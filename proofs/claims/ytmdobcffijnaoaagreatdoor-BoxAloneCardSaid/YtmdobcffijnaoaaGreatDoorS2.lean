/- Joined texts: DGreat, DOrder, DCoefA, DPart. Conditions: each part names its own. -/
import Derived.Test.YtmdobcffijnaoaaGreatDoorT1
import Derived.Test.YtmdobcffijnaoaaGreatDoorS1
import Derived.Test.YtmdobcffijnaoaaGreatDoorK1
import Derived.Test.YtmdobcffijnaoaaGreatDoorC4
import Derived.Test.YtmdobcffijnaoaaGreatDoorG0
import Derived.Test.YtmdobcffijnaoaaGreatDoorK2
namespace Go.Proofs.YtmdobcffijnaoaaGreatDoor
open Go.RowKit
set_option linter.unusedVariables false
set_option linter.unusedSimpArgs false
set_option maxRecDepth 100000
set_option maxHeartbeats 16000000
theorem nFlat (R:Nat) (w:World):(nilAhead 444 130 (.pointer (some ⟨R,0,none⟩)) "Flat").run Tryz.prog w=.ok (some false) w:=by kernel_rfl
theorem nBit (R:Nat) (w:World):(nilAhead 444 130 (.pointer (some ⟨R,0,none⟩)) "Bit").run Tryz.prog w=.ok (some false) w:=by kernel_rfl
def natI (l:List Nat):List Int:=l.map fun x:Nat=>(x:Int)
theorem flatMap_range_succ {β:Type} (g:Nat→List β) (k:Nat):(List.range (k+1)).flatMap g=(List.range k).flatMap g ++ g k:=by rw [List.range_succ,List.flatMap_append];simp
theorem orderRow_len (n s:Nat):∀ j,((List.range j).flatMap (rowO n s)).length≤j
 | 0=>by simp
 | j+1=>by
  rw [List.range_succ,List.flatMap_append,List.length_append]
  have h:=orderRow_len n s j
  have h1:(([j]:List Nat).flatMap (rowO n s)).length≤1:=by
   simp only [List.flatMap_cons,List.flatMap_nil,List.append_nil,rowO]
   (repeat' split) <;> first | exact Nat.le_refl _ | exact Nat.zero_le _
  omega
theorem orderPre_len (n k:Nat):((List.range k).flatMap fun s=>(List.range (s+1)).flatMap (rowO n s)).length≤(k+1)*(k+1):=by
 induction k with
 | zero=>simp
 | succ k ih =>
  rw [List.range_succ,List.flatMap_append,List.length_append]
  have h:=orderRow_len n k (k+1)
  have e:([k]:List Nat).flatMap (fun s=>(List.range (s+1)).flatMap (rowO n s))=(List.range (k+1)).flatMap (rowO n k):=by simp
  rw [e]
  have:(k+1+1)*(k+1+1)=(k+1)*(k+1)+2*k+3:=by rw [Nat.add_mul,Nat.mul_add (k+1)];omega
  omega
theorem qDOrder0 {p:Prop} (h:p:=by
 have hba:=lh (fun (o:Obj)=>(show w.heap.size≤(wr.alloc o).heap.size by simp;omega))
 clear hin
 go_wp2_with (first
  | (at_builtin;refine wpList_append_ints rfl (.tmp 43) (.tmp 49) _ rfl EI (HOI.out.quiet (Only.new _ _)) rfl (hsrc.out _) rfl hby.out (hba.out _) (fun v1 w1 hown1 ho1=>?_);obtain ⟨x1,x1cap,hx1,_⟩:=hown1.ints.open;subst hx1;simp only [List.length_append,List.length_singleton] at hown1 ho1 ⊢;have HO1:=lh hown1;have HA1:=lh ho1;clear hown1 ho1)
  | fail)
 exact ⟨⟨j+1,by omega,by go_num,by rw [HPJ.out,hrow.out];have:=HO1.out;rw [hval.out] at this;simpa [natI] using this,HA1.out.from_ HFI.out (hba.out _),(HQI.out.q (Only.new _ _)).acc HA1.out HFI.out⟩,by simp [intOf];omega⟩):p:=h
theorem qDOrder1 {p:Prop} (h:p:=by
 go_wp2_with fail
 exact ⟨⟨j+1,by omega,by go_num,by rw [HPJ.out,hrow.out,List.append_nil];exact HOI.out,HFI.out,HQI.out⟩,by simp [intOf];omega⟩):p:=h
theorem qDOrder2 {p:Prop} (h:p:=by
 obtain rfl:j=k+1:=by omega
 have hji:¬ ((k+1:Nat):Int)<(k:Int)+1:=by omega
 go_wp2_with fail
 exact ⟨⟨k+1,by omega,by go_num,by rw [HP.out];exact HOI.out,HFI.out,HQI.out⟩,by simp [intOf];omega⟩):p:=h
theorem order4_any (w:World) :
  Calls Tryz.prog 180 #[.int .i64 4] w fun e w'=>∃ v',e=.returned v'∧Own .i64 3 w.heap.size w' v' (natI (orderD 4))∧Only [] w w':=by
 go_enter Tryz.func180,Tryz.ntmps180
 go_wp2_with fail
 go_loopw [3,17] (fun y s wr=>∃ k:Nat,k≤7∧s=.int .i64 k∧Own .i64 3 w.heap.size wr y (natI ((List.range k).flatMap fun s=>(List.range (s+1)).flatMap (rowO 4 s)))∧From w.heap.size y∧Only [] w wr) (fun _ s _=>7-(intOf s).toNat)
 case atStart=>exact ⟨0,by omega,rfl,by simpa [natI] using Own.nil _ _ _ _,From.nil _,Only.refl _ _⟩
 case round =>
  obtain ⟨k,hk,rfl,hown,hfrom,hq⟩:=hrel
  have HOwn:=lh hown
  have HFrom:=lh hfrom
  have HQ:=lh hq
  clear hown hfrom hq
  by_cases hlt:k<7
  ·have hlti:(k:Int)<7:=by omega
   have hk0:(0:Int)≤(k:Int):=by omega
   have HP:=lh (show (List.range (k+1)).flatMap (fun s=>(List.range (s+1)).flatMap (rowO 4 s))=(List.range k).flatMap (fun s=>(List.range (s+1)).flatMap (rowO 4 s)) ++ (List.range (k+1)).flatMap (rowO 4 k) from flatMap_range_succ _ k)
   have HLen:=lh (orderPre_len 4 k)
   generalize (List.range k).flatMap (fun s=>(List.range (s+1)).flatMap (rowO 4 s))=PRE at *
   go_wp2_with fail
   go_loopw [3,22] (fun y i wi=>∃ j:Nat,j≤k+1∧i=.int .i64 j∧Own .i64 3 w.heap.size wi y (natI (PRE ++ (List.range j).flatMap (rowO 4 k)))∧From w.heap.size y∧Only [] w wi) (fun _ i _=>k+1-(intOf i).toNat)
   case atStart=>exact ⟨0,by omega,rfl,by simpa using HOwn.out,HFrom.out,HQ.out⟩
   case round =>
    obtain ⟨j,hj,rfl,hown,hfrom,hq⟩:=hrel
    have HOI:=lh hown
    have HFI:=lh hfrom
    have HQI:=lh hq
    clear hown hfrom hq
    by_cases hjl:j<k+1
    ·have hji:(j:Int)<(k:Int)+1:=by omega
     have hj0:(0:Int)≤(j:Int):=by omega
     have HPJ:=lh (show PRE ++ (List.range (j+1)).flatMap (rowO 4 k)=PRE ++ (List.range j).flatMap (rowO 4 k) ++ rowO 4 k j by rw [List.range_succ,List.flatMap_append,List.append_assoc];simp)
     have HLJ:=lh (show (PRE ++ (List.range j).flatMap (rowO 4 k)).length≤10000 by have:=orderRow_len 4 k j;have:=HLen.out;have h16:(k+1)*(k+1)≤16*16:=Nat.mul_le_mul (by omega) (by omega);rw [List.length_append];omega)
     generalize PRE ++ (List.range j).flatMap (rowO 4 k)=S0 at *
     have hzj:=HQI.out.size
     by_cases hpar:k % 2=0
     ·have hpi:(k:Int) % 2=0:=by omega
      by_cases hx:j<4
      ·have hxi:(j:Int)<4:=by omega
       by_cases hy:k-j<4
       ·have hyi:(k:Int)-(j:Int)<4:=by omega
        have hrow:Hid (rowO 4 k j=[(k-j)*4+j]):=lh (by unfold rowO;rw [if_pos hpar,if_pos hpar,if_pos ⟨hx,hy⟩])
        have hval:Hid ((((k:Int)-(j:Int))*4+((k:Int)-((k:Int)-(j:Int))):Int)=((((k-j)*4+j:Nat)):Int)):=lh (by omega)
        have hin:∀ x∈[(((k:Int)-(j:Int))*4+((k:Int)-((k:Int)-(j:Int))):Int)],InK .i64 x:=by simp only [mSg,forall_eq,InK];omega
        have hsrc:=lh (fun (W:World)=>ints_newG (k:=.i64) (w:=W) (t:=3) (l:=[(((k:Int)-(j:Int))*4+((k:Int)-((k:Int)-(j:Int))):Int)]) rfl (by simp [maxLen]) hin 1 rfl rfl)
        have hby:=lh (show ((natI S0).length+[(((k:Int)-(j:Int))*4+((k:Int)-((k:Int)-(j:Int))):Int)].length)*8≤140737488355328 by have:=HLJ.out;simp [natI];omega)
        exact qDOrder0
       ·have hyi:¬ (k:Int)-(j:Int)<4:=by omega
        have hrow:Hid (rowO 4 k j=[]):=lh (by unfold rowO;rw [if_pos hpar,if_pos hpar,if_neg (by omega)])
        exact qDOrder1
      ·have hxi:¬ (j:Int)<4:=by omega
       have hrow:Hid (rowO 4 k j=[]):=lh (by unfold rowO;rw [if_pos hpar,if_pos hpar,if_neg (by omega)])
       exact qDOrder1
     ·have hpi:¬ (k:Int) % 2=0:=by omega
      by_cases hx:k-j<4
      ·have hxi:(k:Int)-(j:Int)<4:=by omega
       by_cases hy:j<4
       ·have hyi:(j:Int)<4:=by omega
        have hrow:Hid (rowO 4 k j=[j*4+(k-j)]):=lh (by unfold rowO;rw [if_neg hpar,if_neg hpar,if_pos ⟨hx,hy⟩])
        have hval:Hid (((j:Int)*4+((k:Int)-(j:Int)):Int)=(((j*4+(k-j):Nat)):Int)):=lh (by omega)
        have hin:∀ x∈[((j:Int)*4+((k:Int)-(j:Int)):Int)],InK .i64 x:=by simp only [mSg,forall_eq,InK];omega
        have hsrc:=lh (fun (W:World)=>ints_newG (k:=.i64) (w:=W) (t:=3) (l:=[((j:Int)*4+((k:Int)-(j:Int)):Int)]) rfl (by simp [maxLen]) hin 1 rfl rfl)
        have hby:=lh (show ((natI S0).length+[((j:Int)*4+((k:Int)-(j:Int)):Int)].length)*8≤140737488355328 by have:=HLJ.out;simp [natI];omega)
        exact qDOrder0
       ·have hyi:¬ (j:Int)<4:=by omega
        have hrow:Hid (rowO 4 k j=[]):=lh (by unfold rowO;rw [if_neg hpar,if_neg hpar,if_neg (by omega)])
        exact qDOrder1
      ·have hxi:¬ (k:Int)-(j:Int)<4:=by omega
       have hrow:Hid (rowO 4 k j=[]):=lh (by unfold rowO;rw [if_neg hpar,if_neg hpar,if_neg (by omega)])
       exact qDOrder1
    ·exact qDOrder2
  ·obtain rfl:k=7:=by omega
   have hlti:¬ ((7:Nat):Int)<7:=by omega
   go_wp2_with fail
   go_ret
   exact ⟨_,rfl,HOwn.out,HQ.out⟩
theorem order8_any (w:World) :
  Calls Tryz.prog 180 #[.int .i64 8] w fun e w'=>∃ v',e=.returned v'∧Own .i64 3 w.heap.size w' v' (natI (orderD 8))∧Only [] w w':=by
 go_enter Tryz.func180,Tryz.ntmps180
 go_wp2_with fail
 go_loopw [3,17] (fun y s wr=>∃ k:Nat,k≤15∧s=.int .i64 k∧Own .i64 3 w.heap.size wr y (natI ((List.range k).flatMap fun s=>(List.range (s+1)).flatMap (rowO 8 s)))∧From w.heap.size y∧Only [] w wr) (fun _ s _=>15-(intOf s).toNat)
 case atStart=>exact ⟨0,by omega,rfl,by simpa [natI] using Own.nil _ _ _ _,From.nil _,Only.refl _ _⟩
 case round =>
  obtain ⟨k,hk,rfl,hown,hfrom,hq⟩:=hrel
  have HOwn:=lh hown
  have HFrom:=lh hfrom
  have HQ:=lh hq
  clear hown hfrom hq
  by_cases hlt:k<15
  ·have hlti:(k:Int)<15:=by omega
   have hk0:(0:Int)≤(k:Int):=by omega
   have HP:=lh (show (List.range (k+1)).flatMap (fun s=>(List.range (s+1)).flatMap (rowO 8 s))=(List.range k).flatMap (fun s=>(List.range (s+1)).flatMap (rowO 8 s)) ++ (List.range (k+1)).flatMap (rowO 8 k) from flatMap_range_succ _ k)
   have HLen:=lh (orderPre_len 8 k)
   generalize (List.range k).flatMap (fun s=>(List.range (s+1)).flatMap (rowO 8 s))=PRE at *
   go_wp2_with fail
   go_loopw [3,22] (fun y i wi=>∃ j:Nat,j≤k+1∧i=.int .i64 j∧Own .i64 3 w.heap.size wi y (natI (PRE ++ (List.range j).flatMap (rowO 8 k)))∧From w.heap.size y∧Only [] w wi) (fun _ i _=>k+1-(intOf i).toNat)
   case atStart=>exact ⟨0,by omega,rfl,by simpa using HOwn.out,HFrom.out,HQ.out⟩
   case round =>
    obtain ⟨j,hj,rfl,hown,hfrom,hq⟩:=hrel
    have HOI:=lh hown
    have HFI:=lh hfrom
    have HQI:=lh hq
    clear hown hfrom hq
    by_cases hjl:j<k+1
    ·have hji:(j:Int)<(k:Int)+1:=by omega
     have hj0:(0:Int)≤(j:Int):=by omega
     have HPJ:=lh (show PRE ++ (List.range (j+1)).flatMap (rowO 8 k)=PRE ++ (List.range j).flatMap (rowO 8 k) ++ rowO 8 k j by rw [List.range_succ,List.flatMap_append,List.append_assoc];simp)
     have HLJ:=lh (show (PRE ++ (List.range j).flatMap (rowO 8 k)).length≤10000 by have:=orderRow_len 8 k j;have:=HLen.out;have h16:(k+1)*(k+1)≤16*16:=Nat.mul_le_mul (by omega) (by omega);rw [List.length_append];omega)
     generalize PRE ++ (List.range j).flatMap (rowO 8 k)=S0 at *
     have hzj:=HQI.out.size
     by_cases hpar:k % 2=0
     ·have hpi:(k:Int) % 2=0:=by omega
      by_cases hx:j<8
      ·have hxi:(j:Int)<8:=by omega
       by_cases hy:k-j<8
       ·have hyi:(k:Int)-(j:Int)<8:=by omega
        have hrow:Hid (rowO 8 k j=[(k-j)*8+j]):=lh (by unfold rowO;rw [if_pos hpar,if_pos hpar,if_pos ⟨hx,hy⟩])
        have hval:Hid ((((k:Int)-(j:Int))*8+((k:Int)-((k:Int)-(j:Int))):Int)=((((k-j)*8+j:Nat)):Int)):=lh (by omega)
        have hin:∀ x∈[(((k:Int)-(j:Int))*8+((k:Int)-((k:Int)-(j:Int))):Int)],InK .i64 x:=by simp only [mSg,forall_eq,InK];omega
        have hsrc:=lh (fun (W:World)=>ints_newG (k:=.i64) (w:=W) (t:=3) (l:=[(((k:Int)-(j:Int))*8+((k:Int)-((k:Int)-(j:Int))):Int)]) rfl (by simp [maxLen]) hin 1 rfl rfl)
        have hby:=lh (show ((natI S0).length+[(((k:Int)-(j:Int))*8+((k:Int)-((k:Int)-(j:Int))):Int)].length)*8≤140737488355328 by have:=HLJ.out;simp [natI];omega)
        exact qDOrder0
       ·have hyi:¬ (k:Int)-(j:Int)<8:=by omega
        have hrow:Hid (rowO 8 k j=[]):=lh (by unfold rowO;rw [if_pos hpar,if_pos hpar,if_neg (by omega)])
        exact qDOrder1
      ·have hxi:¬ (j:Int)<8:=by omega
       have hrow:Hid (rowO 8 k j=[]):=lh (by unfold rowO;rw [if_pos hpar,if_pos hpar,if_neg (by omega)])
       exact qDOrder1
     ·have hpi:¬ (k:Int) % 2=0:=by omega
      by_cases hx:k-j<8
      ·have hxi:(k:Int)-(j:Int)<8:=by omega
       by_cases hy:j<8
       ·have hyi:(j:Int)<8:=by omega
        have hrow:Hid (rowO 8 k j=[j*8+(k-j)]):=lh (by unfold rowO;rw [if_neg hpar,if_neg hpar,if_pos ⟨hx,hy⟩])
        have hval:Hid (((j:Int)*8+((k:Int)-(j:Int)):Int)=(((j*8+(k-j):Nat)):Int)):=lh (by omega)
        have hin:∀ x∈[((j:Int)*8+((k:Int)-(j:Int)):Int)],InK .i64 x:=by simp only [mSg,forall_eq,InK];omega
        have hsrc:=lh (fun (W:World)=>ints_newG (k:=.i64) (w:=W) (t:=3) (l:=[((j:Int)*8+((k:Int)-(j:Int)):Int)]) rfl (by simp [maxLen]) hin 1 rfl rfl)
        have hby:=lh (show ((natI S0).length+[((j:Int)*8+((k:Int)-(j:Int)):Int)].length)*8≤140737488355328 by have:=HLJ.out;simp [natI];omega)
        exact qDOrder0
       ·have hyi:¬ (j:Int)<8:=by omega
        have hrow:Hid (rowO 8 k j=[]):=lh (by unfold rowO;rw [if_neg hpar,if_neg hpar,if_neg (by omega)])
        exact qDOrder1
      ·have hxi:¬ (k:Int)-(j:Int)<8:=by omega
       have hrow:Hid (rowO 8 k j=[]):=lh (by unfold rowO;rw [if_neg hpar,if_neg hpar,if_neg (by omega)])
       exact qDOrder1
    ·exact qDOrder2
  ·obtain rfl:k=15:=by omega
   have hlti:¬ ((15:Nat):Int)<15:=by omega
   go_wp2_with fail
   go_ret
   exact ⟨_,rfl,HOwn.out,HQ.out⟩
/-- what a list of levels is handed back as -/
def CoefP (lo hi R D:Nat) (bv:Value) (w:World) (r:Except Err (List Int)×Mod) (e:Ending) (w':World):Prop :=
 Only [R,D] w w'∧ModAt lo hi R D bv w' r.2∧match r.1 with
  | .ok l=>∃ v,e=.returned (.tuple #[v,.nilIface])∧Own .i64 3 w.heap.size w' v l
  | .error er=>∃ ev,e=.returned (.tuple #[.slice none 0 0,ev])∧ErrV w.heap.size w'.heap.size w' ev er
theorem base_any4 (w:World):Calls Tryz.prog 179 #[.int .i64 4] w fun e w'=>e=.returned (.int .i64 14)∧w=w':=by
 go_enter Tryz.func179,Tryz.ntmps179
 go_wp2
 go_ret
 exact ⟨rfl,rfl⟩
theorem base_any8 (w:World):Calls Tryz.prog 179 #[.int .i64 8] w fun e w'=>e=.returned (.int .i64 39)∧w=w':=by
 go_enter Tryz.func179,Tryz.ntmps179
 go_wp2
 go_ret
 exact ⟨rfl,rfl⟩
section
variable {base last a i:Nat} {rest:List Nat} {out:List Int} {m:Mod}
end
theorem Only.three {R D g:Nat} {a b c:World} (h:Only [R,D,g] a b) (k:Only [R,D] b c):Only [R,D,g] a c :=
 h.trans k (fun x h _=>h) (fun x h _=>by simp only [List.mem_cons,List.not_mem_nil,or_false] at h ⊢;rcases h with h | h <;> simp [h])
theorem Only.third {R D g:Nat} {a b c:World} (h:Only [R,D,g] a b) (k:Only [g] b c):Only [R,D,g] a c :=
 h.trans k (fun x h _=>h) (fun x h _=>by rw [mSg] at h;simp [h])
theorem qDPart0 {p:Prop} (h:p:=by
 go_enter Tryz.func143,Tryz.ntmps143
 go_wp2_with fail
 go_at_call 140
 refine (bound_any _ _ _ _).mono ?_
 rintro e w1 ⟨rfl,rfl⟩
 rw [show min (max (0:Int) (-15)) 15=0 by decide]
 go_wp2_with fail
 go_at_call 244
 refine (HB.out _).mono ?_
 rintro e w2 ⟨rfl,hk2,hq2⟩
 have Hk2:=lh hk2
 have HQ2:=lh hq2
 clear hk2 hq2
 go_wp2_with fail
 go_at_call 245
 refine (HF.out _ _ Hk2.out).mono ?_
 rintro e w3 ⟨rfl,hk3,hq3⟩
 have Hk0:=lh hk3
 have HQ0:=lh (HQ2.out.both hq3)
 clear hk3 hq3 HB HF Hk2 HQ2
 go_wp2_with fail
 go_loopw [7] (fun i wr=>∃ (n:Nat) (mc:Mod),n≤14∧i=.int .i64 n∧Hid (ModAt lo hi R D bv wr mc)∧Hid (onesD (fun n=>7+min n 6) (14-n) n mc=onesD (fun n=>7+min n 6) 14 0 m2)∧mc.d.pos≤m2.d.pos+2*n∧Only [R,D] w wr) (fun i _=>14-(intOf i).toNat)
 case atStart=>exact ⟨0,m2,by omega,rfl,Hk0,lh rfl,by omega,HQ0.out⟩
 case round =>
  obtain ⟨n,mc,hn,rfl,Hk,He,hpos,hq⟩:=hrel
  have HQ:=lh hq
  clear hq
  by_cases hlt:n<14
  ·have hlti:(n:Int)<14:=by omega
   have hn0:(0:Int)≤(n:Int):=by omega
   have hadv:=bitD_adv Hk.out.ok (c:=7+min n 6) (by omega)
   have HA:=lh hadv
   have HB:=lh (fun (x:Int) (hx:x=((7+min n 6:Nat):Int)) (b:Bool)=>(by subst hx;exact bit_any Hk.out (c:=7+min n 6) (by omega) b (by omega):Calls Tryz.prog 244 #[.pointer (some ⟨R,0,none⟩),.int .i64 x,.bool b] wr _))
   obtain ⟨k3,hk3⟩:∃ k3,14-n=k3+1:=⟨14-n-1,by omega⟩
   have hk3':14-(n+1)=k3:=by omega
   have Hn3:=lh (And.intro hk3 hk3')
   clear hadv hk3 hk3'
   have hfin:Hid (onesD (fun n=>7+min n 6) 14 0 m2=onesD (fun n=>7+min n 6) (k3+1) n mc):=lh (by rw [← Hn3.out.1,He.out])
   cases hb:(bitD (7+min n 6) mc).1 with
   | true =>
    rw [hb] at HB
    have Hb:=lh hb
    clear hb
    go_wp2_with fail
    all_goals
     go_at_call 244
     refine (HB.out _ (by omega) _).mono ?_
     rintro e w2 ⟨rfl,hk2,hq2⟩
     have Hk2:=lh hk2
     have HQ2:=lh (HQ.out.both hq2)
     clear hk2 hq2
     go_wp2_with fail
     exact ⟨⟨n+1,_,by omega,by go_num,Hk2,lh (by rw [Hn3.out.2,hfin.out];exact (onesD_step (f:=(fun n=>7+min n 6)) Hb.out).symm),by have:=HA.out.pos;omega,HQ2.out⟩,by simp [intOf];omega⟩
   | false =>
    rw [hb] at HB
    have Hb:=lh hb
    clear hb
    go_wp2_with fail
    all_goals
     go_at_call 244
     refine (HB.out _ (by omega) _).mono ?_
     rintro e w2 ⟨rfl,hk2,hq2⟩
     have HFin:Hid (onesD (fun n=>7+min n 6) 14 0 m2=(n,(bitD (7+min n 6) mc).2)):=lh (by rw [hfin.out];exact onesD_stop (f:=(fun n=>7+min n 6)) Hb.out)
     have Hkx:=lh hk2
     have HQx:=lh (HQ.out.both hq2)
     have hpx:(bitD (7+min n 6) mc).2.d.pos≤m2.d.pos+28:=by have:=HA.out.pos;omega
     clear hk2 hq2 hfin HA HB He Hn3
     generalize (bitD (7+min n 6) mc).2=mx at *
     go_wp2_with fail
     refine HPost.out _ _ ?_
     rw [HM2.out,HFin.out]
     exact ⟨ret_int (by simp [signD]),Hkx.out,HQx.out⟩
  ·obtain rfl:n=14:=by omega
   have hlti:¬ ((14:Nat):Int)<14:=by omega
   have HFin:Hid (onesD (fun n=>7+min n 6) 14 0 m2=(14,mc)):=lh (He.out.symm.trans rfl)
   have Hkx:=lh Hk.out
   have HQx:=HQ
   have hpx:mc.d.pos≤m2.d.pos+28:=by omega
   clear He Hk
   go_wp2_with fail
   refine HPost.out _ _ ?_
   rw [HM2.out,HFin.out]
   exact ⟨ret_int (by simp [signD]),Hkx.out,HQx.out⟩):p:=h
theorem mpart_any {lo hi R D:Nat} {bv:Value} {w:World} {m:Mod} (h:ModAt lo hi R D bv w m) (hp:m.d.pos≤900000000) :
  Calls Tryz.prog 143 #[cv R,.int .i64 0] w (NumP lo hi R D bv w (partD m)):=by
 refine hidQ fun Q HPost=>?_
 have mb:=mBit R
 have mf:=mFlat R
 have hadv:=bitD_adv h.ok (c:=6) (by omega)
 have hap:=hadv.pos
 have HB:=lh (fun (b:Bool)=>bit_any h (c:=6) (by omega) b (by omega))
 have HM:Hid (partD m=if (bitD 6 m).1 then (signD (flatD (bitD 6 m).2).1 (onesD (fun n=>7+min n 6) 14 0 (flatD (bitD 6 m).2).2).1,(onesD (fun n=>7+min n 6) 14 0 (flatD (bitD 6 m).2).2).2) else (0,(bitD 6 m).2)):=lh rfl
 have Hok:=lh hadv.ok
 generalize (bitD 6 m).2=m1 at *
 generalize (bitD 6 m).1=b1 at *
 clear h hadv
 cases b1 with
 | false =>
  have HM2:Hid (partD m=(0,m1)):=lh (by rw [HM.out];rfl)
  clear HM
  go_enter Tryz.func143,Tryz.ntmps143
  go_wp2_with fail
  go_at_call 140
  refine (bound_any _ _ _ _).mono ?_
  rintro e w1 ⟨rfl,rfl⟩
  rw [show min (max (0:Int) (-15)) 15=0 by decide]
  go_wp2_with fail
  go_at_call 244
  refine (HB.out _).mono ?_
  rintro e w2 ⟨rfl,hk2,hq2⟩
  have Hk2:=lh hk2
  have HQ2:=lh hq2
  clear hk2 hq2
  go_wp2_with fail
  refine HPost.out _ _ ?_
  rw [HM2.out]
  exact ⟨rfl,Hk2.out,HQ2.out⟩
 | true =>
  have HM2:Hid (partD m=(signD (flatD m1).1 (onesD (fun n=>7+min n 6) 14 0 (flatD m1).2).1,(onesD (fun n=>7+min n 6) 14 0 (flatD m1).2).2)):=lh (by rw [HM.out];rfl)
  have hadv2:=flatD_adv Hok.out
  have hap2:=hadv2.pos
  have HF:=lh (fun (w':World) (b:Bool) (hk:ModAt lo hi R D bv w' m1)=>flat_any hk b (by omega))
  clear HM
  generalize (flatD m1).2=m2 at *
  generalize (flatD m1).1=sg at *
  clear hadv2
  cases sg with
  | true =>
   exact qDPart0
  | false =>
   exact qDPart0
end Go.Proofs.YtmdobcffijnaoaaGreatDoor
