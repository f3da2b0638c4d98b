/- Joined texts: EContG, EBlk, ELev. Conditions: each part names its own. -/
import Derived.Test.YtkigikallkpbcaaGreatDoorT1
import Derived.Test.YtkigikallkpbcaaGreatDoorK2
import Derived.Conc.MuLone
import Derived.Test.YtkigikallkpbcaaGreatDoorW2
import Derived.StillTailTactics
import Derived.BigRegion
import Derived.Test.YtkigikallkpbcaaGreatDoorK3
import Derived.Test.YtkigikallkpbcaaGreatDoorK7
namespace Go.Proofs.YtkigikallkpbcaaGreatDoor
open Go.RowKit
set_option linter.unusedVariables false
set_option linter.unusedSimpArgs false
set_option maxRecDepth 100000
set_option maxHeartbeats 16000000
section
variable {f:Nat} {g:Int→Bool} {lo hi:Nat} {v:Value} {l:List Int} {w:World}
theorem indexF_any (ef:∀ (args:Array Value) (w:World),(callFunc f args).run Tryz.prog w=.ok (.enter f args) w) (HF0:∀ (x:Int) (w:World),Calls Tryz.prog f #[.int .i64 x] w fun e w'=>e=.returned (.bool (g x))∧w=w') (h:Ints .i64 lo hi w v l) (hl:l.length≤1000000000) :
  Calls Tryz.prog 103 #[v,.func (.func f) #[] #[]] w fun e w'=>(∃ i:Int,e=.returned (.int .i64 i)∧(0≤i↔l.any g=true)∧-1≤i∧i≤1000000000)∧Only [] w w':=by
 obtain ⟨a,cap,rfl,hcap,hmax,hat,hcell⟩:=h.open
 have Hat:=lh hat
 have Hcell:=lh hcell
 have HF:=lh HF0
 have Hl:=lh hl
 have hll:(l.length:Int)≤9223372036854775807:=by omega
 clear h hat hcell hmax hcap hl HF0
 go_enter Tryz.func103,Tryz.ntmps103
 go_wp2_with fail
 go_loopw [8] (fun i wr=>∃ k:Nat,k≤l.length∧i=.int .i64 k∧Hid ((l.drop k).any g=l.any g)∧Only [] w wr) (fun i _=>l.length-(intOf i).toNat)
 case atStart=>exact ⟨0,by omega,rfl,lh rfl,Only.refl _ _⟩
 case round =>
  obtain ⟨k,hk,rfl,Hk,hq⟩:=hrel
  by_cases hlt:k<l.length
  ·obtain ⟨b,off,rfl,_,_⟩:=Hat.out k hlt
   have c0:=hq.cell (Hcell.out b off rfl k hlt) (by simp)
   have hx:(0:Int)≤(k:Int):=by omega
   have hx1:(k:Int)<(l.length:Int):=by omega
   have Hdrop:=lh (anyI_drop (f:=g) hlt)
   generalize l.getD k 0=x at *
   cases hxx:g x with
   | true =>
    have Hx:=lh hxx
    clear hxx
    go_wp2_with fail
    refine (HF.out _ _).mono ?_
    rintro e w2 ⟨rfl,rfl⟩
    rw [Hx.out]
    go_wp2_with fail
    go_ret
    refine ⟨⟨k,rfl,?_,by omega,by have:=Hl.out;omega⟩,hq⟩
    rw [← Hk.out,Hdrop.out,Hx.out]
    simp
   | false =>
    have Hx:=lh hxx
    clear hxx
    go_wp2_with fail
    refine (HF.out _ _).mono ?_
    rintro e w2 ⟨rfl,rfl⟩
    rw [Hx.out]
    have hfin:Hid ((l.drop (k+1)).any g=l.any g):=lh (by rw [← Hk.out,Hdrop.out,Hx.out];rfl)
    go_wp2_with fail
    exact ⟨⟨k+1,by omega,by go_num,hfin,hq⟩,by simp [intOf];omega⟩
  ·obtain rfl:k=l.length:=by omega
   have hx:¬ (l.length:Int)<(l.length:Int):=by omega
   have Hz:Hid (l.any g=false):=lh (by rw [← Hk.out,List.drop_length];rfl)
   go_wp2_with fail
   go_ret
   refine ⟨⟨-1,rfl,?_,by omega,by omega⟩,hq⟩
   first | rw [Hz.out] | rw [← List.any_eq_true,Hz.out]
   simp
theorem containsF_any (ef:∀ (args:Array Value) (w:World),(callFunc f args).run Tryz.prog w=.ok (.enter f args) w) (HF0:∀ (x:Int) (w:World),Calls Tryz.prog f #[.int .i64 x] w fun e w'=>e=.returned (.bool (g x))∧w=w') (h:Ints .i64 lo hi w v l) (hl:l.length≤1000000000) :
  Calls Tryz.prog 81 #[v,.func (.func f) #[] #[]] w fun e w'=>e=.returned (.bool (l.any g))∧Only [] w w':=by
 have H:=lh (indexF_any ef HF0 h hl)
 clear h hl HF0
 generalize l.any g=B at *
 go_enter Tryz.func81,Tryz.ntmps81
 go_wp2_with (first | (go_at_call 103;refine H.out.mono ?_;rintro e w1 ⟨⟨i,rfl,hi1,hi2,hi3⟩,hq1⟩) | fail)
 go_ret
 exact ⟨ret_bool (by rw [Bool.eq_iff_iff,← hi1];try simp),hq1⟩
end
def wideB (x:Int):Bool:=decide (x < -1048576) || decide (1048576<x)
section
theorem both1_any (x:Int) (w:World):Calls Tryz.prog 183 #[.int .i64 x] w fun e w'=>e=.returned (.bool (wideB x))∧w=w':=by
 go_enter Tryz.func183,Tryz.ntmps183
 go_wp2_with fail
 all_goals
  go_ret
  exact ⟨ret_bool (by unfold wideB;simp;try omega),rfl⟩
theorem wide_none {l:List Int} (h:SamOk l):l.any wideB=false:=by
 rw [List.any_eq_false]
 intro x hx
 have:=h x hx
 simp only [wideB,Bool.or_eq_true,decide_eq_true_eq]
 omega
theorem both_any {lo hi lo' hi':Nat} {u v:Value} {a b:List Int} {w:World} (ha:Ints .i64 lo hi w u a) (hb:Ints .i64 lo' hi' w v b) (hl:b.length=a.length) (hm:a.length≤1000) (sa:SamOk a) (sb:SamOk b) :
  Calls Tryz.prog 174 #[u,v] w fun e w'=>e=.returned .nilIface∧Only [] w w':=by
 have ef:=fun args w=>MuLone.run_callFunc_enter Tryz.func183 (by kernel_rfl) rfl args w
 have HA:=lh (containsF_any ef both1_any ha (by omega))
 have HB:=lh (fun (W:World) (o:Only [] w W)=>containsF_any ef both1_any (hb.quiet o) (by omega))
 rw [wide_none sa] at HA
 rw [wide_none sb] at HB
 obtain ⟨p,pc,rfl,-⟩:=ha.open
 obtain ⟨q,qc,rfl,-⟩:=hb.open
 rw [hl] at HB ⊢
 clear ef ha hb
 go_enter Tryz.func174,Tryz.ntmps174
 go_wp2_with fail
 go_at_call 81
 refine HA.out.mono ?_
 rintro e w1 ⟨rfl,hq1⟩
 have HQ1:=lh hq1
 clear hq1
 go_wp2_with fail
 go_at_call 81
 refine (HB.out w1 HQ1.out).mono ?_
 rintro e w2 ⟨rfl,hq2⟩
 have HQ2:=lh hq2
 clear hq2
 go_wp2_with fail
 go_ret
 exact ⟨rfl,HQ1.out.q HQ2.out⟩
theorem subV_at {a b:List Int} {k:Nat} (h:k<a.length) (hl:b.length=a.length):(subV a b)[k]?=some (a.getD k 0-b.getD k 0):=by
 unfold subV
 rw [List.getElem?_zipWith,List.getElem?_eq_getElem h,List.getElem?_eq_getElem (by omega),List.getD_eq_getElem?_getD,List.getElem?_eq_getElem h,List.getD_eq_getElem?_getD,List.getElem?_eq_getElem (by omega)]
 rfl
theorem take_more {l:List Int} {k:Nat} {x:Int} (h:l[k]?=some x):l.take (k+1)=l.take k ++ [x]:=by
 obtain ⟨h1,h2⟩:=List.getElem?_eq_some_iff.1 h
 rw [List.take_succ_eq_append_getElem h1,h2]
theorem sub_any {lo hi lo' hi':Nat} {u v:Value} {a b:List Int} {w:World} (ha:Ints .i64 lo hi w u a) (hb:Ints .i64 lo' hi' w v b) (hl:b.length=a.length) (hm:a.length≤64) (sa:SamOk a) (sb:SamOk b) :
  Calls Tryz.prog 151 #[u,v] w fun e w'=>∃ v',e=.returned (.tuple #[v',.nilIface])∧Own .i64 3 w.heap.size w' v' (subV a b)∧Only [] w w':=by
 refine hidQ fun Q HPost=>?_
 have HBoth:=lh (both_any ha hb hl (by omega) sa sb)
 have Hsub:=lh (fun (k:Nat) (h:k<a.length)=>subV_at h hl)
 have Hsa:=lh sa
 have Hsb:=lh sb
 obtain ⟨p,pc,rfl,-,-,hat,hcell⟩:=ha.open
 obtain ⟨q,qc,rfl,-,-,hat2,hcell2⟩:=hb.open
 obtain ⟨n,hn⟩:∃ n,n=a.length:=⟨_,rfl⟩
 rw [hl,← hn] at hat2 hcell2 HBoth ⊢
 rw [← hn] at hat hcell Hsub hm
 have HL:Hid ((subV a b).length=n):=lh (by rw [subV_len hn.symm (hl.trans hn.symm)])
 have Hat:=lh hat
 have Hcell:=lh hcell
 have Hat2:=lh hat2
 have Hcell2:=lh hcell2
 clear ha hb hl sa sb hat hcell hat2 hcell2 hn
 generalize subV a b=S at *
 go_enter Tryz.func151,Tryz.ntmps151
 go_wp2_with fail
 go_at_call 174
 refine HBoth.out.mono ?_
 rintro e w1 ⟨rfl,hq⟩
 have HQ1:=lh hq
 clear hq
 go_wp2_with fail
 go_loopw [7,18] (fun y i wr=>∃ k:Nat,k≤n∧i=.int .i64 k∧Hid (Own .i64 3 w.heap.size wr y (S.take k))∧Hid (From w.heap.size y)∧Hid (Only [] w wr)) (fun _ i _=>n-(intOf i).toNat)
 case atStart=>exact ⟨0,by omega,rfl,lh (Own.nil _ _ _ _),lh (From.nil _),HQ1⟩
 case round =>
  obtain ⟨k,hk,rfl,HOI,HFI,HQI⟩:=hrel
  by_cases hlt:k<n
  ·have hki:(k:Int)<(n:Int):=by omega
   have hk0:(0:Int)≤(k:Int):=by omega
   obtain ⟨b1,off1,rfl,_,_⟩:=Hat.out k hlt
   obtain ⟨b2,off2,rfl,_,_⟩:=Hat2.out k hlt
   have ca:=HQI.out.cell (Hcell.out b1 off1 rfl k hlt) (by simp)
   have cb:=HQI.out.cell (Hcell2.out b2 off2 rfl k hlt) (by simp)
   have hx:=Hsa.out.at k
   have hy:=Hsb.out.at k
   have Htake:=lh (take_more (Hsub.out k hlt))
   generalize a.getD k 0=x at *
   generalize b.getD k 0=y at *
   have hin:∀ z∈[x-y],InK .i64 z:=by simp only [mSg,forall_eq,InK];omega
   have hsrc:=lh (fun (W:World)=>ints_newG (k:=.i64) (w:=W) (t:=3) (l:=[x-y]) rfl (by simp [maxLen]) hin 1 rfl rfl)
   have hby:=lh (show ((S.take k).length+[x-y].length)*8≤140737488355328 by simp;omega)
   have Hlen:=lh (show (S.take k ++ [x-y]).length=k+1 by rw [List.length_append,List.length_take,HL.out];simp;omega)
   have hba:=lh (fun (o:Obj)=>(show w.heap.size≤(wr.alloc o).heap.size by have:=HQI.out.size;simp;omega))
   obtain ⟨hx0,hx1⟩:=hx
   obtain ⟨hy0,hy1⟩:=hy
   clear hin
   go_wp2_with (first
    | (at_builtin;refine wpList_append_ints rfl (.tmp 23) (.tmp 30) _ rfl EI (HOI.out.quiet (Only.new _ _)) rfl (hsrc.out _) rfl hby.out (hba.out _) (fun v1 w3 hown1 ho1=>?_);obtain ⟨x1,x1cap,hx1,_⟩:=hown1.ints.open;subst hx1;rw [Hlen.out] at hown1 ho1 ⊢;have HO1:=lh hown1;have HA1:=lh ho1;clear hown1 ho1)
    | fail)
   exact ⟨⟨k+1,by omega,by go_num,lh (by rw [Htake.out];exact HO1.out),lh (HA1.out.from_ HFI.out (hba.out _)),lh ((HQI.out.q (Only.new _ _)).acc HA1.out HFI.out)⟩,by simp [intOf];omega⟩
  ·obtain rfl:k=n:=by omega
   have hki:¬ (k:Int)<(k:Int):=by omega
   have HO:=lh HOI.out
   rw [List.take_of_length_le (by rw [HL.out];exact Nat.le_refl _)] at HO
   go_wp2_with fail
   exact HPost.out _ _ ⟨_,rfl,HO.out,HQI.out⟩
theorem sad_step {a b:List Int} {k:Nat} (h:k<a.length) (hl:b.length=a.length):sadD (a.take (k+1)) (b.take (k+1))=sadD (a.take k) (b.take k)+max (a.getD k 0-b.getD k 0) (b.getD k 0-a.getD k 0):=by
 have h2:k<b.length:=by omega
 have e1:a.getD k 0=a[k]:=by rw [List.getD_eq_getElem?_getD,List.getElem?_eq_getElem h];rfl
 have e2:b.getD k 0=b[k]:=by rw [List.getD_eq_getElem?_getD,List.getElem?_eq_getElem h2];rfl
 unfold sadD
 rw [List.take_succ_eq_append_getElem h,List.take_succ_eq_append_getElem h2,List.zipWith_append (by simp;omega),List.sum_append,e1,e2]
 simp
theorem sad_in {a b:List Int} (sa:SamOk a) (sb:SamOk b):∀ k,0≤sadD (a.take k) (b.take k)∧sadD (a.take k) (b.take k)≤255*k:=by
 intro k
 induction k generalizing a b with
 | zero=>simp [sadD]
 | succ k ih =>
  cases a with
  | nil=>simp [sadD];omega
  | cons x a =>
   cases b with
   | nil=>simp [sadD];omega
   | cons y b =>
    have hx:=sa x (List.mem_cons_self ..)
    have hy:=sb y (List.mem_cons_self ..)
    have:=ih (a:=a) (b:=b) (fun z hz=>sa z (List.mem_cons_of_mem _ hz)) (fun z hz=>sb z (List.mem_cons_of_mem _ hz))
    simp only [sadD,List.take_succ_cons,List.zipWith_cons_cons,List.sum_cons] at this ⊢
    omega
theorem sad_any {lo hi lo' hi':Nat} {u v:Value} {a b:List Int} {w:World} (ha:Ints .i64 lo hi w u a) (hb:Ints .i64 lo' hi' w v b) (hl:b.length=a.length) (hm:a.length≤64) (sa:SamOk a) (sb:SamOk b) :
  Calls Tryz.prog 156 #[u,v] w fun e w'=>e=.returned (.tuple #[.int .i64 (sadD a b),.nilIface])∧Only [] w w':=by
 refine hidQ fun Q HPost=>?_
 have HBoth:=lh (both_any ha hb hl (by omega) sa sb)
 have Hst:=lh (fun (k:Nat) (h:k<a.length)=>sad_step h hl)
 have Hin:=lh (sad_in sa sb)
 have Hsa:=lh sa
 have Hsb:=lh sb
 obtain ⟨p,pc,rfl,-,-,hat,hcell⟩:=ha.open
 obtain ⟨q,qc,rfl,-,-,hat2,hcell2⟩:=hb.open
 obtain ⟨n,hn⟩:∃ n,n=a.length:=⟨_,rfl⟩
 rw [hl,← hn] at hat2 hcell2 HBoth ⊢
 rw [← hn] at hat hcell Hst hm
 have Hfin:Hid (sadD (a.take n) (b.take n)=sadD a b):=lh (by rw [List.take_of_length_le (by omega),List.take_of_length_le (by omega)])
 have Hat:=lh hat
 have Hcell:=lh hcell
 have Hat2:=lh hat2
 have Hcell2:=lh hcell2
 have H0:Hid (sadD (a.take 0) (b.take 0)=0):=lh (by simp [sadD])
 clear ha hb hl sa sb hat hcell hat2 hcell2 hn
 rw [← Hfin.out] at HPost
 clear Hfin
 generalize hT:(fun k=>sadD (a.take k) (b.take k))=T at *
 have hTk:∀ k,sadD (a.take k) (b.take k)=T k:=fun k=>by rw [← hT]
 simp only [hTk] at HPost Hst Hin H0
 clear hT hTk
 go_enter Tryz.func156,Tryz.ntmps156
 go_wp2_with fail
 go_at_call 174
 refine HBoth.out.mono ?_
 rintro e w1 ⟨rfl,hq⟩
 have HQ1:=lh hq
 clear hq
 go_wp2_with fail
 go_loopw [7,18] (fun y i wr=>∃ k:Nat,k≤n∧i=.int .i64 k∧y=.int .i64 (T k)∧Hid (Only [] w wr)) (fun _ i _=>n-(intOf i).toNat)
 case atStart=>exact ⟨0,by omega,rfl,by rw [H0.out],HQ1⟩
 case round =>
  obtain ⟨k,hk,rfl,rfl,HQI⟩:=hrel
  by_cases hlt:k<n
  ·have hki:(k:Int)<(n:Int):=by omega
   have hk0:(0:Int)≤(k:Int):=by omega
   obtain ⟨b1,off1,rfl,_,_⟩:=Hat.out k hlt
   obtain ⟨b2,off2,rfl,_,_⟩:=Hat2.out k hlt
   have ca:=HQI.out.cell (Hcell.out b1 off1 rfl k hlt) (by simp)
   have cb:=HQI.out.cell (Hcell2.out b2 off2 rfl k hlt) (by simp)
   have hx:=Hsa.out.at k
   have hy:=Hsb.out.at k
   have ht:=Hin.out k
   have HT:=lh (Hst.out k hlt)
   generalize a.getD k 0=x at *
   generalize b.getD k 0=y at *
   generalize hc:T k=c at *
   obtain ⟨hx0,hx1⟩:=hx
   obtain ⟨hy0,hy1⟩:=hy
   obtain ⟨ht0,ht1⟩:=ht
   have ht2:c≤100000:=by omega
   clear hc ht1
   go_wp2_with fail
   go_quiet (fail)
   go_wp2_with fail
   exact ⟨⟨k+1,by omega,by go_num,by rw [HT.out];congr 1;omega,lh (HQI.out.drewN _)⟩,by simp [intOf];omega⟩
  ·obtain rfl:k=n:=by omega
   have hki:¬ (k:Int)<(k:Int):=by omega
   go_wp2_with fail
   exact HPost.out _ _ ⟨rfl,HQI.out⟩
end
section
theorem stepD_pos {n:Nat} (hn:n≤15):1≤stepD n∧stepD n≤384:=by
 rcases upto15 hn with rfl | rfl | rfl | rfl | rfl | rfl | rfl | rfl | rfl | rfl | rfl | rfl | rfl | rfl | rfl | rfl <;> decide
theorem div_in {a s:Int} (h0:0≤a) (h1:a≤20000000) (hs:1≤s):0≤a / s∧a / s≤20000000 :=
 ⟨Int.ediv_nonneg h0 (by omega),Int.le_trans (Int.ediv_le_self _ h0) h1⟩
theorem level_any (c:Int) (n:Nat) (hn:n≤15) (hc:-16777216≤c∧c≤16777216) (w:World) :
  Calls Tryz.prog 177 #[.int .i64 c,.int .i64 n] w fun e w'=>e=.returned (.tuple #[.int .i64 (levD n c),.nilIface])∧Only [] w w':=by
 refine hidQ fun Q HPost=>?_
 have hs:=stepD_pos hn
 have HS:=lh (step_any n hn)
 have HL:Hid (levD n c=if c<0 then -((stepD n / 2-c) / stepD n) else (c+stepD n / 2) / stepD n):=lh rfl
 generalize stepD n=s at *
 generalize levD n c=R at *
 obtain ⟨s0,s1⟩:=hs
 obtain ⟨c0,c1⟩:=hc
 have e1:s.tdiv 2=s / 2:=Int.tdiv_eq_ediv_of_nonneg (by omega)
 have n1:¬ c < -16777216:=by omega
 have n2:¬ (16777216:Int)<c:=by omega
 have n3:¬ s=0:=by omega
 go_enter Tryz.func177,Tryz.ntmps177
 go_wp2_with fail
 go_at_call 67
 refine (HS.out _).mono ?_
 rintro e w1 ⟨rfl,hq⟩
 have HQ:=lh hq
 clear hq HS
 obtain ⟨h2,hh2⟩:∃ z,z=s / 2:=⟨_,rfl⟩
 rw [← hh2] at e1 HL
 have b2:0≤h2∧h2≤192:=by omega
 have HH:=lh hh2
 clear hh2
 obtain ⟨b0,b1⟩:=b2
 by_cases hneg:c<0
 ·rw [if_pos hneg] at HL
  have e2:(h2-c).tdiv s=(h2-c) / s:=Int.tdiv_eq_ediv_of_nonneg (by omega)
  have hb:=div_in (a:=h2-c) (s:=s) (by omega) (by omega) s0
  have HB:=lh hb
  have a1:IntKind.i64.wrap (h2-c)=h2-c:=by rw [IntKind.wrap_i64];omega
  have a0:IntKind.i64.wrap h2=h2:=by rw [IntKind.wrap_i64];omega
  generalize (h2-c) / s=q at *
  have a2:IntKind.i64.wrap q=q:=by rw [IntKind.wrap_i64];have:=HB.out;omega
  have a3:IntKind.i64.wrap (-q)=-q:=by rw [IntKind.wrap_i64];have:=HB.out;omega
  clear hb
  go_wp2_with fail
  refine HPost.out _ _ ⟨?_,HQ.out⟩
  rw [HL.out]
  first | rfl | simp
 ·rw [if_neg hneg] at HL
  have e2:(c+h2).tdiv s=(c+h2) / s:=Int.tdiv_eq_ediv_of_nonneg (by omega)
  have hb:=div_in (a:=c+h2) (s:=s) (by omega) (by omega) s0
  have HB:=lh hb
  have a1:IntKind.i64.wrap (c+h2)=c+h2:=by rw [IntKind.wrap_i64];omega
  have a0:IntKind.i64.wrap h2=h2:=by rw [IntKind.wrap_i64];omega
  generalize (c+h2) / s=q at *
  have a2:IntKind.i64.wrap q=q:=by rw [IntKind.wrap_i64];have:=HB.out;omega
  clear hb
  go_wp2_with fail
  refine HPost.out _ _ ⟨?_,HQ.out⟩
  rw [HL.out]
  first | rfl | simp
theorem levD_in {c:Int} {n:Nat} (hn:n≤15) (hc:-16777216≤c∧c≤16777216):InK .i64 (levD n c):=by
 have hs:=stepD_pos hn
 unfold levD
 generalize stepD n=s at *
 simp only [InK]
 split
 ·have:=div_in (a:=s / 2-c) (s:=s) (by omega) (by omega) hs.1;omega
 ·have:=div_in (a:=c+s / 2) (s:=s) (by omega) (by omega) hs.1;omega
theorem levels_any {lo hi:Nat} {v:Value} {l:List Int} {w:World} (h:Ints .i64 lo hi w v l) (hl:l.length≤64) (hlev:∀ x∈l,-16777216≤x∧x≤16777216) (n:Nat) (hn:n≤15) :
  Calls Tryz.prog 153 #[v,.int .i64 n] w fun e w'=>∃ v',e=.returned (.tuple #[v',.nilIface])∧Own .i64 3 w.heap.size w' v' (l.map (levD n))∧Only [] w w':=by
 refine hidQ fun Q HPost=>?_
 obtain ⟨la,lcap,rfl,-,-,hat,hcell⟩:=h.open
 have Hat:=lh hat
 have Hcell:=lh hcell
 clear h hat hcell
 have Hlev:=lh hlev
 have HIn:=lh (fun (c:Int) (hc:-16777216≤c∧c≤16777216)=>levD_in hn hc)
 go_enter Tryz.func153,Tryz.ntmps153
 go_wp2_with fail
 go_at_call 67
 refine (step_any n hn _).mono ?_
 rintro e w1 ⟨rfl,hq⟩
 have HQ1:=lh hq
 clear hq
 have HV:=lh (fun (x:Int) (hx:-16777216≤x∧x≤16777216) (W:World)=>level_any x n hn hx W)
 generalize hL:levD n=L at *
 clear hL
 generalize stepD n=st at *
 go_wp2_with fail
 go_loopw [8,23] (fun y i wr=>∃ k:Nat,k≤l.length∧i=.int .i64 k∧Hid (Own .i64 3 w.heap.size wr y ((l.take k).map L))∧Hid (From w.heap.size y)∧Hid (Only [] w wr)) (fun _ i _=>l.length-(intOf i).toNat)
 case atStart=>exact ⟨0,by omega,rfl,lh (Own.nil _ _ _ _),lh (From.nil _),HQ1⟩
 case round =>
  obtain ⟨k,hk,rfl,HOI,HFI,HQI⟩:=hrel
  by_cases hlt:k<l.length
  ·have hki:(k:Int)<(l.length:Int):=by omega
   have hk0:(0:Int)≤(k:Int):=by omega
   obtain ⟨b,off,rfl,_,_⟩:=Hat.out k hlt
   have hc:=HQI.out.cell (Hcell.out b off rfl k hlt) (by simp)
   have hx:=Hlev.out (l.getD k 0) (by rw [List.getD_eq_getElem?_getD,List.getElem?_eq_getElem hlt];exact List.getElem_mem _)
   have Htake:Hid ((l.take (k+1)).map L=(l.take k).map L ++ [L (l.getD k 0)]):=lh (by
    rw [List.take_succ_eq_append_getElem hlt,List.map_append,List.getD_eq_getElem?_getD,List.getElem?_eq_getElem hlt];rfl)
   generalize l.getD k 0=x at *
   have HVx:=lh (HV.out x hx)
   have hin:∀ y∈[L x],InK .i64 y:=by simp only [mSg,forall_eq];exact HIn.out x hx
   generalize L x=lx at *
   have hsrc:=lh (fun (W:World)=>ints_newG (k:=.i64) (w:=W) (t:=3) (l:=[lx]) rfl (by simp [maxLen]) hin 1 rfl rfl)
   have hby:=lh (show (((l.take k).map L).length+[lx].length)*8≤140737488355328 by simp;omega)
   have Hlen:=lh (show (((l.take k).map L) ++ [lx]).length=k+1 by simp;omega)
   clear hin
   go_wp2_with fail
   go_at_call 177
   refine (HVx.out _).mono ?_
   rintro e w2 ⟨rfl,hq2⟩
   have HQ2:=lh hq2
   have HO2:=lh (HOI.out.quiet hq2)
   have hba:=lh (fun (o:Obj)=>(show w.heap.size≤(w2.alloc o).heap.size by have:=HQI.out.size;have:=hq2.size;simp;omega))
   clear hq2 hc
   go_wp2_with (first
    | (at_builtin;refine wpList_append_ints rfl (.tmp 36) (.tmp 38) _ rfl EI (HO2.out.quiet (Only.new _ _)) rfl (hsrc.out _) rfl hby.out (hba.out _) (fun v1 w3 hown1 ho1=>?_);obtain ⟨x1,x1cap,hx1,_⟩:=hown1.ints.open;subst hx1;rw [Hlen.out] at hown1 ho1 ⊢;have HO1:=lh hown1;have HA1:=lh ho1;clear hown1 ho1)
    | fail)
   exact ⟨⟨k+1,by omega,by go_num,lh (by rw [Htake.out];exact HO1.out),lh (HA1.out.from_ HFI.out (hba.out _)),lh (((HQI.out.q HQ2.out).q (Only.new _ _)).acc HA1.out HFI.out)⟩,by simp [intOf];omega⟩
  ·obtain rfl:k=l.length:=by omega
   have hki:¬ (l.length:Int)<(l.length:Int):=by omega
   rw [List.take_length] at HOI
   go_wp2_with fail
   exact HPost.out _ _ ⟨_,rfl,HOI.out,HQI.out⟩
theorem forward_any {lo hi:Nat} {v:Value} {l:List Int} {w:World} (h:Ints .i64 lo hi w v l) (hl:l.length=16∨l.length=64) (hb:∀ x∈l,-255≤x∧x≤255) :
  Calls Tryz.prog 152 #[v] w fun e w'=>∃ v',e=.returned (.tuple #[v',.nilIface])∧Own .i64 3 w.heap.size w' v' (turnD l)∧Only [] w w':=by
 have HC:=lh (whtCheck_any h hl (most:=65536) (by omega) (fun x hx=>by have:=hb x hx;omega))
 have HT:=lh (fun (wx:World) (o:Only [] w wx)=>turn_any (h.quiet o) hl (fun k hk=>by
  have:=hb (l.getD k 0) (by rw [List.getD_eq_getElem?_getD,List.getElem?_eq_getElem hk];exact List.getElem_mem _)
  omega))
 obtain ⟨b,off,cap,rfl,_,_,_⟩:=h.at (i:=0) (by omega)
 clear h hb hl
 generalize turnD l=T at *
 go_enter Tryz.func152,Tryz.ntmps152
 go_wp2_with fail
 go_at_call 175
 refine HC.out.mono ?_
 rintro e w1 ⟨rfl,hq1⟩
 have HQ1:=lh hq1
 clear hq1
 go_wp2_with fail
 go_at_call 176
 refine (HT.out w1 HQ1.out).mono ?_
 rintro e w2 ⟨v2,rfl,hown,habs,hq⟩
 have HO:=lh hown
 have HQ2:=lh (HQ1.out.q hq)
 have HZ:=lh HQ1.out.size
 clear hown hq habs
 go_wp2_with fail
 go_ret2
 exact ⟨v2,rfl,HO.out.lower HZ.out,HQ2.out⟩
theorem turnD_small {n:Nat} (hn:n=4∨n=8) {l:List Int} (hl:l.length=n*n) (h:∀ x∈l,-255≤x∧x≤255):∀ x∈turnD l,-16777216≤x∧x≤16777216:=by
 intro x hx
 have:=turnD_abs hn hl (by omega) h x hx
 rcases hn with rfl | rfl <;> simp at this <;> omega
theorem declevels_any {n:Nat} (hn:n=4∨n=8) {lo hi lo' hi':Nat} {u v:Value} {b p:List Int} {w:World} (hb:Ints .i64 lo hi w u b) (hp:Ints .i64 lo' hi' w v p) (lb:b.length=n*n) (lp:p.length=n*n) (sb:SamOk b) (sp:SamOk p) (q:Nat) (hq:q≤15) :
  Calls Tryz.prog 130 #[u,v,.int .i64 q] w fun e w'=>∃ v',e=.returned v'∧Own .i64 3 w.heap.size w' v' (levelsE b p q)∧Only [] w w':=by
 refine hidQ fun Q HPost=>?_
 have hnn:n*n=16∨n*n=64:=by rcases hn with rfl | rfl <;> simp
 have HS:=lh (sub_any hb hp (by omega) (by omega) sb sp)
 have hsl:=subV_len lb lp
 have HF:=lh (fun (lo hi:Nat) (v:Value) (wx:World) (hx:Ints .i64 lo hi wx v (subV b p))=>forward_any hx (by omega) (subV_in sb sp))
 have HL:=lh (fun (lo hi:Nat) (v:Value) (wx:World) (hx:Ints .i64 lo hi wx v (turnD (subV b p)))=>levels_any hx (by rw [turnD_len];omega) (turnD_small hn hsl (subV_in sb sp)) q hq)
 have HE:Hid (levelsE b p q=(turnD (subV b p)).map (levD q)):=lh rfl
 have H1:Hid (0<(subV b p).length):=lh (by omega)
 have H2:Hid (0<(turnD (subV b p)).length):=lh (by rw [turnD_len];omega)
 obtain ⟨m,hm⟩:∃ m,m=n*n:=⟨_,rfl⟩
 rw [← hm] at lb lp
 obtain ⟨x,xc,rfl,-⟩:=hb.open
 obtain ⟨y,yc,rfl,-⟩:=hp.open
 rw [lb,lp] at HS
 rw [lb,lp]
 generalize (turnD (subV b p)).map (levD q)=L at *
 generalize turnD (subV b p)=T at *
 generalize subV b p=S at *
 clear hb hp lb lp sb sp hsl hn hm hnn
 go_enter Tryz.func130,Tryz.ntmps130
 go_wp2_with fail
 go_at_call 151
 refine HS.out.mono ?_
 rintro e w1 ⟨v1,rfl,hown1,hq1⟩
 obtain ⟨g1,gc1,rfl,-,-⟩:=hown1.form H1.out
 have HO1:=lh hown1
 have HQ1:=lh hq1
 clear hown1 hq1
 go_wp2_with fail
 go_at_call 152
 refine (HF.out _ _ _ w1 HO1.out.ints).mono ?_
 rintro e w2 ⟨v2,rfl,hown2,hq2⟩
 obtain ⟨g2,gc2,rfl,-,-⟩:=hown2.form H2.out
 have HO2:=lh hown2
 have HQ2:=lh (HQ1.out.q hq2)
 clear hown2 hq2
 go_wp2_with fail
 go_at_call 153
 refine (HL.out _ _ _ w2 HO2.out.ints).mono ?_
 rintro e w3 ⟨v3,rfl,hown3,hq3⟩
 have HO3:=lh hown3
 have HQ3:=lh hq3
 clear hown3 hq3
 go_wp2_with fail
 refine HPost.out _ _ ⟨v3,rfl,?_,HQ2.out.q HQ3.out⟩
 rw [HE.out]
 exact HO3.out.lower HQ2.out.size
end
end Go.Proofs.YtkigikallkpbcaaGreatDoor
