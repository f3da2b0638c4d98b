/- Joined texts: DRWh, DRSu, DRIn, DRCl. Conditions: each part names its own. -/
import Derived.Test.YtmgbbgffkakcaaaGreatDoorT1
import Derived.Test.YtmgbbgffkakcaaaGreatDoorR2
import Derived.Test.YtmgbbgffkakcaaaGreatDoorZWht
import Derived.Test.YtmgbbgffkakcaaaGreatDoorK3
import Derived.StillTailTactics
namespace Go.Proofs.YtmgbbgffkakcaaaGreatDoor
open Go.RowKit
set_option linter.unusedVariables false
set_option linter.unusedSimpArgs false
set_option maxRecDepth 100000
set_option maxHeartbeats 16000000
def signK (u x:Nat):Nat→Int
 | 0=>1
 | k+1=>if u / 2 ^ k % 2=1∧x / 2 ^ k % 2=1 then-signK u x k else signK u x k
theorem signK_all:∀ u,u<8→∀ x,x<8→signK u x 3=sgnD u x:=by decide
theorem signK_in (u x:Nat):∀ k,signK u x k=1∨signK u x k=-1
 | 0=>.inl rfl
 | k+1=>by
  have:=signK_in u x k
  unfold signK
  split <;> omega
section
theorem ksign_any (u x:Nat) (hu:u<8) (hx:x<8) (w:World):Calls Tryz.prog 219 #[.int .i64 u,.int .i64 x] w fun e w'=>e=.returned (.int .i64 (sgnD u x))∧w=w':=by
 have HS:=lh (signK_all u hu x hx)
 have u0:¬ (u:Int)<0:=by omega
 have u7:¬ (7:Int)<u:=by omega
 have x0:¬ (x:Int)<0:=by omega
 have x7:¬ (7:Int)<x:=by omega
 go_enter Tryz.func219,Tryz.ntmps219
 go_wp2_with fail
 go_loopw [6,5] (fun i s wr=>∃ k:Nat,k≤3∧i=.int .i64 k∧s=.int .i64 (signK u x k)∧w=wr) (fun i _ _=>3-(intOf i).toNat)
 case atStart=>exact ⟨0,by omega,rfl,rfl,rfl⟩
 case round =>
  obtain ⟨k,hk,rfl,rfl,rfl⟩:=hrel
  have hin:=signK_in u x k
  by_cases hlt:k<3
  ·have hki:(k:Int)<3:=by omega
   have hk0:(0:Int)≤(k:Int):=by omega
   have huv:∀ c:Nat,(u / c % 2=0∨u / c % 2=1)∧(x / c % 2=0∨x / c % 2=1):=fun c=>⟨by omega,by omega⟩
   rcases (by omega:k=0∨k=1∨k=2) with rfl | rfl | rfl
   ·obtain ⟨bu,bx⟩:=huv 1
    have du:(u:Int) % 2=((u / 1 % 2:Nat):Int):=by omega
    have dx:(x:Int) % 2=((x / 1 % 2:Nat):Int):=by omega
    have eu:=bits_and_one (u:Int)
    have ex:=bits_and_one (x:Int)
    rw [du] at eu
    rw [dx] at ex
    have HK:Hid (signK u x 1=if u / 1 % 2=1∧x / 1 % 2=1 then-signK u x 0 else signK u x 0):=lh rfl
    have Hw:Hid (wrap64 (- signK u x 0)=- signK u x 0):=lh (by unfold wrap64;omega)
    clear du dx huv hin
    rcases bu with bu | bu <;> rcases bx with bx | bx
    all_goals
     rw [bu,bx] at HK
     rw [bu] at eu
     rw [bx] at ex
     clear bu bx
     go_wp2_with fail
     exact ⟨⟨1,by omega,rfl,by rw [HK.out];simp [Hw.out],trivial⟩,by simp [intOf]⟩
   ·obtain ⟨bu,bx⟩:=huv 2
    have du:((u:Int) / 2) % 2=((u / 2 % 2:Nat):Int):=by omega
    have dx:((x:Int) / 2) % 2=((x / 2 % 2:Nat):Int):=by omega
    have eu:=bits_and_one ((u:Int) / 2)
    have ex:=bits_and_one ((x:Int) / 2)
    rw [du] at eu
    rw [dx] at ex
    have HK:Hid (signK u x 2=if u / 2 % 2=1∧x / 2 % 2=1 then-signK u x 1 else signK u x 1):=lh rfl
    have Hw:Hid (wrap64 (- signK u x 1)=- signK u x 1):=lh (by unfold wrap64;omega)
    clear du dx huv hin
    rcases bu with bu | bu <;> rcases bx with bx | bx
    all_goals
     rw [bu,bx] at HK
     rw [bu] at eu
     rw [bx] at ex
     clear bu bx
     go_wp2_with fail
     exact ⟨⟨2,by omega,rfl,by rw [HK.out];simp [Hw.out],trivial⟩,by simp [intOf]⟩
   ·obtain ⟨bu,bx⟩:=huv 4
    have du:((u:Int) / 4) % 2=((u / 4 % 2:Nat):Int):=by omega
    have dx:((x:Int) / 4) % 2=((x / 4 % 2:Nat):Int):=by omega
    have eu:=bits_and_one ((u:Int) / 4)
    have ex:=bits_and_one ((x:Int) / 4)
    rw [du] at eu
    rw [dx] at ex
    have HK:Hid (signK u x 3=if u / 4 % 2=1∧x / 4 % 2=1 then-signK u x 2 else signK u x 2):=lh rfl
    have Hw:Hid (wrap64 (- signK u x 2)=- signK u x 2):=lh (by unfold wrap64;omega)
    clear du dx huv hin
    rcases bu with bu | bu <;> rcases bx with bx | bx
    all_goals
     rw [bu,bx] at HK
     rw [bu] at eu
     rw [bx] at ex
     clear bu bx
     go_wp2_with fail
     exact ⟨⟨3,by omega,rfl,by rw [HK.out];simp [Hw.out],trivial⟩,by simp [intOf]⟩
  ·obtain rfl:k=3:=by omega
   have hki:¬ ((3:Nat):Int)<3:=by omega
   go_wp2_with fail
   go_ret
   exact ⟨ret_int HS.out,rfl⟩
theorem kside_wht (k:Nat) (h:k=16∨k=64) (w:World):Calls Tryz.prog 197 #[.int .i64 k] w fun e w'=>e=.returned (.int .i64 (if k=16 then 4 else 8))∧w=w':=by
 rcases h with rfl | rfl
 ·go_enter Tryz.func197,Tryz.ntmps197
  go_wp2_with fail
  go_ret
  exact ⟨rfl,rfl⟩
 ·go_enter Tryz.func197,Tryz.ntmps197
  go_wp2_with fail
  go_ret
  exact ⟨rfl,rfl⟩
theorem tdiv_neg' (n b:Int) (hn:0≤n):(-n).tdiv b=-(n / b):=by rw [Int.neg_tdiv,Int.tdiv_eq_ediv_of_nonneg hn]
theorem tdiv_down (a:Int) (b:Nat) (hb:b=16∨b=64):(if a<a.tdiv (b:Int)*b then a.tdiv (b:Int)-1 else a.tdiv (b:Int))=a / (b:Int):=by
 by_cases ha:0≤a
 ·rw [Int.tdiv_eq_ediv_of_nonneg ha]
  rcases hb with rfl | rfl <;> split <;> omega
 ·obtain ⟨n,rfl⟩:∃ n,a=-n:=⟨-a,by omega⟩
  rw [tdiv_neg' n _ (by omega)]
  rcases hb with rfl | rfl <;> split <;> omega
theorem kdown_any (a:Int) (b:Nat) (hb:b=16∨b=64) (ha:-4000000000≤a∧a≤4000000000) (w:World):Calls Tryz.prog 208 #[.int .i64 a,.int .i64 b] w fun e w'=>e=.returned (.int .i64 (a / (b:Int)))∧w=w':=by
 have HD:=lh (tdiv_down a b hb)
 have hb0:¬ (b:Int)=0:=by omega
 have hbb:((b:Int) == 0)=false:=by rw [beq_eq_false_iff_ne];exact hb0
 have ht:-4000000000≤a.tdiv (b:Int)∧a.tdiv (b:Int)≤4000000000:=by
  by_cases h0:0≤a
  ·rw [Int.tdiv_eq_ediv_of_nonneg h0]
   rcases hb with rfl | rfl <;> omega
  ·obtain ⟨n,rfl⟩:∃ n,a=-n:=⟨-a,by omega⟩
   rw [tdiv_neg' n _ (by omega)]
   rcases hb with rfl | rfl <;> omega
 have hm:-400000000000≤a.tdiv (b:Int)*b∧a.tdiv (b:Int)*b≤400000000000:=by
  rcases hb with rfl | rfl <;> omega
 have hw1:IntKind.i64.wrap (a.tdiv (b:Int))=a.tdiv (b:Int):=by rw [IntKind.wrap_i64];omega
 have hw2:IntKind.i64.wrap (a.tdiv (b:Int)*b)=a.tdiv (b:Int)*b:=by rw [IntKind.wrap_i64];omega
 have hw3:IntKind.i64.wrap (a.tdiv (b:Int)-1)=a.tdiv (b:Int)-1:=by rw [IntKind.wrap_i64];omega
 obtain ⟨T,hT⟩:∃ T,T=a.tdiv (b:Int):=⟨_,rfl⟩
 rw [← hT] at HD hw1 hw2 hw3
 have eT:a.tdiv (b:Int)=T:=hT.symm
 obtain ⟨P,hP⟩:∃ P,P=T*b:=⟨_,rfl⟩
 have hw4:IntKind.i64.wrap (T*b)=P:=hw2.trans hP.symm
 rw [← hP] at HD
 clear ht hm hP ha hb hT hw2
 by_cases hlt:a<P
 ·rw [if_pos hlt] at HD
  go_enter Tryz.func208,Tryz.ntmps208
  go_wp2_with fail
  go_ret
  exact ⟨ret_int HD.out,rfl⟩
 ·rw [if_neg hlt] at HD
  go_enter Tryz.func208,Tryz.ntmps208
  go_wp2_with fail
  go_ret
  exact ⟨ret_int HD.out,rfl⟩
end
def termS (l:List Int) (n u v m:Nat):Int:=l.getD m 0*sgnD u (m % n)*sgnD v (m / n)
def psum (l:List Int) (n u v:Nat):Nat→Int
 | 0=>0
 | m+1=>psum l n u v m+termS l n u v m
theorem sgnD_in (u x:Nat):sgnD u x=1∨sgnD u x=-1:=by unfold sgnD;split <;> omega
theorem termS_in {l:List Int} {B:Int} (h:AbsLe B l) {n u v m:Nat} (hm:m<l.length):-B≤termS l n u v m∧termS l n u v m≤B:=by
 have:=h m hm
 unfold termS
 rcases sgnD_in u (m % n) with e | e <;> rcases sgnD_in v (m / n) with e' | e' <;> rw [e,e'] <;> omega
theorem psum_in {l:List Int} {B:Int} (h:AbsLe B l) (n u v:Nat):∀ m:Nat,m≤l.length→-(m*B)≤psum l n u v m∧psum l n u v m≤m*B
 | 0,_=>by simp [psum]
 | m+1,hm=>by
  have ih:=psum_in h n u v m (by omega)
  have ht:=termS_in (n:=n) (u:=u) (v:=v) h (show m<l.length by omega)
  have e:((m+1:Nat):Int)*B=m*B+B:=by rw [Int.natCast_add,Int.add_mul];simp
  rw [e]
  unfold psum
  omega
theorem dotD_append {a b c d:List Int} (h:a.length=c.length):dotD (a ++ b) (c ++ d)=dotD a c+dotD b d:=by
 unfold dotD
 rw [List.zipWith_append h,List.sum_append]
theorem dot_range (f:Nat→Int) (l:List Int):∀ m:Nat,m+1≤l.length→dotD ((List.range (m+1)).map f) (l.take (m+1))=dotD ((List.range m).map f) (l.take m)+f m*l.getD m 0:=by
 intro m hm
 rw [List.range_succ,List.map_append,List.take_succ_eq_append_getElem (by omega),dotD_append (by rw [List.length_map,List.length_range,List.length_take];omega),List.getD_eq_getElem?_getD,List.getElem?_eq_getElem (by omega)]
 simp [dotD]
theorem psum_dot {l:List Int} {n k:Nat}:∀ m:Nat,m≤l.length→dotD ((List.range m).map fun i=>sgnD (k % n) (i % n)*sgnD (k / n) (i / n)) (l.take m)=psum l n (k % n) (k / n) m
 | 0,_=>by simp [dotD,psum]
 | m+1,hm=>by
  rw [dot_range _ l m hm,psum_dot m (by omega)]
  show _=psum l n (k % n) (k / n) m+termS l n (k % n) (k / n) m
  unfold termS
  rw [Int.mul_comm _ (l.getD m 0),Int.mul_assoc]
def sumsD (n:Nat) (l:List Int):List Int:=(List.range (n*n)).map fun k=>dotD (sgnRow n k) l
theorem sumsD_len (n:Nat) (l:List Int):(sumsD n l).length=n*n:=by simp [sumsD]
theorem sumsD_at {n:Nat} {l:List Int} (hl:l.length=n*n) {k:Nat} (hk:k<n*n):(sumsD n l).getD k 0=psum l n (k % n) (k / n) (n*n):=by
 rw [← psum_dot (l:=l) (n*n) (by omega),List.take_of_length_le (by omega),List.getD_eq_getElem?_getD,sumsD,List.getElem?_map,List.getElem?_range hk]
 rfl
def stS (D:List Int) (N K:Nat):List Int:=D.take K ++ List.replicate (N-K) 0
theorem stS_len {D:List Int} {N K:Nat} (hD:D.length=N) (hK:K≤N):(stS D N K).length=N:=by simp [stS];omega
theorem stS_at {D:List Int} {N K:Nat} (hD:D.length=N) (hK:K<N):(stS D N K).getD K 0=0:=by
 unfold stS
 rw [List.getD_eq_getElem?_getD,List.getElem?_append_right (by rw [List.length_take];omega),List.getElem?_replicate]
 split <;> rfl
theorem stS_zero {D:List Int} {N K:Nat} (hD:D.length=N) (hK:K<N):(stS D N K).set K 0=stS D N K:=by
 refine List.ext_getElem? fun i=>?_
 rw [List.getElem?_set]
 split
 ·rename_i h;subst h
  have h1:=stS_at hD hK
  have h2:=stS_len (K:=K) hD (by omega)
  rw [if_pos (by omega)]
  rw [List.getD_eq_getElem?_getD] at h1
  rw [List.getElem?_eq_getElem (by omega)] at h1 ⊢
  simpa using h1.symm
 ·rfl
theorem stS_next {D:List Int} {N K:Nat} (hD:D.length=N) (hK:K<N):(stS D N K).set K (D.getD K 0)=stS D N (K+1):=by
 unfold stS
 have h1:(D.take K).length=K:=by rw [List.length_take];omega
 obtain ⟨m,hm⟩:∃ m,N-K=m+1:=⟨N-K-1,by omega⟩
 rw [hm,show N-(K+1)=m by omega,List.set_append_right _ _ (by omega),h1,Nat.sub_self,List.replicate_succ,List.set_cons_zero,List.take_succ_eq_append_getElem (by omega),List.append_assoc,List.getD_eq_getElem?_getD,List.getElem?_eq_getElem (by omega)]
 rfl
theorem stS_all {D:List Int} {N:Nat} (hD:D.length=N):stS D N N=D:=by simp [stS,← hD]
section
theorem qDRSu0 {p:Prop} (h:p:=by
 clear hs1 hs2 hin hqb hc1 hc1b hte hps hgp hpb htb hcb hs1b hs2b hmb hm hmN hlen hqq
 go_wp2_with fail
 refine wp_region_still_tail 25 (by kernel_rfl) (by kernel_rfl) ?_
 simp only [List.take_succ_cons,List.take_zero,List.drop_succ_cons,List.drop_zero]
 repeat (still_step;(try simp only [Act.put,List.setIfInBounds_toArray,List.set_cons_zero,List.set_cons_succ]))
 still_call ((HSu.out _).mono fun e w' h=>⟨h.1,h.2.symm⟩)
 repeat (still_step;(try simp only [Act.put,List.setIfInBounds_toArray,List.set_cons_zero,List.set_cons_succ]))
 still_call ((HSv.out _).mono fun e w' h=>⟨h.1,h.2.symm⟩)
 repeat (still_step;(try simp only [Act.put,List.setIfInBounds_toArray,List.set_cons_zero,List.set_cons_succ]))
 try refine wpStill_nil ?_
 go_wp2_with fail
 refine ⟨⟨x+1,by have:=Hx.out;omega,by go_num,lh ?_,lh ((HQx.out.trans HS2.out (U:=[]) (by simp) (fun g hg hlt=>by rw [mSg] at hg;omega)).drew)⟩,by simp [intOf];have:=Hx.out;omega⟩
 rw [Hpx.out,Hqq.out]
 exact HS1.out.quiet (Only.refl _ _).drew):p:=h
theorem ksums4_any {lo hi:Nat} {v:Value} {l:List Int} {w:World} (h:Ints .i64 lo hi w v l) (hl:l.length=16) (hb:AbsLe 6266880 l):Calls Tryz.prog 198 #[v,.int .i64 4] w fun e w'=>((∃ v',e=.returned v'∧Own .i64 3 w.heap.size w' v' (sumsD 4 l))∧Only [] w w'):=by
 refine hidQ fun Q HPost=>?_
 obtain ⟨a,cap,rfl,-,-,hat,hcell⟩:=h.open
 obtain ⟨b,off,rfl,-,-⟩:=hat 0 (by omega)
 have HCell:=lh (fun m (hm:m<16)=>hcell b off rfl m (by omega))
 have Hb0:=lh (block_lt_of_cell (HCell.out 0 (by omega)))
 have HB:=lh hb
 have HL:=lh hl
 have HDl:=lh (sumsD_len 4 l)
 have HDa:=lh (fun k (hk:k<16)=>sumsD_at (n:=4) (by rw [hl]) hk)
 rw [hl]
 clear h hl hb hat hcell
 generalize sumsD 4 l=D at *
 have hmk:∀ wz:World,(Instr.makeSlice 22 (.int .i64 16) (.int .i64 16)).run Tryz.prog wz=.ok (.slice (some ⟨wz.heap.size,0,none⟩) 16 16) (wz.alloc (.cells (madeCells #[.int .i64 0] 16) 3)):=fun wz=>run_make_row' (P:=Tryz.prog) 22 3 (.int .i64 0) 8 EI.ut (by kernel_rfl) rfl .i64 .i64 16 (by omega) (by omega) wz
 have hmade:=own_made .i64 3 w 16 (by simp [maxLen])
 have HM:Hid (Own .i64 3 w.heap.size (w.alloc (.cells (madeCells #[.int .i64 0] 16) 3)) (.slice (some ⟨w.heap.size,0,none⟩) 16 16) (stS D 16 0)):=lh (by rw [show stS D 16 0=List.replicate 16 0 by simp [stS]];exact hmade)
 have HQ1:=lh (Only.new w (.cells (madeCells #[.int .i64 0] 16) 3))
 have hw4:IntKind.i64.wrap (4*4)=16:=by decide
 clear hmade
 go_enter Tryz.func198,Tryz.ntmps198
 go_wp2_with fail
 clear hmk
 generalize hW1:World.alloc w _=W1 at *
 clear hW1
 go_loopw [6,7,8,9] (fun i _ _ _ wr=>∃ v:Nat,v≤4∧i=.int .i64 v∧Hid (Own .i64 3 w.heap.size wr (.slice (some ⟨w.heap.size,0,none⟩) 16 16) (stS D 16 (v*4)))∧Hid (Only [] w wr)) (fun i _ _ _ _=>4-(intOf i).toNat)
 case atStart=>exact ⟨0,by omega,rfl,by rw [Nat.zero_mul];exact HM,HQ1⟩
 case round =>
  obtain ⟨v,hv,rfl,HOv,HQv⟩:=hrel
  by_cases hvlt:v<4
  ·have hvi:(v:Int)<4:=by omega
   have hv0:(0:Int)≤(v:Int):=by omega
   go_wp2_with fail
   go_loopw [7,8,9] (fun i _ _ wr=>∃ u:Nat,u≤4∧i=.int .i64 u∧Hid (Own .i64 3 w.heap.size wr (.slice (some ⟨w.heap.size,0,none⟩) 16 16) (stS D 16 (v*4+u)))∧Hid (Only [] w wr)) (fun i _ _ _=>4-(intOf i).toNat)
   case atStart=>exact ⟨0,by omega,rfl,HOv,HQv⟩
   case round =>
    obtain ⟨u,hu,rfl,HOu,HQu⟩:=hrel
    by_cases hult:u<4
    ·have hui:(u:Int)<4:=by omega
     have hu0:(0:Int)≤(u:Int):=by omega
     obtain ⟨K,hK⟩:∃ K,K=v*4+u:=⟨_,rfl⟩
     rw [← hK] at HOu
     have e1:IntKind.i64.wrap ((v:Int)*4)=(v:Int)*4:=by rw [IntKind.wrap_i64];omega
     have e2:(v:Int)*4+(u:Int)=(K:Int):=by omega
     have e5:IntKind.i64.wrap (K:Int)=(K:Int):=by rw [IntKind.wrap_i64];omega
     have hK0:(0:Int)≤(K:Int):=by omega
     have hKi:(K:Int)<16:=by omega
     have HO0:Hid (Own .i64 3 w.heap.size wr (.slice (some ⟨w.heap.size,0,none⟩) 16 16) ((stS D 16 K).set K (psum l 4 u v (0*4)))):=lh (by rw [Nat.zero_mul,show psum l 4 u v 0=0 from rfl,stS_zero HDl.out (by omega)];exact HOu.out)
     have HK:=lh hK
     clear hK
     go_wp2_with fail
     go_loopw [8,9] (fun i _ wr=>∃ y:Nat,y≤4∧i=.int .i64 y∧Hid (Own .i64 3 w.heap.size wr (.slice (some ⟨w.heap.size,0,none⟩) 16 16) ((stS D 16 K).set K (psum l 4 u v (y*4))))∧Hid (Only [] w wr)) (fun i _ _=>4-(intOf i).toNat)
     case atStart=>exact ⟨0,by omega,rfl,HO0,HQu⟩
     case round =>
      obtain ⟨y,hy,rfl,HOy,HQy⟩:=hrel
      by_cases hylt:y<4
      ·have hyi:(y:Int)<4:=by omega
       have hy0:(0:Int)≤(y:Int):=by omega
       go_wp2_with fail
       go_loopw [9] (fun i wr=>∃ x:Nat,x≤4∧i=.int .i64 x∧Hid (Own .i64 3 w.heap.size wr (.slice (some ⟨w.heap.size,0,none⟩) 16 16) ((stS D 16 K).set K (psum l 4 u v (y*4+x))))∧Hid (Only [] w wr)) (fun i _=>4-(intOf i).toNat)
       case atStart=>exact ⟨0,by omega,rfl,HOy,HQy⟩
       case round =>
        obtain ⟨x,hx,rfl,HOx,HQx⟩:=hrel
        by_cases hxlt:x<4
        ·have hxi:(x:Int)<4:=by omega
         have hx0:(0:Int)≤(x:Int):=by omega
         have Hx:=lh hxlt
         obtain ⟨m,hm⟩:∃ m,m=y*4+x:=⟨_,rfl⟩
         have hmN:m<16:=by omega
         have e3:IntKind.i64.wrap ((y:Int)*4)=(y:Int)*4:=by rw [IntKind.wrap_i64];omega
         have e4:(y:Int)*4+(x:Int)=(m:Int):=by omega
         have e6:IntKind.i64.wrap (m:Int)=(m:Int):=by rw [IntKind.wrap_i64];omega
         have hm0:(0:Int)≤(m:Int):=by omega
         have hmi:(m:Int)<16:=by omega
         rw [← hm] at HOx
         have hlen:((stS D 16 K).set K (psum l 4 u v m)).length=16:=by rw [List.length_set];exact stS_len HDl.out (by omega)
         have cx:=HOx.out.cellS hlen.symm (i:=K) (by omega)
         have fx:=HOx.out.frzS hlen.symm K
         have cb:=HQx.out.cell (HCell.out m hmN) (by simp)
         have hpb:=psum_in HB.out 4 u v m (by rw [HL.out];omega)
         have htb:=termS_in (n:=4) (u:=u) (v:=v) HB.out (show m<l.length by rw [HL.out];omega)
         have hcb:=HB.out m (by rw [HL.out];omega)
         have hps:psum l 4 u v (m+1)=psum l 4 u v m+termS l 4 u v m:=rfl
         have hte:termS l 4 u v m=l.getD m 0*sgnD u x*sgnD v y:=by unfold termS;rw [show m % 4=x by omega,show m / 4=y by omega]
         have hgp:((stS D 16 K).set K (psum l 4 u v m)).getD K 0=psum l 4 u v m:=by
          rw [List.getD_eq_getElem?_getD,List.getElem?_set_self (by rw [stS_len HDl.out (by omega)];omega)]
          rfl
         rw [hgp] at cx
         have hmb:(m:Int)*6266880≤15*6266880:=Int.mul_le_mul_of_nonneg_right (by omega) (by omega)
         have hs1b:=sgnD_in u x
         have hs2b:=sgnD_in v y
         have HSu:=lh (fun W=>ksign_any u x (by omega) (by omega) W)
         have HSv:=lh (fun W=>ksign_any v y (by omega) (by omega) W)
         generalize l.getD m 0=c at *
         generalize sgnD u x=s1 at *
         generalize sgnD v y=s2 at *
         generalize termS l 4 u v m=T at *
         obtain ⟨c1,hc1⟩:∃ c1,c1=c*s1:=⟨_,rfl⟩
         have hc1b:-6266880≤c1∧c1≤6266880:=by rcases hs1b with e | e <;> rw [e] at hc1 <;> omega
         rw [← hc1] at hte
         have n1:IntKind.i64.wrap (c*s1)=c1:=by rw [← hc1,IntKind.wrap_i64];omega
         have n2:IntKind.i64.wrap (c1*s2)=T:=by rw [← hte,IntKind.wrap_i64];omega
         have hqb:-401080320≤psum l 4 u v (m+1)∧psum l 4 u v (m+1)≤401080320:=by omega
         have n3:IntKind.i64.wrap (psum l 4 u v m+T)=psum l 4 u v (m+1):=by rw [← hps,IntKind.wrap_i64];omega
         have Hpx:Hid (y*4+(x+1)=m+1):=lh (by omega)
         generalize hqq:psum l 4 u v (m+1)=q at *
         have hin:InK .i64 q:=by simp only [InK];omega
         obtain ⟨hs1,hs2⟩:=HOx.out.storeS hlen.symm hin K
         rw [List.set_set] at hs1
         have HS1:=lh hs1
         have HS2:=lh hs2
         have Hqq:=lh hqq
         generalize psum l 4 u v m=p at *
         exact qDRSu0
        ·obtain rfl:x=4:=by omega
         have hxi:¬ ((4:Nat):Int)<4:=by omega
         go_wp2_with fail
         exact ⟨⟨y+1,by omega,by go_num,by rw [show (y+1)*4=y*4+4 by omega];exact HOx,HQx⟩,by simp [intOf];omega⟩
      ·obtain rfl:y=4:=by omega
       have hyi:¬ ((4:Nat):Int)<4:=by omega
       have hK:=HK.out
       have hD:=HDa.out K (by omega)
       rw [show K % 4=u by omega,show K / 4=v by omega] at hD
       have hnx:=stS_next HDl.out (show K<16 by omega)
       rw [hD] at hnx
       have HOn:Hid (Own .i64 3 w.heap.size wr (.slice (some ⟨w.heap.size,0,none⟩) 16 16) (stS D 16 (K+1))):=lh (by rw [← hnx];exact HOy.out)
       clear hD hnx hK
       go_wp2_with fail
       exact ⟨⟨u+1,by omega,by go_num,by rw [show v*4+(u+1)=K+1 by have:=HK.out;omega];exact HOn,HQy⟩,by simp [intOf];omega⟩
    ·obtain rfl:u=4:=by omega
     have hui:¬ ((4:Nat):Int)<4:=by omega
     go_wp2_with fail
     exact ⟨⟨v+1,by omega,by go_num,by rw [show (v+1)*4=v*4+4 by omega];exact HOu,HQu⟩,by simp [intOf];omega⟩
  ·obtain rfl:v=4:=by omega
   have hvi:¬ ((4:Nat):Int)<4:=by omega
   go_wp2_with fail
   refine HPost.out _ _ ⟨⟨_,rfl,?_⟩,HQv.out⟩
   have:=HOv.out
   rw [show 4*4=16 from rfl,stS_all HDl.out] at this
   exact this
theorem ksums8_any {lo hi:Nat} {v:Value} {l:List Int} {w:World} (h:Ints .i64 lo hi w v l) (hl:l.length=64) (hb:AbsLe 6266880 l):Calls Tryz.prog 198 #[v,.int .i64 8] w fun e w'=>((∃ v',e=.returned v'∧Own .i64 3 w.heap.size w' v' (sumsD 8 l))∧Only [] w w'):=by
 refine hidQ fun Q HPost=>?_
 obtain ⟨a,cap,rfl,-,-,hat,hcell⟩:=h.open
 obtain ⟨b,off,rfl,-,-⟩:=hat 0 (by omega)
 have HCell:=lh (fun m (hm:m<64)=>hcell b off rfl m (by omega))
 have Hb0:=lh (block_lt_of_cell (HCell.out 0 (by omega)))
 have HB:=lh hb
 have HL:=lh hl
 have HDl:=lh (sumsD_len 8 l)
 have HDa:=lh (fun k (hk:k<64)=>sumsD_at (n:=8) (by rw [hl]) hk)
 rw [hl]
 clear h hl hb hat hcell
 generalize sumsD 8 l=D at *
 have hmk:∀ wz:World,(Instr.makeSlice 22 (.int .i64 64) (.int .i64 64)).run Tryz.prog wz=.ok (.slice (some ⟨wz.heap.size,0,none⟩) 64 64) (wz.alloc (.cells (madeCells #[.int .i64 0] 64) 3)):=fun wz=>run_make_row' (P:=Tryz.prog) 22 3 (.int .i64 0) 8 EI.ut (by kernel_rfl) rfl .i64 .i64 64 (by omega) (by omega) wz
 have hmade:=own_made .i64 3 w 64 (by simp [maxLen])
 have HM:Hid (Own .i64 3 w.heap.size (w.alloc (.cells (madeCells #[.int .i64 0] 64) 3)) (.slice (some ⟨w.heap.size,0,none⟩) 64 64) (stS D 64 0)):=lh (by rw [show stS D 64 0=List.replicate 64 0 by simp [stS]];exact hmade)
 have HQ1:=lh (Only.new w (.cells (madeCells #[.int .i64 0] 64) 3))
 have hw8:IntKind.i64.wrap (8*8)=64:=by decide
 clear hmade
 go_enter Tryz.func198,Tryz.ntmps198
 go_wp2_with fail
 clear hmk
 generalize hW1:World.alloc w _=W1 at *
 clear hW1
 go_loopw [6,7,8,9] (fun i _ _ _ wr=>∃ v:Nat,v≤8∧i=.int .i64 v∧Hid (Own .i64 3 w.heap.size wr (.slice (some ⟨w.heap.size,0,none⟩) 64 64) (stS D 64 (v*8)))∧Hid (Only [] w wr)) (fun i _ _ _ _=>8-(intOf i).toNat)
 case atStart=>exact ⟨0,by omega,rfl,by rw [Nat.zero_mul];exact HM,HQ1⟩
 case round =>
  obtain ⟨v,hv,rfl,HOv,HQv⟩:=hrel
  by_cases hvlt:v<8
  ·have hvi:(v:Int)<8:=by omega
   have hv0:(0:Int)≤(v:Int):=by omega
   go_wp2_with fail
   go_loopw [7,8,9] (fun i _ _ wr=>∃ u:Nat,u≤8∧i=.int .i64 u∧Hid (Own .i64 3 w.heap.size wr (.slice (some ⟨w.heap.size,0,none⟩) 64 64) (stS D 64 (v*8+u)))∧Hid (Only [] w wr)) (fun i _ _ _=>8-(intOf i).toNat)
   case atStart=>exact ⟨0,by omega,rfl,HOv,HQv⟩
   case round =>
    obtain ⟨u,hu,rfl,HOu,HQu⟩:=hrel
    by_cases hult:u<8
    ·have hui:(u:Int)<8:=by omega
     have hu0:(0:Int)≤(u:Int):=by omega
     obtain ⟨K,hK⟩:∃ K,K=v*8+u:=⟨_,rfl⟩
     rw [← hK] at HOu
     have e1:IntKind.i64.wrap ((v:Int)*8)=(v:Int)*8:=by rw [IntKind.wrap_i64];omega
     have e2:(v:Int)*8+(u:Int)=(K:Int):=by omega
     have e5:IntKind.i64.wrap (K:Int)=(K:Int):=by rw [IntKind.wrap_i64];omega
     have hK0:(0:Int)≤(K:Int):=by omega
     have hKi:(K:Int)<64:=by omega
     have HO0:Hid (Own .i64 3 w.heap.size wr (.slice (some ⟨w.heap.size,0,none⟩) 64 64) ((stS D 64 K).set K (psum l 8 u v (0*8)))):=lh (by rw [Nat.zero_mul,show psum l 8 u v 0=0 from rfl,stS_zero HDl.out (by omega)];exact HOu.out)
     have HK:=lh hK
     clear hK
     go_wp2_with fail
     go_loopw [8,9] (fun i _ wr=>∃ y:Nat,y≤8∧i=.int .i64 y∧Hid (Own .i64 3 w.heap.size wr (.slice (some ⟨w.heap.size,0,none⟩) 64 64) ((stS D 64 K).set K (psum l 8 u v (y*8))))∧Hid (Only [] w wr)) (fun i _ _=>8-(intOf i).toNat)
     case atStart=>exact ⟨0,by omega,rfl,HO0,HQu⟩
     case round =>
      obtain ⟨y,hy,rfl,HOy,HQy⟩:=hrel
      by_cases hylt:y<8
      ·have hyi:(y:Int)<8:=by omega
       have hy0:(0:Int)≤(y:Int):=by omega
       go_wp2_with fail
       go_loopw [9] (fun i wr=>∃ x:Nat,x≤8∧i=.int .i64 x∧Hid (Own .i64 3 w.heap.size wr (.slice (some ⟨w.heap.size,0,none⟩) 64 64) ((stS D 64 K).set K (psum l 8 u v (y*8+x))))∧Hid (Only [] w wr)) (fun i _=>8-(intOf i).toNat)
       case atStart=>exact ⟨0,by omega,rfl,HOy,HQy⟩
       case round =>
        obtain ⟨x,hx,rfl,HOx,HQx⟩:=hrel
        by_cases hxlt:x<8
        ·have hxi:(x:Int)<8:=by omega
         have hx0:(0:Int)≤(x:Int):=by omega
         have Hx:=lh hxlt
         obtain ⟨m,hm⟩:∃ m,m=y*8+x:=⟨_,rfl⟩
         have hmN:m<64:=by omega
         have e3:IntKind.i64.wrap ((y:Int)*8)=(y:Int)*8:=by rw [IntKind.wrap_i64];omega
         have e4:(y:Int)*8+(x:Int)=(m:Int):=by omega
         have e6:IntKind.i64.wrap (m:Int)=(m:Int):=by rw [IntKind.wrap_i64];omega
         have hm0:(0:Int)≤(m:Int):=by omega
         have hmi:(m:Int)<64:=by omega
         rw [← hm] at HOx
         have hlen:((stS D 64 K).set K (psum l 8 u v m)).length=64:=by rw [List.length_set];exact stS_len HDl.out (by omega)
         have cx:=HOx.out.cellS hlen.symm (i:=K) (by omega)
         have fx:=HOx.out.frzS hlen.symm K
         have cb:=HQx.out.cell (HCell.out m hmN) (by simp)
         have hpb:=psum_in HB.out 8 u v m (by rw [HL.out];omega)
         have htb:=termS_in (n:=8) (u:=u) (v:=v) HB.out (show m<l.length by rw [HL.out];omega)
         have hcb:=HB.out m (by rw [HL.out];omega)
         have hps:psum l 8 u v (m+1)=psum l 8 u v m+termS l 8 u v m:=rfl
         have hte:termS l 8 u v m=l.getD m 0*sgnD u x*sgnD v y:=by unfold termS;rw [show m % 8=x by omega,show m / 8=y by omega]
         have hgp:((stS D 64 K).set K (psum l 8 u v m)).getD K 0=psum l 8 u v m:=by
          rw [List.getD_eq_getElem?_getD,List.getElem?_set_self (by rw [stS_len HDl.out (by omega)];omega)]
          rfl
         rw [hgp] at cx
         have hmb:(m:Int)*6266880≤63*6266880:=Int.mul_le_mul_of_nonneg_right (by omega) (by omega)
         have hs1b:=sgnD_in u x
         have hs2b:=sgnD_in v y
         have HSu:=lh (fun W=>ksign_any u x (by omega) (by omega) W)
         have HSv:=lh (fun W=>ksign_any v y (by omega) (by omega) W)
         generalize l.getD m 0=c at *
         generalize sgnD u x=s1 at *
         generalize sgnD v y=s2 at *
         generalize termS l 8 u v m=T at *
         obtain ⟨c1,hc1⟩:∃ c1,c1=c*s1:=⟨_,rfl⟩
         have hc1b:-6266880≤c1∧c1≤6266880:=by rcases hs1b with e | e <;> rw [e] at hc1 <;> omega
         rw [← hc1] at hte
         have n1:IntKind.i64.wrap (c*s1)=c1:=by rw [← hc1,IntKind.wrap_i64];omega
         have n2:IntKind.i64.wrap (c1*s2)=T:=by rw [← hte,IntKind.wrap_i64];omega
         have hqb:-401080320≤psum l 8 u v (m+1)∧psum l 8 u v (m+1)≤401080320:=by omega
         have n3:IntKind.i64.wrap (psum l 8 u v m+T)=psum l 8 u v (m+1):=by rw [← hps,IntKind.wrap_i64];omega
         have Hpx:Hid (y*8+(x+1)=m+1):=lh (by omega)
         generalize hqq:psum l 8 u v (m+1)=q at *
         have hin:InK .i64 q:=by simp only [InK];omega
         obtain ⟨hs1,hs2⟩:=HOx.out.storeS hlen.symm hin K
         rw [List.set_set] at hs1
         have HS1:=lh hs1
         have HS2:=lh hs2
         have Hqq:=lh hqq
         generalize psum l 8 u v m=p at *
         exact qDRSu0
        ·obtain rfl:x=8:=by omega
         have hxi:¬ ((8:Nat):Int)<8:=by omega
         go_wp2_with fail
         exact ⟨⟨y+1,by omega,by go_num,by rw [show (y+1)*8=y*8+8 by omega];exact HOx,HQx⟩,by simp [intOf];omega⟩
      ·obtain rfl:y=8:=by omega
       have hyi:¬ ((8:Nat):Int)<8:=by omega
       have hK:=HK.out
       have hD:=HDa.out K (by omega)
       rw [show K % 8=u by omega,show K / 8=v by omega] at hD
       have hnx:=stS_next HDl.out (show K<64 by omega)
       rw [hD] at hnx
       have HOn:Hid (Own .i64 3 w.heap.size wr (.slice (some ⟨w.heap.size,0,none⟩) 64 64) (stS D 64 (K+1))):=lh (by rw [← hnx];exact HOy.out)
       clear hD hnx hK
       go_wp2_with fail
       exact ⟨⟨u+1,by omega,by go_num,by rw [show v*8+(u+1)=K+1 by have:=HK.out;omega];exact HOn,HQy⟩,by simp [intOf];omega⟩
    ·obtain rfl:u=8:=by omega
     have hui:¬ ((8:Nat):Int)<8:=by omega
     go_wp2_with fail
     exact ⟨⟨v+1,by omega,by go_num,by rw [show (v+1)*8=v*8+8 by omega];exact HOu,HQu⟩,by simp [intOf];omega⟩
  ·obtain rfl:v=8:=by omega
   have hvi:¬ ((8:Nat):Int)<8:=by omega
   go_wp2_with fail
   refine HPost.out _ _ ⟨⟨_,rfl,?_⟩,HQv.out⟩
   have:=HOv.out
   rw [show 8*8=64 from rfl,stS_all HDl.out] at this
   exact this
end
def mixS (I S:List Int) (k:Nat):List Int:=I.take k ++ S.drop k
theorem mixS_len {I S:List Int} {N k:Nat} (hI:I.length=N) (hS:S.length=N) (hk:k≤N):(mixS I S k).length=N:=by simp [mixS];omega
theorem mixS_at {I S:List Int} {N k:Nat} (hI:I.length=N) (hS:S.length=N) (hk:k<N):(mixS I S k).getD k 0=S.getD k 0:=by
 unfold mixS
 rw [List.getD_eq_getElem?_getD,List.getElem?_append_right (by rw [List.length_take];omega),List.length_take,Nat.min_eq_left (by omega),Nat.sub_self,List.getElem?_drop,List.getD_eq_getElem?_getD]
 rfl
theorem mixS_next {I S:List Int} {N k:Nat} (hI:I.length=N) (hS:S.length=N) (hk:k<N):(mixS I S k).set k (I.getD k 0)=mixS I S (k+1):=by
 unfold mixS
 have h1:(I.take k).length=k:=by rw [List.length_take];omega
 rw [List.set_append_right _ _ (by omega),h1,Nat.sub_self,List.drop_eq_getElem_cons (show k<S.length by omega),List.set_cons_zero,List.take_succ_eq_append_getElem (by omega),List.append_assoc,List.getD_eq_getElem?_getD,List.getElem?_eq_getElem (by omega)]
 rfl
theorem within_abs {l:List Int} {B:Int} (h:AbsLe B l) {x y:Int} (hx:x≤-B) (hy:B≤y):withinB l x y=true:=by
 unfold withinB
 rw [List.all_eq_true]
 intro z hz
 obtain ⟨i,hi,rfl⟩:=List.mem_iff_getElem.1 hz
 have:=h i hi
 rw [List.getD_eq_getElem?_getD,List.getElem?_eq_getElem hi] at this
 simp only [Option.getD_some] at this
 simp
 omega
theorem inverse_sums {n:Nat} (hn:n=4∨n=8) {l:List Int} (hl:l.length=n*n):inverseD l=(sumsD n l).map fun v=>(v+((n*n:Nat):Int) / 2) / ((n*n:Nat):Int):=by
 unfold inverseD
 rw [turnD_sums hn hl,hl]
 rfl
theorem sums_abs {n:Nat} {l:List Int} (hl:l.length=n*n) (h:AbsLe 6266880 l) (hn:n*n≤64):AbsLe 401080320 (sumsD n l):=by
 intro k hk
 rw [sumsD_len] at hk
 rw [sumsD_at hl hk]
 have:=psum_in h n (k % n) (k / n) (n*n) (by omega)
 have hm:((n*n:Nat):Int)*6266880≤64*6266880:=Int.mul_le_mul_of_nonneg_right (by omega) (by omega)
 omega
section
theorem qDRIn0 {p:Prop} (h:p:=by
 rw [hm] at HOk
 clear hm
 have hre:=HQk.out.rowAt HE2.out (by rw [mSg];have:=Hgw.out;omega)
 obtain ⟨z0,z1,y0,y1,-⟩:=row2 hre
 have Hre:=lh hre
 clear hre
 go_wp2_with fail
 obtain ⟨hrow,hon⟩:=row2_set (x:=.int .i64 0) (y:=.slice none 0 0) Hre.out
 refine bodyPost_ret (results_tmp_cell Tryz.results171 _ _ w.heap.size _ _ _ _ _ rfl rfl hrow Tryz.underlying39 rfl (err_info _ rfl)) rfl (HPost.out _ _ ⟨⟨_,rfl,?_⟩,?_⟩)
 ·exact (HOk.out.only hon (fun x hx hh=>by rw [mSg] at hx;subst hx;simp only [Value.ownBlock] at hh;injection hh with hh;have:=Hgw.out;omega)).lower HQ1.out.size
 ·exact ((HQ2.out.trans HQk.out (U:=[]) (by simp) (fun x hx hlt=>by rw [mSg] at hx;have:=Hgw.out;omega)).trans hon (U:=[]) (by simp) (fun x hx hlt=>by rw [mSg] at hx;omega))):p:=h
theorem qDRIn1 {p:Prop} (h:p:=by
 clear hs1 hs2 hin hnx hia hlen hlt
 go_wp2_with fail
 go_at_call 208
 refine (HDn.out _).mono ?_
 rintro e w' ⟨rfl,rfl⟩
 go_wp2_with fail
 exact ⟨⟨k+1,by have:=Hlt.out;omega,by go_num,HS1,lh (HQk.out.trans HS2.out (fun _ h _=>h) (fun _ h _=>h))⟩,by simp [intOf];have:=Hlt.out;omega⟩):p:=h
theorem kinverse4_any {lo hi:Nat} {v:Value} {l:List Int} {w:World} (h:Ints .i64 lo hi w v l) (hl:l.length=16) (hb:AbsLe 6266880 l):Calls Tryz.prog 171 #[v] w fun e w'=>((∃ v',e=.returned (.tuple #[v',.agg #[.int .i64 0,.slice none 0 0]])∧Own .i64 3 w.heap.size w' v' (inverseD l))∧Only [] w w'):=by
 refine hidQ fun Q HPost=>?_
 have hq1:=Only.new w (.cells #[.int .i64 0,.slice none 0 0] 39)
 have HR1:Hid ((w.alloc (.cells #[.int .i64 0,.slice none 0 0] 39)).heap[w.heap.size]?=some (.cells #[.int .i64 0,.slice none 0 0] 39 (0,0))):=lh (heap_alloc_new w _)
 have Hz1:Hid ((w.alloc (.cells #[.int .i64 0,.slice none 0 0] 39)).heap.size=w.heap.size+1):=lh (by simp)
 have HI:=lh (fun (W:World) (o:Only [] (w.alloc (.cells #[.int .i64 0,.slice none 0 0] 39)) W)=>h.quiet (hq1.q o))
 have HWi:=lh (within_abs hb (show (-16777216:Int)≤-6266880 by omega) (show (6266880:Int)≤16777216 by omega))
 have HSu:=lh (fun (W:World) (o:Only [] (w.alloc (.cells #[.int .i64 0,.slice none 0 0] 39)) W)=>ksums4_any (HI.out W o) hl hb)
 have HSd:Hid (∀ W,Calls Tryz.prog 197 #[.int .i64 16] W fun e w'=>e=.returned (.int .i64 4)∧W=w'):=lh (fun W=>kside_wht 16 (by omega) W)
 have HSl:=lh (show (sumsD 4 l).length=16 from sumsD_len 4 l)
 have HSb:=lh (sums_abs (n:=4) hl hb (by omega))
 have HIl:Hid ((inverseD l).length=16):=lh (by rw [inverseD_len,hl])
 have HIa:Hid (∀ k,k<16→(inverseD l).getD k 0=((sumsD 4 l).getD k 0+8) / 16):=lh (fun k hk=>by
  rw [inverse_sums (n:=4) (by omega) hl,List.getD_eq_getElem?_getD,List.getElem?_map,List.getElem?_eq_getElem (by rw [sumsD_len];exact hk),List.getD_eq_getElem?_getD,List.getElem?_eq_getElem (by rw [sumsD_len];exact hk)]
  rfl)
 obtain ⟨a,cap,rfl,-⟩:=h.open
 rw [hl] at HI HSu ⊢
 have HQ1:=lh hq1
 clear h hb hq1
 generalize sumsD 4 l=S at *
 generalize inverseD l=I at *
 go_enter Tryz.func171,Tryz.ntmps171
 go_wp2_with fail
 generalize hW1:World.alloc w _=W1 at *
 clear hW1
 go_at_call 197
 refine (HSd.out _).mono ?_
 rintro e w' ⟨rfl,rfl⟩
 go_wp2_with fail
 go_at_call 26
 refine (within_any (-16777216) 16777216 (HI.out W1 (Only.refl _ _))).mono ?_
 rintro e w' ⟨rfl,rfl⟩
 rw [HWi.out]
 go_wp2_with fail
 go_at_call 198
 refine (HSu.out W1 (Only.refl _ _)).mono ?_
 rintro e w2 ⟨⟨v2,rfl,hown⟩,hq2⟩
 obtain ⟨g,gcap,rfl,hg1,hg2⟩:=hown.form (by have:=HSl.out;omega)
 rw [HSl.out] at hown ⊢
 have HO2:=lh hown
 have HQ2:=lh (HQ1.out.q hq2)
 have HE2:=lh (hq2.row HR1.out)
 have Hg:=lh (And.intro hg1 hg2)
 have Hgw:Hid (w.heap.size<g):=lh (by have:=Hz1.out;omega)
 clear hown hq2 hg1 hg2
 go_wp2_with fail
 go_loopw [6] (fun i wr=>∃ k:Nat,k≤16∧i=.int .i64 k∧Hid (Own .i64 3 W1.heap.size wr (.slice (some ⟨g,0,none⟩) 16 gcap) (mixS I S k))∧Hid (Only [g] w2 wr)) (fun i _=>16-(intOf i).toNat)
 case atStart=>exact ⟨0,by omega,rfl,lh (by rw [show mixS I S 0=S by simp [mixS]];exact HO2.out),lh (Only.refl _ _)⟩
 case round =>
  obtain ⟨k,hk,rfl,HOk,HQk⟩:=hrel
  by_cases hlt:k<16
  ·have hki:(k:Int)<16:=by omega
   have hk0:(0:Int)≤(k:Int):=by omega
   have hlen:=mixS_len (k:=k) HIl.out HSl.out (by omega)
   have cx:=HOk.out.cellS hlen.symm (i:=k) (by omega)
   have fx:=HOk.out.frzS hlen.symm k
   rw [mixS_at HIl.out HSl.out hlt] at cx
   have hnx:=mixS_next HIl.out HSl.out hlt
   have hia:=HIa.out k hlt
   have hsb:=HSb.out k (by rw [HSl.out];exact hlt)
   rw [hia] at hnx
   generalize S.getD k 0=s at *
   have hd0:wrap64 (4*4)=16:=by unfold wrap64;omega
   have hd1:IntKind.i64.wrap (4*4)=16:=by decide
   have hd2:(16:Int).tdiv 2=8:=by decide
   have n1:IntKind.i64.wrap (s+8)=s+8:=by rw [IntKind.wrap_i64];omega
   have HDn:Hid (∀ W,Calls Tryz.prog 208 #[.int .i64 (s+8),.int .i64 16] W fun e w'=>e=.returned (.int .i64 ((s+8) / 16))∧W=w'):=lh (fun W=>kdown_any (s+8) 16 (by omega) (by omega) W)
   have hin:InK .i64 ((s+8) / 16):=by simp only [InK];omega
   obtain ⟨hs1,hs2⟩:=HOk.out.storeS hlen.symm hin k
   rw [hnx] at hs1
   have HS1:=lh hs1
   have HS2:=lh hs2
   have Hlt:=lh hlt
   generalize (s+8) / 16=q at *
   exact qDRIn1
  ·obtain rfl:k=16:=by omega
   have hki:¬ ((16:Nat):Int)<16:=by omega
   have hm:mixS I S 16=I:=by unfold mixS;rw [List.drop_eq_nil_of_le (by rw [HSl.out];omega),List.append_nil,List.take_of_length_le (by rw [HIl.out];omega)]
   exact qDRIn0
theorem kinverse8_any {lo hi:Nat} {v:Value} {l:List Int} {w:World} (h:Ints .i64 lo hi w v l) (hl:l.length=64) (hb:AbsLe 6266880 l):Calls Tryz.prog 171 #[v] w fun e w'=>((∃ v',e=.returned (.tuple #[v',.agg #[.int .i64 0,.slice none 0 0]])∧Own .i64 3 w.heap.size w' v' (inverseD l))∧Only [] w w'):=by
 refine hidQ fun Q HPost=>?_
 have hq1:=Only.new w (.cells #[.int .i64 0,.slice none 0 0] 39)
 have HR1:Hid ((w.alloc (.cells #[.int .i64 0,.slice none 0 0] 39)).heap[w.heap.size]?=some (.cells #[.int .i64 0,.slice none 0 0] 39 (0,0))):=lh (heap_alloc_new w _)
 have Hz1:Hid ((w.alloc (.cells #[.int .i64 0,.slice none 0 0] 39)).heap.size=w.heap.size+1):=lh (by simp)
 have HI:=lh (fun (W:World) (o:Only [] (w.alloc (.cells #[.int .i64 0,.slice none 0 0] 39)) W)=>h.quiet (hq1.q o))
 have HWi:=lh (within_abs hb (show (-16777216:Int)≤-6266880 by omega) (show (6266880:Int)≤16777216 by omega))
 have HSu:=lh (fun (W:World) (o:Only [] (w.alloc (.cells #[.int .i64 0,.slice none 0 0] 39)) W)=>ksums8_any (HI.out W o) hl hb)
 have HSd:Hid (∀ W,Calls Tryz.prog 197 #[.int .i64 64] W fun e w'=>e=.returned (.int .i64 8)∧W=w'):=lh (fun W=>kside_wht 64 (by omega) W)
 have HSl:=lh (show (sumsD 8 l).length=64 from sumsD_len 8 l)
 have HSb:=lh (sums_abs (n:=8) hl hb (by omega))
 have HIl:Hid ((inverseD l).length=64):=lh (by rw [inverseD_len,hl])
 have HIa:Hid (∀ k,k<64→(inverseD l).getD k 0=((sumsD 8 l).getD k 0+32) / 64):=lh (fun k hk=>by
  rw [inverse_sums (n:=8) (by omega) hl,List.getD_eq_getElem?_getD,List.getElem?_map,List.getElem?_eq_getElem (by rw [sumsD_len];exact hk),List.getD_eq_getElem?_getD,List.getElem?_eq_getElem (by rw [sumsD_len];exact hk)]
  rfl)
 obtain ⟨a,cap,rfl,-⟩:=h.open
 rw [hl] at HI HSu ⊢
 have HQ1:=lh hq1
 clear h hb hq1
 generalize sumsD 8 l=S at *
 generalize inverseD l=I at *
 go_enter Tryz.func171,Tryz.ntmps171
 go_wp2_with fail
 generalize hW1:World.alloc w _=W1 at *
 clear hW1
 go_at_call 197
 refine (HSd.out _).mono ?_
 rintro e w' ⟨rfl,rfl⟩
 go_wp2_with fail
 go_at_call 26
 refine (within_any (-16777216) 16777216 (HI.out W1 (Only.refl _ _))).mono ?_
 rintro e w' ⟨rfl,rfl⟩
 rw [HWi.out]
 go_wp2_with fail
 go_at_call 198
 refine (HSu.out W1 (Only.refl _ _)).mono ?_
 rintro e w2 ⟨⟨v2,rfl,hown⟩,hq2⟩
 obtain ⟨g,gcap,rfl,hg1,hg2⟩:=hown.form (by have:=HSl.out;omega)
 rw [HSl.out] at hown ⊢
 have HO2:=lh hown
 have HQ2:=lh (HQ1.out.q hq2)
 have HE2:=lh (hq2.row HR1.out)
 have Hg:=lh (And.intro hg1 hg2)
 have Hgw:Hid (w.heap.size<g):=lh (by have:=Hz1.out;omega)
 clear hown hq2 hg1 hg2
 go_wp2_with fail
 go_loopw [6] (fun i wr=>∃ k:Nat,k≤64∧i=.int .i64 k∧Hid (Own .i64 3 W1.heap.size wr (.slice (some ⟨g,0,none⟩) 64 gcap) (mixS I S k))∧Hid (Only [g] w2 wr)) (fun i _=>64-(intOf i).toNat)
 case atStart=>exact ⟨0,by omega,rfl,lh (by rw [show mixS I S 0=S by simp [mixS]];exact HO2.out),lh (Only.refl _ _)⟩
 case round =>
  obtain ⟨k,hk,rfl,HOk,HQk⟩:=hrel
  by_cases hlt:k<64
  ·have hki:(k:Int)<64:=by omega
   have hk0:(0:Int)≤(k:Int):=by omega
   have hlen:=mixS_len (k:=k) HIl.out HSl.out (by omega)
   have cx:=HOk.out.cellS hlen.symm (i:=k) (by omega)
   have fx:=HOk.out.frzS hlen.symm k
   rw [mixS_at HIl.out HSl.out hlt] at cx
   have hnx:=mixS_next HIl.out HSl.out hlt
   have hia:=HIa.out k hlt
   have hsb:=HSb.out k (by rw [HSl.out];exact hlt)
   rw [hia] at hnx
   generalize S.getD k 0=s at *
   have hd0:wrap64 (8*8)=64:=by unfold wrap64;omega
   have hd1:IntKind.i64.wrap (8*8)=64:=by decide
   have hd2:(64:Int).tdiv 2=32:=by decide
   have n1:IntKind.i64.wrap (s+32)=s+32:=by rw [IntKind.wrap_i64];omega
   have HDn:Hid (∀ W,Calls Tryz.prog 208 #[.int .i64 (s+32),.int .i64 64] W fun e w'=>e=.returned (.int .i64 ((s+32) / 64))∧W=w'):=lh (fun W=>kdown_any (s+32) 64 (by omega) (by omega) W)
   have hin:InK .i64 ((s+32) / 64):=by simp only [InK];omega
   obtain ⟨hs1,hs2⟩:=HOk.out.storeS hlen.symm hin k
   rw [hnx] at hs1
   have HS1:=lh hs1
   have HS2:=lh hs2
   have Hlt:=lh hlt
   generalize (s+32) / 64=q at *
   exact qDRIn1
  ·obtain rfl:k=64:=by omega
   have hki:¬ ((64:Nat):Int)<64:=by omega
   have hm:mixS I S 64=I:=by unfold mixS;rw [List.drop_eq_nil_of_le (by rw [HSl.out];omega),List.append_nil,List.take_of_length_le (by rw [HIl.out];omega)]
   exact qDRIn0
end
def clipK (p r:List Int):List Int:=List.zipWith (fun a v=>clipD (a+v)) p r
theorem clipK_len {p r:List Int} (h:p.length=r.length):(clipK p r).length=p.length:=by simp [clipK,h]
theorem clipK_next {p r:List Int} (h:p.length=r.length) {k:Nat} (hk:k<p.length):(clipK p r).take (k+1)=(clipK p r).take k ++ [clipD (p.getD k 0+r.getD k 0)]:=by
 rw [List.take_succ_eq_append_getElem (by rw [clipK_len h];exact hk)]
 congr 2
 simp [clipK,List.getElem_zipWith,List.getD_eq_getElem?_getD,hk,show k<r.length by omega]
section
theorem kclips_any {lo hi lo' hi':Nat} {pv rv:Value} {p r:List Int} {w:World} (hp:Ints .i64 lo hi w pv p) (hr:Ints .i64 lo' hi' w rv r) (hl:p.length=r.length) (hn:p.length≤64) (hs:SamOk p) (hb:AbsLe 401080320 r):Calls Tryz.prog 117 #[pv,rv] w fun e w'=>((∃ v',e=.returned v'∧Own .i64 3 w.heap.size w' v' (clipK p r))∧Only [] w w'):=by
 refine hidQ fun Q HPost=>?_
 have HN:=lh (fun k (hk:k<p.length)=>clipK_next hl hk)
 have HCl:=lh (clipK_len hl)
 have HP:=lh hp
 have HR:=lh hr
 have HS:=lh hs
 have HB:=lh hb
 have Hl:=lh hl
 obtain ⟨pa,pcap,rfl,-⟩:=hp.open
 obtain ⟨ra0,rcap0,rfl,-⟩:=hr.open
 rw [← hl]
 rw [← hl] at HR
 have hpl:(p.length:Int)≤64:=by omega
 clear hp hr hs hb hl
 generalize clipK p r=D at *
 go_enter Tryz.func117,Tryz.ntmps117
 go_wp2_with fail
 go_loopw [6,5] (fun i y wr=>∃ k:Nat,k≤p.length∧i=.int .i64 k∧Hid (Own .i64 3 w.heap.size wr y (D.take k))∧Hid (From w.heap.size y)∧Hid (Only [] w wr)) (fun i _ _=>p.length-(intOf i).toNat)
 case atStart=>exact ⟨0,by omega,rfl,lh (Own.nil _ _ _ _),lh (From.nil _),lh (Only.refl _ _)⟩
 case round =>
  obtain ⟨k,hk,rfl,HOk,HFk,HQk⟩:=hrel
  have hdl:(D.take k).length=k:=by rw [List.length_take,HCl.out];omega
  obtain ⟨ra,rcap,rfl,-⟩:=HOk.out.ints.open
  rw [hdl] at HOk HFk ⊢
  by_cases hlt:k<p.length
  ·have hki:(k:Int)<(p.length:Int):=by omega
   have hk0:(0:Int)≤(k:Int):=by omega
   obtain ⟨bp,op,pcap',e1,-,-,cp0⟩:=HP.out.at hlt
   injection e1 with e1 e2 e3
   subst e1;subst e3
   obtain ⟨br,or,rcap',e1,-,-,cr0⟩:=HR.out.at (i:=k) (by have:=Hl.out;omega)
   injection e1 with e1 e4 e3
   subst e1;subst e3
   have hnx:=HN.out k hlt
   have cp:=HQk.out.cell cp0 (by simp)
   have cr:=HQk.out.cell cr0 (by simp)
   have Hcp:=lh cp0
   have Hcr:=lh cr0
   clear cp0 cr0
   have ha:=HS.out.at k
   have hc:=HB.out k (by have:=Hl.out;omega)
   generalize p.getD k 0=a at *
   generalize r.getD k 0=c at *
   have hq:=clipD_in (a+c)
   obtain ⟨q,hcl⟩:∃ q,clipD (a+c)=q:=⟨_,rfl⟩
   rw [hcl] at hnx hq
   have hw:IntKind.i64.wrap (a+c)=a+c:=by rw [IntKind.wrap_i64];omega
   have hink:∀ z∈[q],InK .i64 z:=by simp only [mSg,forall_eq,InK];omega
   have hsrc:=lh (fun (W:World)=>ints_newG (k:=.i64) (w:=W) (t:=3) (l:=[q]) rfl (by simp [maxLen]) hink 1 rfl rfl)
   have hby:=lh (show ((D.take k).length+[q].length)*8≤140737488355328 by rw [hdl];simp;omega)
   have Hlen:Hid ((D.take k ++ [q]).length=k+1):=lh (by rw [List.length_append,hdl];rfl)
   have Hnx:=lh hnx
   have Hlt:=lh hlt
   have hba:=lh (show w.heap.size≤(wr.alloc (.cells #[.int .i64 q] 3)).heap.size by have:=HQk.out.size;simp;omega)
   have HFr:=lh HFk.out
   clear hink hnx ha hc hq hdl e2 e4 hlt
   go_wp2_with fail
   refine wp_region_held_drew (S:=(fun w'=>w'.cell? ⟨bp,op+k,none⟩=some (.int .i64 a)∧w'.cell? ⟨br,or+k,none⟩=some (.int .i64 c))) (by kernel_rfl) ?_ (fun hHeld=>?_)
   ·exact ⟨cp,cr⟩
   refine tk 0 13 ?_
   refine tk 1 14 ?_
   refine tk 2 15 ?_
   refine tk 3 16 ?_
   refine tk 4 17 ?_
   refine tk 5 18 ?_
   refine tk 6 19 ?_
   refine tk 7 20 ?_
   refine tk 8 21 ?_
   refine tk 9 22 ?_
   refine rdy (rdc 10 23 (fun K hK=>?_) .nil)
   go_simp
   go_at_call 157
   refine (kclip_any _ _).mono ?_
   rintro e w' ⟨rfl,rfl⟩
   simp only [hcl]
   refine hK.out _ _ ?_ (fun hHeld=>?_)
   ·exact ⟨cp,cr⟩
   clear hK K
   try simp only [Act.put,List.setIfInBounds_toArray,List.set_cons_zero,List.set_cons_succ]
   refine rdy (rdc 11 24 (fun K hK=>?_) .nil)
   go_simp
   refine hK.out _ _ ?_ (fun hHeld=>?_)
   ·exact ⟨(Only.new wr (.cells #[.int .i64 q] 3)).cell cp (by simp),(Only.new wr (.cells #[.int .i64 q] 3)).cell cr (by simp)⟩
   clear hK K
   try simp only [Act.put,List.setIfInBounds_toArray,List.set_cons_zero,List.set_cons_succ]
   refine rdy (rdc 12 25 (fun K hK=>?_) .nil)
   refine wp_append_ints rfl (.tmp 13) (.tmp 24) _ rfl EI ((HOk.out.quiet (Only.new wr _)).quiet (Only.refl _ _).drew) rfl ((hsrc.out wr).quiet (Only.refl _ _).drew) rfl hby.out hba.out (fun v1 w6 hown1 ho1=>?_)
   obtain ⟨x1,x1cap,hx1,_⟩:=hown1.ints.open
   subst hx1
   rw [Hlen.out] at hown1 ho1 ⊢
   have HO1:=lh hown1
   have HA1:=lh ho1
   have hd6w:=(HQk.out.q (Only.new wr (.cells #[.int .i64 q] 3)).drew).acc ho1 HFr.out
   (have HD6:=lh hd6w);clear hown1 ho1
   refine hK.out _ _ ?_ (fun hHeld=>?_)
   ·exact ⟨hd6w.cell Hcp.out (by simp),hd6w.cell Hcr.out (by simp)⟩
   clear hK K
   try simp only [Act.put,List.setIfInBounds_toArray,List.set_cons_zero,List.set_cons_succ]
   refine tk 13 5 ?_
   refine wpAnyH_done (by kernel_rfl) ?_ _
   go_wp2_with fail
   refine ⟨⟨k+1,by have:=Hlt.out;omega,by go_num,lh (by rw [Hnx.out];exact HO1.out),lh (HA1.out.from_ HFk.out hba.out),lh ?_⟩,by simp [intOf];have:=Hlt.out;omega⟩
   exact HD6.out
  ·obtain rfl:k=p.length:=by omega
   have hki:¬ (p.length:Int)<(p.length:Int):=by omega
   rw [List.take_of_length_le (by rw [HCl.out];omega)] at HOk
   clear hdl hlt
   go_wp2_with fail
   exact HPost.out _ _ ⟨⟨_,rfl,HOk.out⟩,HQk.out⟩
theorem inverseD_abs2 {l:List Int} (hl:l.length=16∨l.length=64) (h:AbsLe 6266880 l):AbsLe 401080320 (inverseD l):=by
 obtain ⟨n,hn,hln⟩:∃ n,(n=4∨n=8)∧l.length=n*n:=hl.elim (fun e=>⟨4,.inl rfl,e⟩) (fun e=>⟨8,.inr rfl,e⟩)
 have hs:=sums_abs hln h (by rcases hn with rfl | rfl <;> omega)
 intro k hk
 rw [inverseD_len] at hk
 have h1:=hs k (by rw [sumsD_len];omega)
 rw [inverse_sums hn hln,List.getD_eq_getElem?_getD,List.getElem?_map,List.getElem?_eq_getElem (by rw [sumsD_len];omega)]
 rw [List.getD_eq_getElem?_getD,List.getElem?_eq_getElem (by rw [sumsD_len];omega)] at h1
 simp only [Option.getD_some,Option.map_some] at h1 ⊢
 generalize (sumsD n l)[k]'_=s at *
 rcases hn with rfl | rfl
 ·show -401080320≤(s+(16:Int) / 2) / 16∧(s+(16:Int) / 2) / 16≤401080320
  omega
 ·show -401080320≤(s+(64:Int) / 2) / 64∧(s+(64:Int) / 2) / 64≤401080320
  omega
theorem krest_any {lo hi:Nat} {v:Value} {l:List Int} {w:World} (h:Ints .i64 lo hi w v l) (hl:l.length=16∨l.length=64) (hlev:LevOk l) (n:Nat) (hn:n≤15):Calls Tryz.prog 118 #[v,.int .i64 n] w fun e w'=>((∃ v',e=.returned v'∧Own .i64 3 w.heap.size w' v' (restD l n))∧AbsLe 401080320 (restD l n)∧Only [] w w'):=by
 refine hidQ fun Q HPost=>?_
 have HV:=lh (kvalues_any h (by omega) hlev n hn)
 have hVl:=valuesD_len l n
 have hVa:=valuesD_abs hlev hn
 have HA:Hid (AbsLe 401080320 (restD l n)):=lh (inverseD_abs2 (by rw [hVl];exact hl) hVa)
 have HI:Hid (∀ (lo1 hi1:Nat) (u:Value) (W:World),Ints .i64 lo1 hi1 W u (valuesD l n)→Calls Tryz.prog 171 #[u] W fun e w'=>(∃ v',e=.returned (.tuple #[v',.agg #[.int .i64 0,.slice none 0 0]])∧Own .i64 3 W.heap.size w' v' (inverseD (valuesD l n)))∧Only [] W w'):=lh (fun _ _ _ _ hu=>by
  rcases hl with e | e
  ·exact kinverse4_any hu (by rw [hVl,e]) hVa
  ·exact kinverse8_any hu (by rw [hVl,e]) hVa)
 have HD:Hid (restD l n=inverseD (valuesD l n)):=lh rfl
 have HVl:Hid (0<(valuesD l n).length):=lh (by rw [hVl];omega)
 obtain ⟨a,cap,rfl,-⟩:=h.open
 clear h hl hlev hn hVl hVa
 generalize restD l n=RD at *
 generalize valuesD l n=V at *
 generalize inverseD V=I at *
 go_enter Tryz.func118,Tryz.ntmps118
 go_wp2_with fail
 go_at_call 170
 refine HV.out.mono ?_
 rintro e w1 ⟨⟨v1,rfl,hown⟩,hq1⟩
 obtain ⟨g,gcap,rfl,-,-⟩:=hown.form HVl.out
 have hq2:=hq1.q (Only.new w1 (.cells #[.int .i64 0,.slice none 0 0] 39))
 have HO:=lh (hown.quiet (Only.new w1 (.cells #[.int .i64 0,.slice none 0 0] 39)))
 have HQ2:=lh hq2
 clear hown hq1 hq2
 go_wp2_with fail
 generalize hW2:World.alloc w1 _=W2 at *
 clear hW2
 go_at_call 171
 refine (HI.out _ _ _ W2 HO.out.ints).mono ?_
 rintro e w3 ⟨⟨v3,rfl,hown⟩,hq3⟩
 have HO3:=lh (hown.quiet (Only.new w3 (.cells #[.int .i64 0,.slice none 0 0] 39)))
 have HQ3:=lh (hq3.q (Only.new w3 (.cells #[.int .i64 0,.slice none 0 0] 39)))
 clear hown hq3
 go_wp2_with fail
 refine HPost.out _ _ ⟨⟨_,rfl,?_⟩,HA.out,HQ2.out.q HQ3.out⟩
 rw [HD.out]
 exact HO3.out.lower HQ2.out.size
end
end Go.Proofs.YtmgbbgffkakcaaaGreatDoor
