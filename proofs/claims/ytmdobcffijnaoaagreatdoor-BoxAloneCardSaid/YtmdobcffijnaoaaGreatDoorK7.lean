/- Joined texts: DQuant, DValues, DAdd. Conditions: each part names its own. -/
import Derived.Test.YtmdobcffijnaoaaGreatDoorT1
import Derived.Test.YtmdobcffijnaoaaGreatDoorK6
import Derived.Test.YtmdobcffijnaoaaGreatDoorK1
import Derived.Test.YtmdobcffijnaoaaGreatDoorK3
namespace Go.Proofs.YtmdobcffijnaoaaGreatDoor
open Go.RowKit
set_option linter.unusedVariables false
set_option linter.unusedSimpArgs false
set_option maxRecDepth 100000
set_option maxHeartbeats 16000000
def stepsV:Array Value:=#[.int .i64 1,.int .i64 2,.int .i64 4,.int .i64 6,.int .i64 8,.int .i64 12,.int .i64 16,.int .i64 24,.int .i64 32,.int .i64 48,.int .i64 64,.int .i64 96,.int .i64 128,.int .i64 192,.int .i64 256,.int .i64 384]
section
theorem steps_any (w:World):Calls Tryz.prog 218 #[] w fun e w'=>e=.returned (.agg stepsV)∧Only [] w w':=by
 have hq:=lh (Only.new w)
 go_enter Tryz.func218,Tryz.ntmps218
 go_wp2
 exact bodyPost_ret (v:=.agg stepsV) (results_cell_row Tryz.results218 _ _ w.heap.size _ _ _ _ rfl (heap_alloc_new _ _) Tryz.underlying307 rfl (by kernel_rfl)) rfl ⟨rfl,hq.out _⟩
theorem upto15 {n:Nat} (h:n≤15):n=0∨n=1∨n=2∨n=3∨n=4∨n=5∨n=6∨n=7∨n=8∨n=9∨n=10∨n=11∨n=12∨n=13∨n=14∨n=15:=by omega
theorem steps_index (n:Nat) (hn:n≤15) (w:World):(Instr.index 307 (.agg stepsV) (.int .i64 n)).run Tryz.prog w=.ok (.int .i64 (stepD n)) w:=by
 rcases upto15 hn with rfl | rfl | rfl | rfl | rfl | rfl | rfl | rfl | rfl | rfl | rfl | rfl | rfl | rfl | rfl | rfl <;> kernel_rfl
theorem step_any (n:Nat) (hn:n≤15) (w:World):Calls Tryz.prog 210 #[.int .i64 n] w fun e w'=>e=.returned (.tuple #[.int .i64 (stepD n),.nilIface])∧Only [] w w':=by
 refine hidQ fun Q HPost=>?_
 have h0:¬ (n:Int)<0:=by omega
 have h1:¬ (15:Int)<n:=by omega
 have h2:(0:Int)≤n:=by omega
 have h3:(n:Int)<16:=by omega
 have hg:=steps_index n hn
 go_enter Tryz.func210,Tryz.ntmps210
 go_wp2_with fail
 go_at_call 218
 refine (steps_any _).mono ?_
 rintro e w1 ⟨rfl,hq⟩
 have HQ:=lh hq
 clear hq
 go_wp2_with fail
 exact HPost.out _ _ ⟨rfl,HQ.out⟩
theorem value_any (v:Int) (n:Nat) (hn:n≤15) (hv:-16320≤v∧v≤16320) (w:World):Calls Tryz.prog 211 #[.int .i64 v,.int .i64 n] w fun e w'=>e=.returned (.tuple #[.int .i64 (v*stepD n),.nilIface])∧Only [] w w':=by
 refine hidQ fun Q HPost=>?_
 have h0:¬ v < -16320:=by omega
 have h1:¬ (16320:Int)<v:=by omega
 have hs:0≤stepD n∧stepD n≤384:=by
  rcases upto15 hn with rfl | rfl | rfl | rfl | rfl | rfl | rfl | rfl | rfl | rfl | rfl | rfl | rfl | rfl | rfl | rfl <;> decide
 have hw:InK .i64 (v*stepD n):=by
  have a:v*stepD n≤16320*384:=Int.le_trans (Int.mul_le_mul_of_nonneg_right hv.2 hs.1) (Int.mul_le_mul_of_nonneg_left hs.2 (by decide))
  have b:-16320*384≤v*stepD n:=Int.le_trans (Int.mul_le_mul_of_nonpos_left (by decide) hs.2) (Int.mul_le_mul_of_nonneg_right hv.1 hs.1)
  simp only [InK]
  omega
 go_enter Tryz.func211,Tryz.ntmps211
 go_wp2_with fail
 go_at_call 210
 refine (step_any n hn _).mono ?_
 rintro e w1 ⟨rfl,hq⟩
 have HQ:=lh hq
 clear hq
 generalize stepD n=st at *
 have hwr:wrap64 (v*st)=v*st:=by simp only [InK] at hw;unfold wrap64;omega
 go_wp2_with fail
 refine HPost.out _ _ ⟨?_,HQ.out⟩
 simp [hwr]
end
theorem stepD_in {n:Nat} (hn:n≤15):0≤stepD n∧stepD n≤384:=by
 rcases upto15 hn with rfl | rfl | rfl | rfl | rfl | rfl | rfl | rfl | rfl | rfl | rfl | rfl | rfl | rfl | rfl | rfl <;> decide
theorem value_in {v s:Int} (hv:-16320≤v∧v≤16320) (hs:0≤s∧s≤384):-6266880≤v*s∧v*s≤6266880 :=
 ⟨Int.le_trans (Int.mul_le_mul_of_nonpos_left (a:=-16320) (by decide) hs.2) (Int.mul_le_mul_of_nonneg_right hv.1 hs.1),Int.le_trans (Int.mul_le_mul_of_nonneg_right hv.2 hs.1) (Int.mul_le_mul_of_nonneg_left hs.2 (by decide))⟩
theorem values_any {lo hi:Nat} {v:Value} {l:List Int} {w:World} (h:Ints .i64 lo hi w v l) (hl:l.length≤64) (hlev:LevOk l) (n:Nat) (hn:n≤15) :
  Calls Tryz.prog 185 #[v,.int .i64 n] w fun e w'=>∃ v',e=.returned (.tuple #[v',.nilIface])∧Own .i64 3 w.heap.size w' v' (valuesD l n)∧Only [] w w':=by
 refine hidQ fun Q HPost=>?_
 obtain ⟨la,lcap,rfl,-,-,hat,hcell⟩:=h.open
 have Hat:=lh hat
 have Hcell:=lh hcell
 have hs:=stepD_in hn
 clear h hat hcell
 have Hlev:=lh hlev
 go_enter Tryz.func185,Tryz.ntmps185
 go_wp2_with fail
 go_at_call 210
 refine (step_any n hn _).mono ?_
 rintro e w1 ⟨rfl,hq⟩
 have HQ1:=lh hq
 clear hq
 have hval:=fun (x:Int) (hx:-16320≤x∧x≤16320) (W:World)=>value_any x n hn hx W
 have HV:=lh hval
 have HD:Hid (valuesD l n=l.map fun v=>v*stepD n):=lh rfl
 clear hval
 generalize stepD n=st at *
 go_wp2_with fail
 go_loopw [8,23] (fun y i wr=>∃ k:Nat,k≤l.length∧i=.int .i64 k∧Own .i64 3 w.heap.size wr y ((l.take k).map fun v=>v*st)∧From w.heap.size y∧Only [] w wr) (fun _ i _=>l.length-(intOf i).toNat)
 case atStart=>exact ⟨0,by omega,rfl,Own.nil _ _ _ _,From.nil _,HQ1.out⟩
 case round =>
  obtain ⟨k,hk,rfl,hown,hfrom,hqr⟩:=hrel
  have HOI:=lh hown
  have HFI:=lh hfrom
  have HQI:=lh hqr
  clear hown hfrom hqr
  by_cases hlt:k<l.length
  ·have hki:(k:Int)<(l.length:Int):=by omega
   have hk0:(0:Int)≤(k:Int):=by omega
   obtain ⟨b,off,rfl,_,_⟩:=Hat.out k hlt
   have hc:=HQI.out.cell (Hcell.out b off rfl k hlt) (by simp)
   have hx:-16320≤l.getD k 0∧l.getD k 0≤16320:=Hlev.out _ (by rw [List.getD_eq_getElem?_getD,List.getElem?_eq_getElem hlt];exact List.getElem_mem _)
   have Htake:Hid ((l.take (k+1)).map (fun v=>v*st)=(l.take k).map (fun v=>v*st) ++ [l.getD k 0*st]):=lh (by
    rw [List.take_succ_eq_append_getElem hlt,List.map_append,List.getD_eq_getElem?_getD,List.getElem?_eq_getElem hlt];rfl)
   generalize l.getD k 0=x at *
   have hxs:=value_in hx hs
   have hin:∀ y∈[x*st],InK .i64 y:=by simp only [mSg,forall_eq,InK];omega
   have hsrc:=lh (fun (W:World)=>ints_newG (k:=.i64) (w:=W) (t:=3) (l:=[x*st]) rfl (by simp [maxLen]) hin 1 rfl rfl)
   have hby:=lh (show (((l.take k).map fun v=>v*st).length+[x*st].length)*8≤140737488355328 by simp;omega)
   have Hlen:=lh (show (((l.take k).map fun v=>v*st) ++ [x*st]).length=k+1 by simp;omega)
   go_wp2_with fail
   go_at_call 211
   refine (HV.out x hx _).mono ?_
   rintro e w2 ⟨rfl,hq2⟩
   have HQ2:=lh hq2
   have HO2:=lh (HOI.out.quiet hq2)
   have hba:=lh (fun (o:Obj)=>(show w.heap.size≤(w2.alloc o).heap.size by have:=HQI.out.size;have:=hq2.size;simp;omega))
   clear hin hq2 hc
   go_wp2_with (first
    | (at_builtin;refine wpList_append_ints rfl (.tmp 36) (.tmp 38) _ rfl EI (HO2.out.quiet (Only.new _ _)) rfl (hsrc.out _) rfl hby.out (hba.out _) (fun v1 w3 hown1 ho1=>?_);obtain ⟨x1,x1cap,hx1,_⟩:=hown1.ints.open;subst hx1;rw [Hlen.out] at hown1 ho1 ⊢;have HO1:=lh hown1;have HA1:=lh ho1;clear hown1 ho1)
    | fail)
   exact ⟨⟨k+1,by omega,by go_num,by rw [Htake.out];exact HO1.out,HA1.out.from_ HFI.out (hba.out _),((HQI.out.q HQ2.out).q (Only.new _ _)).acc HA1.out HFI.out⟩,by simp [intOf];omega⟩
  ·obtain rfl:k=l.length:=by omega
   have hki:¬ (l.length:Int)<(l.length:Int):=by omega
   rw [List.take_length] at HOI
   go_wp2_with fail
   refine HPost.out _ _ ⟨_,rfl,?_,HQI.out⟩
   rw [HD.out]
   exact HOI.out
theorem clip_any (v:Int) (w:World):Calls Tryz.prog 147 #[.int .i64 v] w fun e w'=>e=.returned (.int .i64 (clipD v))∧w=w':=by
 go_enter Tryz.func147,Tryz.ntmps147
 go_wp2
 all_goals
  go_ret
  exact ⟨ret_int (by unfold clipD;first | rfl | omega | (split <;> omega)),rfl⟩
theorem valuesD_at (l:List Int) (q:Int) {k:Nat} (h:k<l.length):(valuesD l q).getD k 0=l.getD k 0*stepD q:=by
 unfold valuesD
 rw [List.getD_eq_getElem?_getD,List.getElem?_map,List.getElem?_eq_getElem h,List.getD_eq_getElem?_getD,List.getElem?_eq_getElem h]
 rfl
theorem valuesD_abs {l:List Int} (h:LevOk l) {n:Nat} (hn:n≤15):AbsLe 6266880 (valuesD l n):=by
 intro k hk
 rw [valuesD_len] at hk
 rw [valuesD_at l n hk]
 exact value_in (h _ (by rw [List.getD_eq_getElem?_getD,List.getElem?_eq_getElem hk];exact List.getElem_mem _)) (stepD_in hn)
theorem addD_at {p l:List Int} (h:p.length=l.length) (qp:Int) {k:Nat} (hk:k<p.length):(addD p l qp).getD k 0=clipD (p.getD k 0+(restD l qp).getD k 0):=by
 have h1:k<(restD l qp).length:=by rw [restD_len];omega
 unfold addD
 rw [List.getD_eq_getElem?_getD,List.getElem?_zipWith,List.getElem?_eq_getElem hk,List.getElem?_eq_getElem h1,List.getD_eq_getElem?_getD,List.getElem?_eq_getElem hk,List.getD_eq_getElem?_getD,List.getElem?_eq_getElem h1]
 rfl
section
theorem rest_any {lo hi:Nat} {v:Value} {l:List Int} {w:World} (h:Ints .i64 lo hi w v l) (hl:l.length=16∨l.length=64) (hlev:LevOk l) (n:Nat) (hn:n≤15) :
  Calls Tryz.prog 146 #[v,.int .i64 n] w fun e w'=>∃ v',e=.returned v'∧Own .i64 3 w.heap.size w' v' (restD l n)∧AbsLe 401080320 (restD l n)∧Only [] w w':=by
 refine hidQ fun Q HPost=>?_
 have HV:=lh (values_any h (by omega) hlev n hn)
 have HI:=lh (fun (lo hi:Nat) (v:Value) (wx:World) (hx:Ints .i64 lo hi wx v (valuesD l n))=>inverse_any hx (by rw [valuesD_len];exact hl) (valuesD_abs hlev hn))
 have HE:Hid (restD l n=inverseD (valuesD l n)):=lh rfl
 have HVl:=lh (valuesD_len l n)
 have hl0:16≤l.length:=by omega
 obtain ⟨a,cap,rfl,_⟩:=h.open
 clear h hl hlev
 generalize restD l n=R at *
 generalize valuesD l n=V at *
 generalize inverseD V=I at *
 go_enter Tryz.func146,Tryz.ntmps146
 go_wp2_with fail
 go_at_call 185
 refine HV.out.mono ?_
 rintro e w1 ⟨v1,rfl,hown1,hq1⟩
 obtain ⟨g,gcap,rfl,hg1,hg2⟩:=hown1.form (by have:=HVl.out;omega)
 have HO1:=lh hown1
 have HQ1:=lh hq1
 clear hown1 hq1 hg1 hg2
 go_wp2_with fail
 go_at_call 186
 refine (HI.out _ _ _ w1 HO1.out.ints).mono ?_
 rintro e w2 ⟨v2,rfl,hown2,habs,hq2⟩
 have HO2:=lh hown2
 have HQ2:=lh hq2
 have HA:=lh habs
 clear hown2 hq2 habs
 go_wp2_with fail
 refine HPost.out _ _ ⟨v2,rfl,?_,?_,HQ1.out.q HQ2.out⟩
 ·rw [HE.out];exact HO2.out.lower HQ1.out.size
 ·rw [HE.out];exact HA.out
theorem add_dec_any {lo hi lo' hi':Nat} {v p:Value} {l P:List Int} {w:World} (hp:Ints .i64 lo' hi' w p P) (h:Ints .i64 lo hi w v l) (hl:l.length=16∨l.length=64) (hP:P.length=l.length) (hsam:SamOk P) (hlev:LevOk l) (n:Nat) (hn:n≤15) :
  Calls Tryz.prog 102 #[p,v,.int .i64 n] w fun e w'=>∃ v',e=.returned v'∧Own .i64 3 w.heap.size w' v' (addD P l n)∧Only [] w w':=by
 refine hidQ fun Q HPost=>?_
 obtain ⟨m,hm⟩:∃ m,m=l.length:=⟨_,rfl⟩
 have HPl:Hid (P.length=m):=lh (by rw [hm];exact hP)
 have HRl:Hid ((restD l n).length=m):=lh (by rw [hm];exact restD_len l n)
 have HAl:Hid ((addD P l n).length=m):=lh (by rw [hm,addD_len hP];exact hP)
 have HAt:=lh (fun (k:Nat) (hk:k<P.length)=>addD_at hP (n:Int) hk)
 have hm16:16≤m:=by omega
 have hm64:m≤64:=by omega
 have HR:=lh (fun (wx:World) (o:Only [] w wx)=>rest_any (h.quiet o) hl hlev n hn)
 have Hsam:=lh hsam
 obtain ⟨pa,pcap,rfl,-,-,hpat,hpcell⟩:=hp.open
 obtain ⟨pb,poff,rfl,-,-⟩:=hpat 0 (by have:=HPl.out;omega)
 have HPc:=lh (fun (k:Nat) (hk:k<m)=>hpcell pb poff rfl k (by rw [HPl.out];exact hk))
 have HPb:=lh (block_lt_of_cell (HPc.out 0 (by omega)))
 clear hpat hpcell
 obtain ⟨a,cap,rfl,_⟩:=h.open
 rw [HPl.out]
 clear h hl hlev hp hP hsam hm
 generalize restD l n=R at *
 generalize addD P l n=A at *
 have hmk:=run_make_row' (P:=Tryz.prog) 48 3 (.int .i64 0) 8 EI.ut (by kernel_rfl) rfl .i64 .i64 m (by omega) (by omega)
 have hmade:=own_made .i64 3 w m (by simp [maxLen];omega)
 have HM:=lh hmade
 clear hmade
 go_enter Tryz.func102,Tryz.ntmps102
 go_wp2_with fail
 clear hmk
 go_at_call 146
 have hq1:=Only.new w (.cells (madeCells #[.int .i64 0] m) 3)
 refine (HR.out _ hq1).mono ?_
 have HQ1:=lh hq1
 clear hq1
 generalize hW1:World.alloc w _=W1 at *
 have hz1:W1.heap.size=w.heap.size+1:=by rw [← hW1];simp
 have Hz1:=lh hz1
 clear hz1 hW1
 rintro e w2 ⟨v2,rfl,hown,habs,hq⟩
 obtain ⟨g,gcap,rfl,hg1,hg2⟩:=hown.form (by have:=HRl.out;omega)
 rw [HRl.out] at hown ⊢
 have HO2:=lh hown
 have HQ2:=lh hq
 have HA2:=lh habs
 have HM2:=lh (HM.out.quiet hq)
 have Hg:=lh (And.intro hg1 hg2)
 clear hown hq habs hg1 hg2 HR HM
 go_wp2_with fail
 go_loopw [17,8] (fun i _ wr=>∃ (k:Nat) (ys:List Int),k≤m∧i=.int .i64 k∧Hid (ys.length=m)∧Hid (ys.take k=A.take k)∧Hid (Own .i64 3 w.heap.size wr (.slice (some ⟨w.heap.size,0,none⟩) m m) ys)∧Hid (Only [w.heap.size] w2 wr)) (fun i _ _=>m-(intOf i).toNat)
 case atStart=>exact ⟨0,List.replicate m 0,by omega,rfl,lh (by simp),lh rfl,HM2,lh (Only.refl _ _)⟩
 case round =>
  obtain ⟨k,ys,hk,rfl,Hyl,Htk,HOk,HQk⟩:=hrel
  by_cases hlt:k<m
  ·have hki:(k:Int)<(m:Int):=by omega
   have hk0:(0:Int)≤(k:Int):=by omega
   have cx:=HOk.out.cellS Hyl.out.symm (i:=k) (by rw [Hyl.out];exact hlt)
   have fx:=HOk.out.frzS Hyl.out.symm k
   have cr:=HQk.out.cell (HO2.out.cellS HRl.out.symm (i:=k) (by rw [HRl.out];exact hlt)) (by rw [mSg];have:=Hg.out.1;have:=Hz1.out;simp only;omega)
   have cp:=HQk.out.cell ((HQ1.out.q HQ2.out).cell (HPc.out k hlt) (by simp)) (by rw [mSg];have:=HPb.out;simp only;omega)
   have hb:=HA2.out k (by rw [HRl.out];exact hlt)
   have hbp:=Hsam.out.at k
   have hA:=HAt.out k (by rw [HPl.out];exact hlt)
   have hbl:k<P.length:=by rw [HPl.out];exact hlt
   generalize ys.getD k 0=y at *
   generalize hpx:P.getD k 0=px at *
   generalize hrx:R.getD k 0=rx at *
   obtain ⟨hb1,hb2⟩:=hb
   obtain ⟨hb3,hb4⟩:=hbp
   have hci:=clipD_in (px+rx)
   have hin:InK .i64 (clipD (px+rx)):=by simp only [InK];omega
   obtain ⟨hs1,hs2⟩:=HOk.out.storeS Hyl.out.symm hin k
   have HS1:=lh hs1
   have HS2:=lh hs2
   have HAx:=lh hA
   have HC:=lh (fun W:World=>clip_any (px+rx) W)
   clear hpx hrx hA hin hs1 hs2 hci hbl
   generalize clipD (px+rx)=cv at *
   go_wp2_with fail
   go_at_call 147
   refine (HC.out _).mono ?_
   rintro e w3 ⟨rfl,rfl⟩
   go_wp2_with fail
   exact ⟨⟨k+1,ys.set k cv,by omega,by go_num,lh (by rw [List.length_set];exact Hyl.out),lh (fill_step Htk.out (by rw [Hyl.out];exact hlt) (Hyl.out.trans HAl.out.symm) HAx.out.symm),HS1,lh (HQk.out.trans HS2.out (fun _ h _=>h) (fun _ h _=>h))⟩,by simp [intOf];omega⟩
  ·obtain rfl:k=m:=by omega
   have hx:¬ (k:Int)<(k:Int):=by omega
   go_wp2_with fail
   have hfin:=fill_end (R:=A) (by rw [Hyl.out];exact Htk.out) (Hyl.out.trans HAl.out.symm)
   subst hfin
   exact HPost.out _ _ ⟨_,rfl,HOk.out,(HQ1.out.q HQ2.out).trans HQk.out (by simp) (fun x hx hlt=>by rw [mSg] at hx;omega)⟩
end
end Go.Proofs.YtmdobcffijnaoaaGreatDoor
