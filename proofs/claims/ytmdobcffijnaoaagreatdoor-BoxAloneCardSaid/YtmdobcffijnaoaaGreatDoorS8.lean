/- Joined texts: DPred, DOne. Conditions: each part names its own. -/
import Derived.Test.YtmdobcffijnaoaaGreatDoorT1
import Derived.Test.YtmdobcffijnaoaaGreatDoorS5
import Derived.Test.YtmdobcffijnaoaaGreatDoorK7
import Derived.Test.YtmdobcffijnaoaaGreatDoorS6
import Derived.Deep.RegionHeld3
import Derived.BigRegion
namespace Go.Proofs.YtmdobcffijnaoaaGreatDoor
open Go.RowKit
set_option linter.unusedVariables false
set_option linter.unusedSimpArgs false
set_option maxRecDepth 100000
set_option maxHeartbeats 16000000
theorem predD_at (mode:Int) (top left:List Int) (corner:Int) {k:Nat} (h:k<top.length*top.length):(predD mode top left corner).getD k 0=predAt mode top left corner k:=by
 unfold predD
 rw [List.getD_eq_getElem?_getD,List.getElem?_map,List.getElem?_range h]
 rfl
section
theorem icheck_any {lo hi lo' hi':Nat} {tv lv:Value} {top left:List Int} {w:World} (ht:Ints .i64 lo hi w tv top) (hl:Ints .i64 lo' hi' w lv left) (hn:top.length=4∨top.length=8) (hln:left.length=top.length) (hts:SamOk top) (hls:SamOk left) {corner:Int} (hc:0≤corner∧corner≤255) :
  Calls Tryz.prog 189 #[tv,lv,.int .i64 corner] w fun e w'=>e=.returned .nilIface∧Only [] w w':=by
 refine hidQ fun Q HPost=>?_
 have h1:=samples_any ht (by omega)
 rw [samOk_iff.2 hts] at h1
 have h2:=fun (W:World) (o:Only [] w W)=>samples_any (hl.quiet o) (by omega)
 rw [samOk_iff.2 hls] at h2
 have H1:=lh h1
 have H2:=lh h2
 obtain ⟨ta,tcap,rfl,-⟩:=ht.open
 obtain ⟨la,lcap,rfl,-⟩:=hl.open
 clear h1 h2 ht hl hts hls
 obtain ⟨hc0,hc1⟩:=hc
 rw [hln] at H2 ⊢
 generalize top.length=n at *
 clear hln
 have hx:(n:Int)=4∨(n:Int)=8:=by omega
 clear hn
 rcases hx with hx | hx
 all_goals
  go_enter Tryz.func189,Tryz.ntmps189
  go_wp2_with fail
  go_at_call 136
  refine H1.out.mono ?_
  rintro e w1 ⟨rfl,hq1⟩
  have HQ1:=lh hq1
  clear hq1
  go_wp2_with fail
  go_at_call 136
  refine (H2.out w1 HQ1.out).mono ?_
  rintro e w2 ⟨rfl,hq2⟩
  have HQ2:=lh hq2
  clear hq2
  go_wp2_with fail
  exact HPost.out _ _ ⟨rfl,HQ1.out.q HQ2.out⟩
theorem qDPred0 {p:Prop} (h:p:=by
 have hA:A.getD k 0=clipD (y+x-corner):=by rw [HAx.out,hm0];rfl
 have hb0:(mode == 0)=false:=by rw [beq_eq_false_iff_ne];omega
 have hb1:(mode == 1)=false:=by rw [beq_eq_false_iff_ne];omega
 have hb2:(mode == 2)=false:=by rw [beq_eq_false_iff_ne];omega
 have Hm0:=lh hm0
 clear hm0
 have hin:InK .i64 (clipD (y+x-corner)):=by have:=clipD_in (y+x-corner);simp only [InK];omega
 obtain ⟨hs1,hs2⟩:=HOk.out.storeS Hyl.out.symm hin k
 have HAy:=lh hA
 have HS1:=lh hs1
 have HS2:=lh hs2
 clear hA hin hs1 hs2
 have HC:=lh (fun W:World=>clip_any (y+x-corner) W)
 generalize clipD (y+x-corner)=cv at *
 go_wp2_with fail
 go_region
 go_wp2_with fail
 go_at_call 147
 refine (HC.out _).mono ?_
 rintro e w3 ⟨rfl,rfl⟩
 go_wp2_with fail
 refine ⟨?_,by simp [intOf];omega⟩
 (repeat apply Exists.intro)
 exact ⟨⟨k+1,ys.set k (cv),by omega,by go_num,lh (by rw [List.length_set];exact Hyl.out),lh (fill_step Htk.out (by rw [Hyl.out];exact hlt) (Hyl.out.trans HPl.out.symm) HAy.out.symm),lh (HS1.out.quiet (Only.refl _ _).drew),lh (HQt.out.trans HS2.out.drew (U:=[]) (by simp) (fun g hg hlt=>by rw [mSg] at hg;omega))⟩,rfl⟩):p:=h
theorem qDPred1 {p:Prop} (h:p:=by
 have hA:A.getD k 0=y:=by rw [HAx.out,hm0];rfl
 have hb0:(mode == 0)=false:=by rw [beq_eq_false_iff_ne];omega
 have hb1:(mode == 1)=false:=by rw [beq_eq_false_iff_ne];omega
 have hb2:(mode == 2)=true:=by rw [beq_iff_eq];omega
 have Hm0:=lh hm0
 clear hm0
 have hin:InK .i64 (y):=by simp only [InK];omega
 obtain ⟨hs1,hs2⟩:=HOk.out.storeS Hyl.out.symm hin k
 have HAy:=lh hA
 have HS1:=lh hs1
 have HS2:=lh hs2
 clear hA hin hs1 hs2
 go_wp2_with fail
 go_region
 go_wp2_with fail
 exact ⟨⟨k+1,ys.set k (y),by omega,by go_num,lh (by rw [List.length_set];exact Hyl.out),lh (fill_step Htk.out (by rw [Hyl.out];exact hlt) (Hyl.out.trans HPl.out.symm) HAy.out.symm),lh (HS1.out.quiet (Only.refl _ _).drew),lh (HQt.out.trans HS2.out.drew (U:=[]) (by simp) (fun g hg hlt=>by rw [mSg] at hg;omega))⟩,by simp [intOf];omega⟩):p:=h
theorem qDPred2 {p:Prop} (h:p:=by
 have hA:A.getD k 0=x:=by rw [HAx.out,hm0];rfl
 have hb0:(mode == 0)=false:=by rw [beq_eq_false_iff_ne];omega
 have hb1:(mode == 1)=true:=by rw [beq_iff_eq];omega
 have Hm0:=lh hm0
 clear hm0
 have hin:InK .i64 (x):=by simp only [InK];omega
 obtain ⟨hs1,hs2⟩:=HOk.out.storeS Hyl.out.symm hin k
 have HAy:=lh hA
 have HS1:=lh hs1
 have HS2:=lh hs2
 clear hA hin hs1 hs2
 go_wp2_with fail
 go_region
 go_wp2_with fail
 exact ⟨⟨k+1,ys.set k (x),by omega,by go_num,lh (by rw [List.length_set];exact Hyl.out),lh (fill_step Htk.out (by rw [Hyl.out];exact hlt) (Hyl.out.trans HPl.out.symm) HAy.out.symm),lh (HS1.out.quiet (Only.refl _ _).drew),lh (HQt.out.trans HS2.out.drew (U:=[]) (by simp) (fun g hg hlt=>by rw [mSg] at hg;omega))⟩,by simp [intOf];omega⟩):p:=h
theorem qDPred3 {p:Prop} (h:p:=by
 have hk0:(0:Int)≤(k:Int):=by omega
 have ct:=HQk.out.cell (HTc.out k hlt) (by simp)
 have cl:=HQk.out.cell (HLc.out k hlt) (by simp)
 have bt:=Hts.out.at k
 have bl:=Hls.out.at k
 have bs:=HS.out k
 rw [Hn.out] at bs
 have Hmore:Hid (sumD top left (k+1)=sumD top left k+(top.getD k 0+left.getD k 0)):=lh rfl
 generalize top.getD k 0=x at *
 generalize left.getD k 0=y at *
 generalize sumD top left k=s at *
 obtain ⟨bt0,bt1⟩:=bt
 obtain ⟨bl0,bl1⟩:=bl
 obtain ⟨bs0,bs1⟩:=bs
 go_wp2_with fail
 go_region
 go_wp2_with fail
 exact ⟨⟨k+1,by omega,by go_num,by rw [Hmore.out],lh (HQk.out.drew)⟩,by simp [intOf];omega⟩):p:=h
theorem qDPred4 {p:Prop} (h:p:=by
 go_wp2_with fail
 have hfin:=fill_end (R:=A) (by rw [Hyl.out];exact Htk.out) (Hyl.out.trans HPl.out.symm)
 subst hfin
 exact HPost.out _ _ ⟨_,rfl,HOk.out.lower HQk.out.size,HQk.out.q HQt.out⟩):p:=h
theorem foretell4_any {lo hi lo' hi':Nat} {tv lv:Value} {top left:List Int} {w:World} (ht:Ints .i64 lo hi w tv top) (hl:Ints .i64 lo' hi' w lv left) (hn:top.length=4) (hln:left.length=4) (hts:SamOk top) (hls:SamOk left) {corner:Int} (hc:0≤corner∧corner≤255) {mode:Int} (hm:0≤mode∧mode≤3) :
  Calls Tryz.prog 190 #[.int .i64 mode,tv,lv,.int .i64 corner] w fun e w'=>∃ v',e=.returned v'∧Own .i64 3 w.heap.size w' v' (predD mode top left corner)∧Only [] w w':=by
 refine hidQ fun Q HPost=>?_
 obtain ⟨ta,tcap,rfl,-,-,htat,htcell⟩:=ht.open
 obtain ⟨la,lcap,rfl,-,-,hlat,hlcell⟩:=hl.open
 obtain ⟨tb,toff,rfl,-,-⟩:=htat 0 (by omega)
 obtain ⟨lb,loff,rfl,-,-⟩:=hlat 0 (by omega)
 have HTc:=lh (fun i (hi:i<4)=>htcell tb toff rfl i (by omega))
 have HLc:=lh (fun i (hi:i<4)=>hlcell lb loff rfl i (by omega))
 have Hts:=lh hts
 have Hls:=lh hls
 have HS:=lh (fun k=>sumD_in hts hls k)
 have HPl:Hid ((predD mode top left corner).length=16):=lh (by rw [predD_len,hn])
 have HPa:=lh (fun k (hk:k<16)=>predD_at mode top left corner (k:=k) (by rw [hn];exact hk))
 have HA:Hid (∀ k,predAt mode top left corner k=if mode=0 then sumD top left 4 / 8
  else if mode=1 then top.getD (k % 4) 0
  else if mode=2 then left.getD (k / 4) 0
  else clipD (left.getD (k / 4) 0+top.getD (k % 4) 0-corner)):=lh (fun k=>by unfold predAt;rw [hn];rfl)
 have HtbL:=lh (block_lt_of_cell (HTc.out 0 (by omega)))
 have HlbL:=lh (block_lt_of_cell (HLc.out 0 (by omega)))
 have Hn:=lh hn
 rw [hn,hln]
 obtain ⟨hc0,hc1⟩:=hc
 clear ht hl htat htcell hlat hlcell hts hls hn hln
 generalize predD mode top left corner=A at *
 have hmk:∀ W:World,(Instr.makeSlice 48 (.int .i64 16) (.int .i64 16)).run Tryz.prog W=.ok (.slice (some ⟨W.heap.size,0,none⟩) 16 16) (W.alloc (.cells (madeCells #[.int .i64 0] 16) 3)):=fun W=>run_make_row' (P:=Tryz.prog) 48 3 (.int .i64 0) 8 EI.ut (by kernel_rfl) rfl .i64 .i64 16 (by omega) (by omega) W
 go_enter Tryz.func190,Tryz.ntmps190
 go_wp2_with fail
 go_loopw [20,10,11] (fun i s _ wr=>∃ (k:Nat),k≤4∧i=.int .i64 k∧s=.int .i64 (sumD top left k)∧Hid (Only [] w wr)) (fun i _ _ _=>4-(intOf i).toNat)
 case atStart=>exact ⟨0,by omega,rfl,by show Value.int .i64 _=Value.int .i64 (top.length:Int);rw [Hn.out];rfl,lh (Only.refl _ _)⟩
 case round =>
  obtain ⟨k,hk,rfl,rfl,HQk⟩:=hrel
  by_cases hlt:k<4
  ·have hki:(k:Int)<4:=by omega
   exact qDPred3
  ·obtain rfl:k=4:=by omega
   have bs:=HS.out 4
   rw [Hn.out] at bs
   generalize hS:sumD top left 4=s at *
   obtain ⟨bs0,bs1⟩:=bs
   clear hS
   go_wp2_with fail
   clear hmk
   have HO:=lh (own_made .i64 3 wr 16 (by simp [maxLen]))
   go_loopw [41,13,14,15] (fun i _ _ _ wt=>∃ (k:Nat) (ys:List Int),k≤16∧i=.int .i64 k∧Hid (ys.length=16)∧Hid (ys.take k=A.take k)∧Hid (Own .i64 3 wr.heap.size wt (.slice (some ⟨wr.heap.size,0,none⟩) 16 16) ys)∧Hid (Only [] wr wt)) (fun i _ _ _ _=>16-(intOf i).toNat)
   case atStart=>exact ⟨0,List.replicate 16 0,by omega,rfl,lh (by simp),lh rfl,HO,lh (Only.new _ _)⟩
   case round =>
    obtain ⟨k,ys,hk,rfl,Hyl,Htk,HOk,HQt⟩:=hrel
    by_cases hlt:k<16
    ·have hki:(k:Int)<16:=by omega
     have hk0:(0:Int)≤(k:Int):=by omega
     have ha:k % 4<4:=by omega
     have hb:k / 4<4:=by omega
     have ct:=(HQk.out.q HQt.out).cell (HTc.out (k % 4) ha) (by simp)
     have cl:=(HQk.out.q HQt.out).cell (HLc.out (k / 4) hb) (by simp)
     have cx:=HOk.out.cellS Hyl.out.symm (i:=k) (by rw [Hyl.out];exact hlt)
     have fx:=HOk.out.frzS Hyl.out.symm k
     have bt:=Hts.out.at (k % 4)
     have bl:=Hls.out.at (k / 4)
     have hA:=(HPa.out k hlt).trans (HA.out k)
     have em1:(k:Int).tmod 4=((k % 4:Nat):Int):=by rw [Int.tmod_eq_emod_of_nonneg hk0] <;> omega
     have em2:(k:Int).tdiv 4=((k / 4:Nat):Int):=by rw [Int.tdiv_eq_ediv_of_nonneg hk0] <;> omega
     have em3:(k:Int) % 4=((k % 4:Nat):Int):=by omega
     have em4:(k:Int) / 4=((k / 4:Nat):Int):=by omega
     generalize top.getD (k % 4) 0=x at *
     generalize left.getD (k / 4) 0=y at *
     generalize ys.getD k 0=z at *
     generalize k % 4=a at *
     generalize k / 4=b at *
     have ha0:(a:Int)<4:=by omega
     have hb0:(b:Int)<4:=by omega
     obtain ⟨bt0,bt1⟩:=bt
     obtain ⟨bl0,bl1⟩:=bl
     have HAx:=lh hA
     clear hA
     rcases (by omega:mode=0∨mode=1∨mode=2∨mode=3) with hm0 | hm0 | hm0 | hm0
     ·have hA:A.getD k 0=s / 8:=by rw [HAx.out,hm0];rfl
      have hb0:(mode == 0)=true:=by rw [beq_iff_eq];omega
      have Hm0:=lh hm0
      clear hm0
      have hin:InK .i64 (s / 8):=by simp only [InK];omega
      obtain ⟨hs1,hs2⟩:=HOk.out.storeS Hyl.out.symm hin k
      have HAy:=lh hA
      have HS1:=lh hs1
      have HS2:=lh hs2
      clear hA hin hs1 hs2
      go_wp2_with fail
      go_region
      go_wp2_with fail
      exact ⟨⟨k+1,ys.set k (s / 8),by omega,by go_num,lh (by rw [List.length_set];exact Hyl.out),lh (fill_step Htk.out (by rw [Hyl.out];exact hlt) (Hyl.out.trans HPl.out.symm) HAy.out.symm),lh (HS1.out.quiet (Only.refl _ _).drew),lh (HQt.out.trans HS2.out.drew (U:=[]) (by simp) (fun g hg hlt=>by rw [mSg] at hg;omega))⟩,by simp [intOf];omega⟩
     ·exact qDPred2
     ·exact qDPred1
     ·exact qDPred0
    ·obtain rfl:k=16:=by omega
     have hx:¬ (16:Int)<16:=by omega
     exact qDPred4
theorem foretell8_any {lo hi lo' hi':Nat} {tv lv:Value} {top left:List Int} {w:World} (ht:Ints .i64 lo hi w tv top) (hl:Ints .i64 lo' hi' w lv left) (hn:top.length=8) (hln:left.length=8) (hts:SamOk top) (hls:SamOk left) {corner:Int} (hc:0≤corner∧corner≤255) {mode:Int} (hm:0≤mode∧mode≤3) :
  Calls Tryz.prog 190 #[.int .i64 mode,tv,lv,.int .i64 corner] w fun e w'=>∃ v',e=.returned v'∧Own .i64 3 w.heap.size w' v' (predD mode top left corner)∧Only [] w w':=by
 refine hidQ fun Q HPost=>?_
 obtain ⟨ta,tcap,rfl,-,-,htat,htcell⟩:=ht.open
 obtain ⟨la,lcap,rfl,-,-,hlat,hlcell⟩:=hl.open
 obtain ⟨tb,toff,rfl,-,-⟩:=htat 0 (by omega)
 obtain ⟨lb,loff,rfl,-,-⟩:=hlat 0 (by omega)
 have HTc:=lh (fun i (hi:i<8)=>htcell tb toff rfl i (by omega))
 have HLc:=lh (fun i (hi:i<8)=>hlcell lb loff rfl i (by omega))
 have Hts:=lh hts
 have Hls:=lh hls
 have HS:=lh (fun k=>sumD_in hts hls k)
 have HPl:Hid ((predD mode top left corner).length=64):=lh (by rw [predD_len,hn])
 have HPa:=lh (fun k (hk:k<64)=>predD_at mode top left corner (k:=k) (by rw [hn];exact hk))
 have HA:Hid (∀ k,predAt mode top left corner k=if mode=0 then sumD top left 8 / 16
  else if mode=1 then top.getD (k % 8) 0
  else if mode=2 then left.getD (k / 8) 0
  else clipD (left.getD (k / 8) 0+top.getD (k % 8) 0-corner)):=lh (fun k=>by unfold predAt;rw [hn];rfl)
 have HtbL:=lh (block_lt_of_cell (HTc.out 0 (by omega)))
 have HlbL:=lh (block_lt_of_cell (HLc.out 0 (by omega)))
 have Hn:=lh hn
 rw [hn,hln]
 obtain ⟨hc0,hc1⟩:=hc
 clear ht hl htat htcell hlat hlcell hts hls hn hln
 generalize predD mode top left corner=A at *
 have hmk:∀ W:World,(Instr.makeSlice 48 (.int .i64 64) (.int .i64 64)).run Tryz.prog W=.ok (.slice (some ⟨W.heap.size,0,none⟩) 64 64) (W.alloc (.cells (madeCells #[.int .i64 0] 64) 3)):=fun W=>run_make_row' (P:=Tryz.prog) 48 3 (.int .i64 0) 8 EI.ut (by kernel_rfl) rfl .i64 .i64 64 (by omega) (by omega) W
 go_enter Tryz.func190,Tryz.ntmps190
 go_wp2_with fail
 go_loopw [20,10,11] (fun i s _ wr=>∃ (k:Nat),k≤8∧i=.int .i64 k∧s=.int .i64 (sumD top left k)∧Hid (Only [] w wr)) (fun i _ _ _=>8-(intOf i).toNat)
 case atStart=>exact ⟨0,by omega,rfl,by show Value.int .i64 _=Value.int .i64 (top.length:Int);rw [Hn.out];rfl,lh (Only.refl _ _)⟩
 case round =>
  obtain ⟨k,hk,rfl,rfl,HQk⟩:=hrel
  by_cases hlt:k<8
  ·have hki:(k:Int)<8:=by omega
   exact qDPred3
  ·obtain rfl:k=8:=by omega
   have bs:=HS.out 8
   rw [Hn.out] at bs
   generalize hS:sumD top left 8=s at *
   obtain ⟨bs0,bs1⟩:=bs
   clear hS
   go_wp2_with fail
   clear hmk
   have HO:=lh (own_made .i64 3 wr 64 (by simp [maxLen]))
   go_loopw [41,13,14,15] (fun i _ _ _ wt=>∃ (k:Nat) (ys:List Int),k≤64∧i=.int .i64 k∧Hid (ys.length=64)∧Hid (ys.take k=A.take k)∧Hid (Own .i64 3 wr.heap.size wt (.slice (some ⟨wr.heap.size,0,none⟩) 64 64) ys)∧Hid (Only [] wr wt)) (fun i _ _ _ _=>64-(intOf i).toNat)
   case atStart=>exact ⟨0,List.replicate 64 0,by omega,rfl,lh (by simp),lh rfl,HO,lh (Only.new _ _)⟩
   case round =>
    obtain ⟨k,ys,hk,rfl,Hyl,Htk,HOk,HQt⟩:=hrel
    by_cases hlt:k<64
    ·have hki:(k:Int)<64:=by omega
     have hk0:(0:Int)≤(k:Int):=by omega
     have ha:k % 8<8:=by omega
     have hb:k / 8<8:=by omega
     have ct:=(HQk.out.q HQt.out).cell (HTc.out (k % 8) ha) (by simp)
     have cl:=(HQk.out.q HQt.out).cell (HLc.out (k / 8) hb) (by simp)
     have cx:=HOk.out.cellS Hyl.out.symm (i:=k) (by rw [Hyl.out];exact hlt)
     have fx:=HOk.out.frzS Hyl.out.symm k
     have bt:=Hts.out.at (k % 8)
     have bl:=Hls.out.at (k / 8)
     have hA:=(HPa.out k hlt).trans (HA.out k)
     have em1:(k:Int).tmod 8=((k % 8:Nat):Int):=by rw [Int.tmod_eq_emod_of_nonneg hk0] <;> omega
     have em2:(k:Int).tdiv 8=((k / 8:Nat):Int):=by rw [Int.tdiv_eq_ediv_of_nonneg hk0] <;> omega
     have em3:(k:Int) % 8=((k % 8:Nat):Int):=by omega
     have em4:(k:Int) / 8=((k / 8:Nat):Int):=by omega
     generalize top.getD (k % 8) 0=x at *
     generalize left.getD (k / 8) 0=y at *
     generalize ys.getD k 0=z at *
     generalize k % 8=a at *
     generalize k / 8=b at *
     have ha0:(a:Int)<8:=by omega
     have hb0:(b:Int)<8:=by omega
     obtain ⟨bt0,bt1⟩:=bt
     obtain ⟨bl0,bl1⟩:=bl
     have HAx:=lh hA
     clear hA
     rcases (by omega:mode=0∨mode=1∨mode=2∨mode=3) with hm0 | hm0 | hm0 | hm0
     ·have hA:A.getD k 0=s / 16:=by rw [HAx.out,hm0];rfl
      have hb0:(mode == 0)=true:=by rw [beq_iff_eq];omega
      have Hm0:=lh hm0
      clear hm0
      have hin:InK .i64 (s / 16):=by simp only [InK];omega
      obtain ⟨hs1,hs2⟩:=HOk.out.storeS Hyl.out.symm hin k
      have HAy:=lh hA
      have HS1:=lh hs1
      have HS2:=lh hs2
      clear hA hin hs1 hs2
      go_wp2_with fail
      go_region
      go_wp2_with fail
      exact ⟨⟨k+1,ys.set k (s / 16),by omega,by go_num,lh (by rw [List.length_set];exact Hyl.out),lh (fill_step Htk.out (by rw [Hyl.out];exact hlt) (Hyl.out.trans HPl.out.symm) HAy.out.symm),lh (HS1.out.quiet (Only.refl _ _).drew),lh (HQt.out.trans HS2.out.drew (U:=[]) (by simp) (fun g hg hlt=>by rw [mSg] at hg;omega))⟩,by simp [intOf];omega⟩
     ·exact qDPred2
     ·exact qDPred1
     ·exact qDPred0
    ·obtain rfl:k=64:=by omega
     have hx:¬ (64:Int)<64:=by omega
     exact qDPred4
theorem predict_any {lo hi lo' hi':Nat} {tv lv:Value} {top left:List Int} {w:World} (ht:Ints .i64 lo hi w tv top) (hl:Ints .i64 lo' hi' w lv left) (hn:top.length=4∨top.length=8) (hln:left.length=top.length) (hts:SamOk top) (hls:SamOk left) {corner:Int} (hc:0≤corner∧corner≤255) {mode:Int} (hm:0≤mode∧mode≤3) :
  Calls Tryz.prog 149 #[.int .i64 mode,tv,lv,.int .i64 corner] w fun e w'=>∃ v',e=.returned (.tuple #[v',.nilIface])∧Own .i64 3 w.heap.size w' v' (predD mode top left corner)∧Only [] w w':=by
 refine hidQ fun Q HPost=>?_
 have HC:=lh (icheck_any ht hl hn hln hts hls hc)
 have HF:Hid (∀ W,Only [] w W→Calls Tryz.prog 190 #[.int .i64 mode,tv,lv,.int .i64 corner] W fun e w'=>∃ v',e=.returned v'∧Own .i64 3 W.heap.size w' v' (predD mode top left corner)∧Only [] W w'):=lh (fun W o=>by
  rcases hn with hn | hn
  ·exact foretell4_any (ht.quiet o) (hl.quiet o) hn (by omega) hts hls hc hm
  ·exact foretell8_any (ht.quiet o) (hl.quiet o) hn (by omega) hts hls hc hm)
 obtain ⟨ta,tcap,rfl,-⟩:=ht.open
 obtain ⟨la,lcap,rfl,-⟩:=hl.open
 obtain ⟨hm0,hm1⟩:=hm
 have hm2:¬ mode<0:=by omega
 have hm3:mode<4:=by omega
 have hm4:¬ 4≤mode:=by omega
 clear ht hl hn hts hls hc
 generalize predD mode top left corner=A at *
 generalize left.length=ln at *
 clear hln
 generalize top.length=n at *
 go_enter Tryz.func149,Tryz.ntmps149
 go_wp2_with fail
 go_at_call 189
 refine HC.out.mono ?_
 rintro e w1 ⟨rfl,hq1⟩
 have HQ1:=lh hq1
 clear hq1
 go_wp2_with fail
 go_at_call 190
 refine (HF.out w1 HQ1.out).mono ?_
 rintro e w2 ⟨v2,rfl,hown,hq2⟩
 have HO:=lh hown
 have HQ2:=lh hq2
 clear hown hq2
 go_wp2_with fail
 exact HPost.out _ _ ⟨v2,rfl,HO.out.lower HQ1.out.size,HQ1.out.q HQ2.out⟩
end
theorem one_any {lo hi g cap base:Nat} {lv:Value} {l:List Int} {w:World} {f:FrameD} {x y:Int} {n q:Nat} {mode:Int} (hf:FrOk f) (hp:Own .i64 3 base w (.slice (some ⟨g,0,none⟩) f.pix.length cap) f.pix) (hl:Ints .i64 lo hi w lv l) (hg:g<lo∨hi≤g)
  (hn:n=4∨n=8) (hll:l.length=n*n) (hlev:LevOk l) (hq:q≤15) (hm:0≤mode∧mode≤3) (hx:0≤x) (hxn:x+n≤f.W) (hy:0≤y) (hyn:y+n≤f.H) :
  Calls Tryz.prog 103 #[.agg #[.int .i64 f.W,.int .i64 f.H,.slice (some ⟨g,0,none⟩) f.pix.length cap],.int .i64 x,.int .i64 y,.int .i64 n,.int .i64 mode,.int .i64 q,lv] w fun e w'=>e=.returned (.tuple #[])∧Own .i64 3 base w' (.slice (some ⟨g,0,none⟩) f.pix.length cap) (oneD f x y n mode q l).pix∧Only [g] w w':=by
 refine hidQ fun Q HPost=>?_
 have HgL:=lh ((hp.at g rfl).2)
 have hq1:=Only.new w (.cells #[.int .i64 f.W,.int .i64 f.H,.slice (some ⟨g,0,none⟩) f.pix.length cap] 70)
 have HR1:Hid ((w.alloc (.cells #[.int .i64 f.W,.int .i64 f.H,.slice (some ⟨g,0,none⟩) f.pix.length cap] 70)).heap[w.heap.size]?=some (.cells #[.int .i64 f.W,.int .i64 f.H,.slice (some ⟨g,0,none⟩) f.pix.length cap] 70 (0,0))):=lh (heap_alloc_new w _)
 have hn16:n*n=16∨n*n=64:=by rcases hn with rfl | rfl <;> simp
 have HE:=lh (edges_any hf (hp.ints.quiet hq1) x y n hn hx hxn hy hyn)
 have HPr:Hid (∀ (lo1 hi1 lo2 hi2:Nat) (v1 v2:Value) (W:World),Ints .i64 lo1 hi1 W v1 (topD f x y n)→Ints .i64 lo2 hi2 W v2 (leftD f x y n)→Calls Tryz.prog 149 #[.int .i64 mode,v1,v2,.int .i64 (sampleD f (x-1) (y-1))] W fun e w'=>∃ v',e=.returned (.tuple #[v',.nilIface])∧Own .i64 3 W.heap.size w' v' (predD mode (topD f x y n) (leftD f x y n) (sampleD f (x-1) (y-1)))∧Only [] W w') :=
  lh (fun _ _ _ _ _ _ W h1 h2=>predict_any h1 h2 (by rw [topD_len];exact hn) (by rw [topD_len,leftD_len]) (topD_in hf.sam _ _ _) (leftD_in hf.sam _ _ _) (sampleD_in hf.sam _ _) hm)
 have hpl:(predD mode (topD f x y n) (leftD f x y n) (sampleD f (x-1) (y-1))).length=n*n:=by rw [predD_len,topD_len]
 have hps:SamOk (predD mode (topD f x y n) (leftD f x y n) (sampleD f (x-1) (y-1))):=predD_in (topD_in hf.sam _ _ _) (leftD_in hf.sam _ _ _) (by rw [topD_len];omega) _ _
 have Htl:=lh (topD_len f x y n)
 have Hll:=lh (leftD_len f x y n)
 have HD:Hid ((oneD f x y n mode q l).pix=(layD f x y n (addD (predD mode (topD f x y n) (leftD f x y n) (sampleD f (x-1) (y-1))) l q)).pix):=lh rfl
 generalize predD mode (topD f x y n) (leftD f x y n) (sampleD f (x-1) (y-1))=P at *
 have hal:(addD P l q).length=n*n:=by rw [addD_len (by rw [hpl,hll])];exact hpl
 have Hlen:Hid ((addD P l q).length=n*n∧0<n*n):=lh ⟨hal,by omega⟩
 have HPl:=lh (And.intro hpl (show 0<n*n by omega))
 have HAd:Hid (∀ (W:World) {lo1 hi1:Nat} {v:Value},Only [] (w.alloc (.cells #[.int .i64 f.W,.int .i64 f.H,.slice (some ⟨g,0,none⟩) f.pix.length cap] 70)) W→Ints .i64 lo1 hi1 W v P→Calls Tryz.prog 102 #[v,lv,.int .i64 q] W fun e w'=>∃ v',e=.returned v'∧Own .i64 3 W.heap.size w' v' (addD P l q)∧Only [] W w') :=
  lh (fun W _ _ _ o h=>add_dec_any h (hl.quiet (hq1.q o)) (by rw [hll];exact hn16) (by rw [hpl,hll]) hps hlev q hq)
 have HLy:Hid (∀ (W:World) {lo1:Nat} (v:Value),Only [] (w.alloc (.cells #[.int .i64 f.W,.int .i64 f.H,.slice (some ⟨g,0,none⟩) f.pix.length cap] 70)) W→Own .i64 3 lo1 W v (addD P l q)→g<lo1→Calls Tryz.prog 100 #[.agg #[.int .i64 f.W,.int .i64 f.H,.slice (some ⟨g,0,none⟩) f.pix.length cap],.int .i64 x,.int .i64 y,.int .i64 n,v] W fun e w'=>e=.returned (.tuple #[])∧Own .i64 3 base w' (.slice (some ⟨g,0,none⟩) f.pix.length cap) (layD f x y n (addD P l q)).pix∧Only [g] W w') :=
  lh (fun W _ v o h hlt=>play_lay hf (hp.quiet (hq1.q o)) h.ints (.inl hlt) hn hal hx hxn hy hyn)
 have HQ1:=lh hq1
 obtain ⟨la,lcap,rfl,-⟩:=hl.open
 clear hp hl hg hlev hpl hps hal hq1 hf hn16 hn hll
 generalize addD P l q=A at *
 generalize topD f x y n=T at *
 generalize leftD f x y n=L at *
 generalize sampleD f (x-1) (y-1)=cn at *
 go_enter Tryz.func103,Tryz.ntmps103
 obtain ⟨r0,r1,r2⟩:=frame_cells HR1.out
 go_wp2_with fail
 go_at_call 148
 refine HE.out.mono ?_
 rintro e w2 ⟨v1,v2,rfl,ho1,ho2,hq2⟩
 obtain ⟨a1,c1,rfl,-⟩:=ho1.ints.open
 obtain ⟨a2,c2,rfl,-⟩:=ho2.ints.open
 have HO1:=lh ho1
 have HO2:=lh ho2
 have HQ2:=lh hq2
 clear r0 r1 r2
 obtain ⟨r0,r1,r2⟩:=frame_cells (hq2.row HR1.out)
 clear ho1 ho2 hq2
 go_wp2_with fail
 go_at_call 149
 refine (HPr.out _ _ _ _ _ _ w2 HO1.out.ints HO2.out.ints).mono ?_
 rintro e w3 ⟨v3,rfl,ho3,hq3⟩
 obtain ⟨g3,c3,rfl,-,-⟩:=ho3.form (by have:=HPl.out;omega)
 have HP3:=lh (ho3.ints.quiet (Only.refl _ _).drew)
 have HQ3:=lh (HQ2.out.q hq3)
 clear r0 r1 r2
 obtain ⟨r0,r1,r2⟩:=frame_cells ((HQ2.out.q hq3).row HR1.out)
 clear ho3 hq3
 go_wp2_with fail
 refine wp_region_held_drew (S:=(fun w'=>w'.cell? ⟨w.heap.size,0,none⟩=some (.int .i64 f.W)∧w'.cell? ⟨w.heap.size,1,none⟩=some (.int .i64 f.H)∧w'.cell? ⟨w.heap.size,2,none⟩=some (.slice (some ⟨g,0,none⟩) f.pix.length cap))) (by kernel_rfl) ?_ (fun hHeld=>?_)
 ·exact ⟨r0,r1,r2⟩
 refine tk 0 36 ?_
 refine tk 1 37 ?_
 refine tk 2 38 ?_
 refine tk 3 39 ?_
 refine tk 4 40 ?_
 refine tk 5 41 ?_
 refine tk 6 42 ?_
 refine rdy (rdc 7 43 (fun K hK=>?_) .nil)
 go_simp
 go_at_call 102
 refine (HAd.out w3.drew (HQ3.out.drew) HP3.out).mono ?_
 rintro e w4 ⟨v4,rfl,hown4,hq4⟩
 obtain ⟨g4,cap4,rfl,hg4,hg4x⟩:=hown4.form (by have:=Hlen.out;omega)
 have HQ4:=lh ((HQ3.out.drew).q hq4)
 have HO4:=lh hown4
 have hr4:=(HQ3.out.drew.q hq4).row HR1.out
 have Hg4:=lh (And.intro hg4 hg4x)
 clear hown4 hq4 hg4 hg4x
 refine hK.out _ _ ?_ (fun hHeld=>?_)
 ·exact frame_cells hr4
 clear hK K
 try simp only [Act.put,List.setIfInBounds_toArray,List.set_cons_zero,List.set_cons_succ]
 refine rdy (rdc 8 44 (fun K hK=>?_) .nil)
 go_simp
 go_at_call 100
 refine (HLy.out w4 _ HQ4.out HO4.out (by have:=Hg4.out.1;have:=HQ3.out.size;have:=HgL.out;simp at *;omega)).mono ?_
 rintro e w5 ⟨rfl,hown5,hq5⟩
 have HQ5:=lh hq5
 have HO5:=lh hown5
 have hr5:=hq5.rowAt (HQ4.out.row HR1.out) (by rw [mSg];have:=HgL.out;omega)
 clear hown5 hq5
 refine hK.out _ _ ?_ (fun hHeld=>?_)
 ·exact frame_cells hr5
 clear hK K
 try simp only [Act.put,List.setIfInBounds_toArray,List.set_cons_zero,List.set_cons_succ]
 refine wpAnyH_done (by kernel_rfl) ?_ _
 go_wp2_with fail
 refine bodyPost_end (results_none Tryz.results103 _ _ _) rfl (HPost.out _ _ ⟨rfl,?_,(HQ1.out.q HQ4.out).trans HQ5.out (by simp) (fun g h _=>h)⟩)
 rw [HD.out]
 exact HO5.out
end Go.Proofs.YtmdobcffijnaoaaGreatDoor
