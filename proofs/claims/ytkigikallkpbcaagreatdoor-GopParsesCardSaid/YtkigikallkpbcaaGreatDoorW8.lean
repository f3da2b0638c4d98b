/- Joined texts: EEndW, EPack. Conditions: each part names its own. -/
import Derived.Test.YtkigikallkpbcaaGreatDoorT1
import Derived.Test.YtkigikallkpbcaaGreatDoorW4
import Derived.Test.YtkigikallkpbcaaGreatDoorC1
import Derived.Test.YtkigikallkpbcaaGreatDoorR1
import Derived.Test.YtkigikallkpbcaaGreatDoorK7
import Derived.Test.YtkigikallkpbcaaGreatDoorS7
import Derived.Test.YtkigikallkpbcaaGreatDoorC4
import Derived.Test.YtkigikallkpbcaaGreatDoorR2
import Derived.Test.YtkigikallkpbcaaGreatDoorK6
import Derived.Deep.DeepCutAuto
namespace Go.Proofs.YtkigikallkpbcaaGreatDoor
open Go.RowKit
set_option linter.unusedVariables false
set_option linter.unusedSimpArgs false
set_option maxRecDepth 100000
set_option maxHeartbeats 16000000
section
theorem qEEndW0 {p:Prop} (h:p:=by
 obtain ⟨g2,cap2,hv2,-,-⟩:=hown2.form (by simp)
 rw [← HLn.out] at hv2
 subst hv2
 have HO2:=lh hown2
 have HQ2:=lh hq2
 clear hown2 hacc2
 refine hK.out _ _ ?_ (fun hHeld=>?_)
 ·exact HKeep.out _ hq2
 clear hK K
 try simp only [Act.put,List.setIfInBounds_toArray,List.set_cons_zero,List.set_cons_succ]
 refine tk 31 3 ?_
 refine wpAnyH_done (by kernel_rfl) ?_ _
 have hown3:=HO2.out
 rw [← HL.out] at hown3
 have HLN:Hid (L.length=N):=lh (by rw [HL.out,HLn.out])
 have HO3:=lh hown3
 rw [← HL.out] at HEW
 clear hown3 HO2 HL HLn
 go_wp2_with fail
 have hcapN:N≤cap2:=by have:=HO3.out.ints.open;obtain ⟨a,c,e,h1,-⟩:=this;injection e with e1 e2 e3;rw [e3,← HLN.out];exact h1
 have hcapM:cap2≤maxLen:=by have:=HO3.out.ints.open;obtain ⟨a,c,e,-,h1,-⟩:=this;injection e with e1 e2 e3;rw [e3];exact h1
 have HCap:=lh (And.intro hcapN hcapM)
 clear hcapM
 go_loopw [3] (fun v wr=>∃ k:Nat,k≤N∧v=.slice (some ⟨g2,0,none⟩) k cap2∧Hid (stripZ (L.take k)=stripZ L)∧w2=wr) (fun v _=>match v with | .slice _ n _=>n | _=>0)
 case atStart=>exact ⟨N,Nat.le_refl _,rfl,lh (by rw [List.take_of_length_le (by rw [HLN.out];exact Nat.le_refl _)]),by first | rfl | skip⟩
 case round =>
  obtain ⟨k,hk,rfl,Hk,rfl⟩:=hrel
  cases k with
  | zero =>
   go_wp2_with fail
   refine HPost.out _ _ ⟨_,rfl,?_,HQ2.out⟩
   rw [HEW.out,← Hk.out]
   exact ⟨⟨rfl,some ⟨g2,0,none⟩,cap2,rfl,Nat.zero_le _,HCap.out.2,fun h=>absurd h (by simp [stripZ])⟩,by simp [stripZ]⟩
  | succ k =>
   have hkl:k<L.length:=by rw [HLN.out];omega
   have cx:=HO3.out.cellS HLN.out.symm hkl
   have hki:(k:Int)<((k+1:Nat):Int):=by omega
   have hk0:(0:Int)≤(k:Int):=by omega
   have e1:IntKind.i64.wrap (((k+1:Nat):Int)-1)=(k:Int):=by rw [IntKind.wrap_i64];omega
   have e2:(0:Int)<((k+1:Nat):Int):=by omega
   have e3:(((k+1:Nat):Int)-1)=(k:Int):=by omega
   have hkc:k≤cap2:=by omega
   have Hz:=lh (fun h=>stripZ_zero hkl h)
   have Hl:=lh (fun h=>stripZ_last hkl h)
   have hsl:∀ W:World,(Instr.slice 30 (.slice (some ⟨g2,0,none⟩) (k+1) cap2) none (some (.int .i64 (k:Int))) none).run Tryz.prog W=.ok (.slice (some ⟨g2,0,none⟩) k cap2) W:=fun W=>slice_to k rfl hkc W
   generalize L.getD k 0=z at *
   by_cases hz:z=0
   ·subst hz
    have Hn:Hid (stripZ (L.take k)=stripZ L):=lh (by rw [← Hk.out,Hz.out rfl])
    clear Hz Hl
    go_wp2_with fail
    exact ⟨⟨k,by omega,rfl,Hn,by first | rfl | trivial⟩,by simp⟩
   ·have Hn:Hid (L.take (k+1)=stripZ L):=lh (by rw [← Hl.out hz,Hk.out])
    clear Hz Hl
    go_wp2_with fail
    refine HPost.out _ _ ⟨_,rfl,?_,HQ2.out⟩
    rw [HEW.out,← Hn.out]
    have hI3:=HO3.out.ints
    rw [← HLN.out] at hI3
    have hi:=hI3.sub (Nat.zero_le (k+1)) (by rw [HLN.out];exact hk) cap2 (Nat.le_refl _) (by omega)
    simpa using hi):p:=h
theorem qEEndW1 {p:Prop} (h:p:=by
 rw [List.nil_append] at hown1
 obtain ⟨x1,x1c,hx1,-⟩:=hown1.ints.open
 subst hx1
 have HO1:=lh (hown1.lower (base':=w.heap.size) (by simp))
 clear hown1 hacc1
 refine hK.out _ _ ?_ (fun hHeld=>?_)
 ·exact HKeep.out _ hq1
 clear hK K
 try simp only [Act.put,List.setIfInBounds_toArray,List.set_cons_zero,List.set_cons_succ]
 refine rdy (rdc 30 34 (fun K hK=>?_) .nil)
 refine wp_append_ints rfl (.tmp 9) (.tmp 33) _ rfl E8 (HO1.out.quiet (Only.refl [] w1)) rfl (HS4.out) rfl (by simp;omega) (by have:=HQ1.out.size;simp;try omega) (fun v2 w2 hown2 hacc2=>?_)
 have hq2:Only [] w w2:=(HQ1.out.q (Only.refl [] w1)).acc hacc2 (by intro g hg;have:=HO1.out.at g hg;omega)
 exact qEEndW0):p:=h
theorem eend_any {base E:Nat} {ov:Value} {m:Wrt} {w:World} (h:EncIn base E w ov m) (ok:WrtOk m) (hn:m.n≤1000000000) :
  Calls Tryz.prog 135 #[.pointer (some ⟨E,0,none⟩)] w fun e w'=>(∃ v',e=.returned v'∧Ints .u8 w.heap.size w'.heap.size w' v' (endW m)∧Only [] w w'):=by
 refine hidQ fun Q HPost=>?_
 obtain ⟨c0,c1,c2⟩:=cells3 h.row
 have hew:=endW_low m ok.n4
 have hl0:0≤m.lo % 4294967296∧m.lo % 4294967296<4294967296:=by omega
 obtain ⟨LL,hLL⟩:∃ z,z=m.lo % 4294967296:=⟨_,rfl⟩
 have d0:m.lo / 16777216 % 256=LL / 16777216 % 256:=by omega
 have d1:m.lo / 65536 % 256=LL / 65536 % 256:=by omega
 have d2:m.lo / 256 % 256=LL / 256 % 256:=by omega
 have d3:m.lo % 256=LL % 256:=by omega
 rw [d0,d1,d2,d3] at hew
 rw [← hLL] at c1 hl0
 have w0:IntKind.u8.wrap (LL / 16777216)=LL / 16777216 % 256:=by simp [IntKind.wrap,IntKind.bits,IntKind.signed]
 have w1':IntKind.u8.wrap (LL / 65536)=LL / 65536 % 256:=by simp [IntKind.wrap,IntKind.bits,IntKind.signed]
 have w2':IntKind.u8.wrap (LL / 256)=LL / 256 % 256:=by simp [IntKind.wrap,IntKind.bits,IntKind.signed]
 have w3':IntKind.u8.wrap LL=LL % 256:=by simp [IntKind.wrap,IntKind.bits,IntKind.signed]
 obtain ⟨y0,hy0⟩:∃ z,z=LL / 16777216 % 256:=⟨_,rfl⟩
 obtain ⟨y1,hy1⟩:∃ z,z=LL / 65536 % 256:=⟨_,rfl⟩
 obtain ⟨y2,hy2⟩:∃ z,z=LL / 256 % 256:=⟨_,rfl⟩
 obtain ⟨y3,hy3⟩:∃ z,z=LL % 256:=⟨_,rfl⟩
 rw [← hy0,← hy1,← hy2,← hy3] at hew
 rw [← hy0] at w0
 rw [← hy1] at w1'
 rw [← hy2] at w2'
 rw [← hy3] at w3'
 have HEW:=lh hew
 have hin:∀ z∈[y0,y1,y2,y3],InK .u8 z:=by simp only [List.mem_cons,List.not_mem_nil,or_false,forall_eq_or_imp,forall_eq,InK];omega
 have HOw:=lh h.own
 have hsl:(setW m).length≤1000000000:=by rw [setW_len];omega
 obtain ⟨S0,hS0⟩:∃ z,z=setW m:=⟨_,rfl⟩
 rw [← hS0] at HEW HOw hsl
 have HSrc:=lh (fun (W:World)=>ints_newG (k:=.u8) (w:=W) (t:=5) (l:=[y0,y1,y2,y3]) rfl (by simp [maxLen]) hin 4 rfl rfl)
 have HNil:=lh (fun (W:World)=>own_newG (k:=.u8) (w:=W) (t:=5) (l:=[]) (vs:=#[]) rfl (by simp) (by simp) 0 rfl rfl)
 have HKeep:Hid (∀ W',Only [] w W'→W'.cell? ⟨E,0,none⟩=some ov∧W'.cell? ⟨E,1,none⟩=some (.int .u64 LL)):=lh (fun W' o=>⟨o.cell c0 (by simp),o.cell c1 (by simp)⟩)
 have hA:Only [] w (w.alloc (.cells #[] 5)).drew:=(Only.new w _).drew
 have hB:Only [] w ((w.alloc (.cells #[] 5)).alloc (.cells #[.int .u8 y0,.int .u8 y1,.int .u8 y2,.int .u8 y3] 5)).drew:=((Only.new w _).alloc _).drew
 have hC:Only [] w ((w.alloc (.cells #[.int .u8 y0,.int .u8 y1,.int .u8 y2,.int .u8 y3] 5)).alloc (.cells #[] 5)).drew:=((Only.new w _).alloc _).drew
 have hD:Only [] w (w.alloc (.cells #[.int .u8 y0,.int .u8 y1,.int .u8 y2,.int .u8 y3] 5)).drew:=(Only.new w _).drew
 have HA:=lh hA
 have HB:=lh hB
 have HC:=lh hC
 have HD:=lh hD
 have HSz1:Hid ((w.alloc (.cells #[] 5)).heap.size=w.heap.size+1∧(w.alloc (.cells #[.int .u8 y0,.int .u8 y1,.int .u8 y2,.int .u8 y3] 5)).heap.size=w.heap.size+1):=lh (by simp)
 have hnc:=HNil.out (w.alloc (.cells #[.int .u8 y0,.int .u8 y1,.int .u8 y2,.int .u8 y3] 5))
 rw [HSz1.out.2] at hnc
 have HNilC:=lh hnc
 clear hnc
 obtain ⟨l0,l1⟩:=hl0
 clear h ok hew hLL d0 d1 d2 d3 hy0 hy1 hy2 hy3 hin hS0 hA hB hC hD
 obtain ⟨L,hL⟩:∃ z,z=S0 ++ [y0,y1,y2,y3]:=⟨_,rfl⟩
 obtain ⟨N,hN⟩:∃ z,z=(S0 ++ [y0,y1,y2,y3]).length:=⟨_,rfl⟩
 have HLn:=lh hN
 have HL:=lh hL
 have hNle:N≤1000000004:=by rw [hN];simp;omega
 clear hN hL
 go_enter Tryz.func135,Tryz.ntmps135
 go_wp2_with fail
 refine wp_region_held_drew (S:=(fun w'=>w'.cell? ⟨E,0,none⟩=some ov∧w'.cell? ⟨E,1,none⟩=some (.int .u64 LL))) (by kernel_rfl) ?_ (fun hHeld=>?_)
 ·exact ⟨c0,c1⟩
 refine tk 1 5 ?_
 refine tk 2 6 ?_
 refine tk 3 7 ?_
 refine tk 4 8 ?_
 refine tk 6 10 ?_
 refine tk 7 11 ?_
 refine tk 8 12 ?_
 refine tk 9 13 ?_
 refine tk 10 14 ?_
 refine tk 11 15 ?_
 refine tk 12 16 ?_
 refine tk 13 17 ?_
 refine tk 14 18 ?_
 refine tk 15 19 ?_
 refine tk 16 20 ?_
 refine tk 17 21 ?_
 refine tk 18 22 ?_
 refine tk 19 23 ?_
 refine tk 20 24 ?_
 refine tk 21 25 ?_
 refine tk 22 26 ?_
 refine tk 23 27 ?_
 refine tk 24 28 ?_
 refine tk 25 29 ?_
 refine tk 26 30 ?_
 refine tk 27 31 ?_
 refine tk 28 32 ?_
 refine rdy (rdc 0 4 (fun K hK=>?_) (rdc 29 33 (fun K hK=>?_) .nil))
 ·go_simp
  refine hK.out _ _ ?_ (fun hHeld=>?_)
  ·exact HKeep.out _ HA.out
  clear hK K
  try simp only [Act.put,List.setIfInBounds_toArray,List.set_cons_zero,List.set_cons_succ]
  refine rdy (rdc 5 9 (fun K hK=>?_) (rdc 29 33 (fun K hK=>?_) .nil))
  ·refine wp_append_ints rfl (.tmp 4) (.tmp 8) _ rfl E8 ((HNil.out w).quiet (Only.refl [] _).drew) rfl (HOw.out.ints.quiet HA.out) rfl (by simp;omega) (by simp;try omega) (fun v1 w1 hown1 hacc1=>?_)
   have hq1:Only [] w w1:=HA.out.acc hacc1 (From.lit (by simp;try omega))
   have HQ1:=lh hq1
   rw [List.nil_append] at hown1
   obtain ⟨x1,x1c,hx1,-⟩:=hown1.ints.open
   subst hx1
   have HO1:=lh (hown1.lower (base':=w.heap.size) (by simp))
   clear hown1 hacc1
   refine hK.out _ _ ?_ (fun hHeld=>?_)
   ·exact HKeep.out _ hq1
   clear hK K
   try simp only [Act.put,List.setIfInBounds_toArray,List.set_cons_zero,List.set_cons_succ]
   refine rdy (rdc 29 33 (fun K hK=>?_) .nil)
   go_simp
   refine hK.out _ _ ?_ (fun hHeld=>?_)
   ·exact HKeep.out _ (HQ1.out.q (Only.new w1 (.cells #[.int .u8 y0,.int .u8 y1,.int .u8 y2,.int .u8 y3] 5)))
   clear hK K
   try simp only [Act.put,List.setIfInBounds_toArray,List.set_cons_zero,List.set_cons_succ]
   refine rdy (rdc 30 34 (fun K hK=>?_) .nil)
   refine wp_append_ints rfl (.tmp 9) (.tmp 33) _ rfl E8 (HO1.out.quiet (Only.new w1 (.cells #[.int .u8 y0,.int .u8 y1,.int .u8 y2,.int .u8 y3] 5))) rfl (HSrc.out w1) rfl (by simp;omega) (by have:=HQ1.out.size;simp;try omega) (fun v2 w2 hown2 hacc2=>?_)
   have hq2:Only [] w w2:=(HQ1.out.q (Only.new w1 (.cells #[.int .u8 y0,.int .u8 y1,.int .u8 y2,.int .u8 y3] 5))).acc hacc2 (by intro g hg;have:=HO1.out.at g hg;omega)
   exact qEEndW0
  ·go_simp
   refine hK.out _ _ ?_ (fun hHeld=>?_)
   ·exact HKeep.out _ HB.out
   clear hK K
   try simp only [Act.put,List.setIfInBounds_toArray,List.set_cons_zero,List.set_cons_succ]
   refine rdy (rdc 5 9 (fun K hK=>?_) .nil)
   refine wp_append_ints rfl (.tmp 4) (.tmp 8) _ rfl E8 (((HNil.out w).quiet (Only.new _ (.cells #[.int .u8 y0,.int .u8 y1,.int .u8 y2,.int .u8 y3] 5))).quiet (Only.refl [] _).drew) rfl (HOw.out.ints.quiet HB.out) rfl (by simp;omega) (by simp;try omega) (fun v1 w1 hown1 hacc1=>?_)
   have hq1:Only [] w w1:=HB.out.acc hacc1 (From.lit (by simp;try omega))
   have HQ1:=lh hq1
   have h4:=HSrc.out (w.alloc (.cells #[] 5))
   rw [HSz1.out.1] at h4
   have HS4:=lh ((h4.quiet (Only.refl [] _).drew).only hacc1.only (fun g hg=>by simp [Value.ownBlock] at hg;omega))
   exact qEEndW1
 ·go_simp
  refine hK.out _ _ ?_ (fun hHeld=>?_)
  ·exact HKeep.out _ HD.out
  clear hK K
  try simp only [Act.put,List.setIfInBounds_toArray,List.set_cons_zero,List.set_cons_succ]
  refine rdy (rdc 0 4 (fun K hK=>?_) .nil)
  go_simp
  refine hK.out _ _ ?_ (fun hHeld=>?_)
  ·exact HKeep.out _ HC.out
  clear hK K
  try simp only [Act.put,List.setIfInBounds_toArray,List.set_cons_zero,List.set_cons_succ]
  refine rdy (rdc 5 9 (fun K hK=>?_) .nil)
  refine wp_append_ints rfl (.tmp 4) (.tmp 8) _ rfl E8 (HNilC.out.quiet (Only.refl [] _).drew) rfl (HOw.out.ints.quiet HC.out) rfl (by simp;omega) (by simp;try omega) (fun v1 w1 hown1 hacc1=>?_)
  have hq1:Only [] w w1:=HC.out.acc hacc1 (From.lit (by simp;try omega))
  have HQ1:=lh hq1
  have HS4:=lh ((((HSrc.out w).quiet (Only.new _ (.cells #[] 5))).quiet (Only.refl [] _).drew).only hacc1.only (fun g hg=>by simp [Value.ownBlock] at hg;omega))
  exact qEEndW1
end
section
theorem wend_any {base R E:Nat} {F:List Nat} {m:Wrt} {w:World} (h:(pcWrite base R E).At F w m) (hn:m.n≤1000000000) :
  Calls Tryz.prog 108 #[.pointer (some ⟨R,0,none⟩)] w fun e w'=>∃ v',e=.returned v'∧Ints .u8 w.heap.size w'.heap.size w' v' (endW m)∧Only [] w w':=by
 obtain ⟨ov,rfl,hw⟩:=h
 have HE:=lh (eend_any hw.enc hw.ok hn)
 have c1:=hw.ptr
 clear hw
 go_enter Tryz.func108,Tryz.ntmps108
 go_wp2_with fail
 go_at_call 135
 refine HE.out.mono ?_
 rintro e w2 ⟨v',rfl,hi,hq⟩
 have HI:=lh hi
 have HQ:=lh hq
 clear hi hq
 go_wp2_with fail
 go_ret
 exact ⟨v',rfl,HI.out,HQ.out⟩
theorem pack_any {lo hi:Nat} {k q:Int} {dv:Value} {D:List Int} {w:World} (h:Ints .u8 lo hi w dv D) (hl:D.length<65536) (hk:k=1∨k=2) (hq:0≤q∧q≤15) :
  Calls Tryz.prog 107 #[.agg #[.int .i64 k,.int .i64 q,dv]] w fun e w'=>(∃ v',e=.returned (.tuple #[.agg #[.int .i64 k,v'],.nilIface])∧Ints .u8 w.heap.size w'.heap.size w' v' (q :: D)∧Only [] w w'):=by
 refine hidQ fun Q HPost=>?_
 have HKi:=lh (fun W=>(by have:=kind_any k W;rw [show kindB k=true by unfold kindB;simp;omega] at this;exact this))
 have HBa:=lh (fun W=>(by have:=bare_any k W;rw [show bareB k=false by unfold bareB;simp;omega] at this;exact this))
 obtain ⟨da,dc,rfl,-⟩:=h.open
 have HQ2:Hid (Only [] w ((w.alloc (.cells #[.int .i64 k,.int .i64 q,.slice da D.length dc] 75)).alloc (.cells #[.int .i64 0,.slice none 0 0] 69))):=lh ((Only.new w _).alloc _)
 have HR1:Hid (((w.alloc (.cells #[.int .i64 k,.int .i64 q,.slice da D.length dc] 75)).alloc (.cells #[.int .i64 0,.slice none 0 0] 69)).heap[w.heap.size]?=some (.cells #[.int .i64 k,.int .i64 q,.slice da D.length dc] 75 (0,0))):=lh ((Only.new (w.alloc _) _).row (heap_alloc_new w _))
 have HR2:Hid (((w.alloc (.cells #[.int .i64 k,.int .i64 q,.slice da D.length dc] 75)).alloc (.cells #[.int .i64 0,.slice none 0 0] 69)).heap[w.heap.size+1]?=some (.cells #[.int .i64 0,.slice none 0 0] 69 (0,0))):=lh (heap_alloc_new' (by simp))
 have HZ2:Hid (((w.alloc (.cells #[.int .i64 k,.int .i64 q,.slice da D.length dc] 75)).alloc (.cells #[.int .i64 0,.slice none 0 0] 69)).heap.size=w.heap.size+1+1):=lh (by simp)
 have HI2:=lh (h.quiet HQ2.out)
 have hnl:decide ((65536:Int)≤(D.length:Int))=false:=decide_eq_false (by omega)
 have hnl2:¬ 65536≤D.length:=by omega
 obtain ⟨q0,q1⟩:=hq
 have hqw:IntKind.u8.wrap q=q:=by rw [IntKind.wrap_u8];omega
 have hin:∀ z∈[q],InK .u8 z:=by simp only [mSg,forall_eq,InK];omega
 have HOw:=lh (fun (W:World)=>own_newG (k:=.u8) (w:=W) (t:=5) (l:=[q]) (vs:=#[.int .u8 q]) rfl (by simp [maxLen]) hin 1 rfl rfl)
 obtain ⟨N1,hN1⟩:∃ z,z=(q :: D).length:=⟨_,rfl⟩
 have HN1:=lh hN1
 clear h hl hin hN1
 obtain ⟨a0,a1,a2⟩:=cells3 HR1.out
 go_enter Tryz.func107,Tryz.ntmps107
 go_wp2_with fail
 go_at_call 63
 refine (HKi.out _).mono ?_
 rintro e w3 ⟨rfl,hw3⟩
 subst hw3
 go_wp2_with fail
 go_at_call 64
 refine (HBa.out _).mono ?_
 rintro e w3 ⟨rfl,hw3⟩
 subst hw3
 go_wp2_with fail
 go_at_call 64
 refine (HBa.out _).mono ?_
 rintro e w3 ⟨rfl,hw3⟩
 subst hw3
 go_wp2_with fail
 generalize hW2:World.alloc (World.alloc w _) _=W2 at *
 clear hW2
 have HqA:=lh (Only.new W2 (.cells #[.int .u8 q] 5)).drew
 refine wp_region_held_drew (S:=(fun w'=>w'.cell? ⟨w.heap.size,0,none⟩=some (.int .i64 k)∧w'.cell? ⟨w.heap.size,1,none⟩=some (.int .i64 q)∧w'.cell? ⟨w.heap.size,2,none⟩=some (.slice da D.length dc))) (by kernel_rfl) ?_ (fun hHeld=>?_)
 ·exact ⟨a0,a1,a2⟩
 refine tk 0 53 ?_
 refine tk 1 54 ?_
 refine tk 2 55 ?_
 refine tk 3 56 ?_
 refine tk 4 57 ?_
 refine tk 6 59 ?_
 refine tk 7 60 ?_
 refine rdy (rdc 5 58 (fun K hK=>?_) .nil)
 go_simp
 refine hK.out _ _ ?_ (fun hHeld=>?_)
 ·exact ⟨HqA.out.cell a0 (by simp),HqA.out.cell a1 (by simp),HqA.out.cell a2 (by simp)⟩
 clear hK K
 try simp only [Act.put,List.setIfInBounds_toArray,List.set_cons_zero,List.set_cons_succ]
 refine rdy (rdc 8 61 (fun K hK=>?_) .nil)
 refine wp_append_ints rfl (.tmp 58) (.tmp 60) _ rfl E8 ((HOw.out W2).quiet (Only.refl [] _).drew) rfl (HI2.out.quiet HqA.out) rfl (by simp;omega) (by simp) (fun v1 w1 hown1 hacc1=>?_)
 have hq1:Only [] W2 w1:=HqA.out.acc hacc1 (From.lit (Nat.le_refl _))
 obtain ⟨g1,cap1,hv1,hg1,-⟩:=hown1.form (by simp)
 rw [show ([q] ++ D).length=N1 from HN1.out.symm] at hv1
 subst hv1
 have HQ1:=lh hq1
 have HO1:=lh hown1
 have hr2:=hq1.row HR2.out
 obtain ⟨t0,t1,y0,y1,-⟩:=row2 hr2
 obtain ⟨hrow,hon⟩:=row2_set (x:=.int .i64 k) (y:=.slice (some ⟨g1,0,none⟩) N1 cap1) hr2
 have HRow:=lh hrow
 have HOn:=lh hon
 have e0:=hon.cell (hq1.cell a0 (by simp)) (by simp)
 have e1:=hon.cell (hq1.cell a1 (by simp)) (by simp)
 have e2:=hon.cell (hq1.cell a2 (by simp)) (by simp)
 clear hown1 hacc1 hr2 hrow hon
 refine hK.out _ _ ?_ (fun hHeld=>?_)
 ·exact ⟨hq1.cell a0 (by simp),hq1.cell a1 (by simp),hq1.cell a2 (by simp)⟩
 clear hK K
 try simp only [Act.put,List.setIfInBounds_toArray,List.set_cons_zero,List.set_cons_succ]
 refine tk 9 62 ?_
 refine rdy (rdn 10 (fun K hK=>?_) .nil)
 go_simp
 refine hK.out _ _ ?_ (fun hHeld=>?_)
 ·exact ⟨e0,e1,e2⟩
 clear hK K
 try simp only [Act.put,List.setIfInBounds_toArray,List.set_cons_zero,List.set_cons_succ]
 refine tk 11 3 ?_
 refine wpAnyH_done (by kernel_rfl) ?_ _
 go_wp2_with fail
 refine bodyPost_ret (v:=.tuple #[.agg #[.int .i64 k,.slice (some ⟨g1,0,none⟩) N1 cap1],.nilIface]) (results_cell_row2 Tryz.results107 _ _ (w.heap.size+1) _ _ _ _ _ rfl rfl HRow.out Tryz.underlying69 rfl (by kernel_rfl)) rfl (HPost.out _ _ ⟨_,rfl,?_,?_⟩)
 ·have h3:=(HO1.out.only HOn.out (fun g hg e=>by rw [mSg] at hg;simp only [Value.ownBlock,Option.some.injEq] at e;have:=HZ2.out;omega)).ints
  exact h3.mono (by have:=HZ2.out;omega) (Nat.le_refl _)
 ·exact (HQ2.out.q HQ1.out).trans HOn.out (by simp) (fun g hg hlt=>by rw [mSg] at hg;omega)
/-- what is wrong with frames and numbers that are to be coded -/
def checkE (src prev:FrameD) (key:Bool) (qp reach:Int):Option Int :=
 if mayF src=false then some 2 else if (!key && !matesB prev src.W src.H)=true then some 12 else if qp<0∨15<qp∨reach<0∨7<reach then some 3 else none
theorem qEPack0 {p:Prop} (h:p:=by
 go_wp2_with fail
 exact HPost.out _ _ ⟨⟨_,rfl,rfl⟩,HQw.out⟩):p:=h
theorem echeck_any {lo hi lo' hi':Nat} {sv pv:Value} {src prev:FrameD} {w:World} (key:Bool) (qp reach:Int) (hs:Ints .i64 lo hi w sv src.pix) (hp:Ints .i64 lo' hi' w pv prev.pix) :
  Calls Tryz.prog 104 #[.agg #[.int .i64 src.W,.int .i64 src.H,sv],.agg #[.int .i64 prev.W,.int .i64 prev.H,pv],.bool key,.int .i64 qp,.int .i64 reach] w fun e w'=>(∃ u,e=.returned u∧CodeV u (checkE src prev key qp reach))∧Only [] w w':=by
 refine hidQ fun Q HPost=>?_
 have HMs:=lh (fun (W:World) (o:Only [] w W)=>pmay_any src.W src.H (hs.quiet o))
 have HMp:=lh (fun (W:World) (o:Only [] w W)=>pmay_any prev.W prev.H (hp.quiet o))
 have HMa:Hid (matesB prev src.W src.H=(mayF prev && decide (prev.W=src.W) && decide (prev.H=src.H))):=lh rfl
 have HC:Hid (checkE src prev key qp reach=if mayF src=false then some 2 else if (!key && !matesB prev src.W src.H)=true then some 12 else if qp<0∨15<qp∨reach<0∨7<reach then some 3 else none):=lh rfl
 rw [show (⟨src.W,src.H,src.pix⟩:FrameD)=src from rfl] at HMs
 rw [show (⟨prev.W,prev.H,prev.pix⟩:FrameD)=prev from rfl] at HMp
 obtain ⟨sa,sc,rfl,-⟩:=hs.open
 obtain ⟨pa,pc,rfl,-⟩:=hp.open
 generalize checkE src prev key qp reach=CK at *
 generalize matesB prev src.W src.H=MB at *
 generalize mayF src=ms at *
 generalize mayF prev=mp at *
 clear hs hp
 have HQ2:Hid (Only [] w ((w.alloc (.cells #[.int .i64 src.W,.int .i64 src.H,.slice sa src.pix.length sc] 73)).alloc (.cells #[.int .i64 prev.W,.int .i64 prev.H,.slice pa prev.pix.length pc] 73))):=lh ((Only.new w _).alloc _)
 have HR1:Hid (((w.alloc (.cells #[.int .i64 src.W,.int .i64 src.H,.slice sa src.pix.length sc] 73)).alloc (.cells #[.int .i64 prev.W,.int .i64 prev.H,.slice pa prev.pix.length pc] 73)).heap[w.heap.size]?=some (.cells #[.int .i64 src.W,.int .i64 src.H,.slice sa src.pix.length sc] 73 (0,0))):=lh ((Only.new (w.alloc _) _).row (heap_alloc_new w _))
 have HR2:Hid (((w.alloc (.cells #[.int .i64 src.W,.int .i64 src.H,.slice sa src.pix.length sc] 73)).alloc (.cells #[.int .i64 prev.W,.int .i64 prev.H,.slice pa prev.pix.length pc] 73)).heap[w.heap.size+1]?=some (.cells #[.int .i64 prev.W,.int .i64 prev.H,.slice pa prev.pix.length pc] 73 (0,0))):=lh (heap_alloc_new' (by simp))
 obtain ⟨a0,a1,a2⟩:=frame_cells HR1.out
 go_enter Tryz.func104,Tryz.ntmps104
 go_wp2_with fail
 generalize hW2:World.alloc (World.alloc w _) _=W2 at *
 clear hW2 a0 a1 a2
 go_at_call 79
 refine (HMs.out W2 HQ2.out).mono ?_
 rintro e w3 ⟨rfl,hq3⟩
 have HQ3:=lh hq3
 clear hq3
 cases ms with
 | false =>
  have hck:CK=some 2:=by rw [HC.out];rfl
  rw [hck] at HPost
  clear hck
  go_wp2_with fail
  exact HPost.out _ _ ⟨⟨_,rfl,rfl⟩,HQ2.out.q HQ3.out⟩
 | true =>
  have HC2:Hid (CK=if (!key && !MB)=true then some 12 else if qp<0∨15<qp∨reach<0∨7<reach then some 3 else none):=lh (by rw [HC.out];rfl)
  clear HC
  obtain ⟨s0,s1,s2⟩:=frame_cells (HQ3.out.row HR1.out)
  obtain ⟨p0,p1,p2⟩:=frame_cells (HQ3.out.row HR2.out)
  go_upto_region 3 with (fail)
  go_cut [16] (fun s16 wx=>s16=.bool (!key && !MB)∧Hid (Only [] w3 wx))
  case first =>
   cases key with
   | true =>
    go_wp2_with fail
    go_meet
    exact ⟨rfl,lh (Only.refl _ _)⟩
   | false =>
    go_wp2_with fail
    go_at_call 79
    refine (HMp.out w3 (HQ2.out.q HQ3.out)).mono ?_
    rintro e w4 ⟨rfl,hq4⟩
    have HQ4:=lh hq4
    clear hq4
    cases mp with
    | false =>
     have hm:MB=false:=by rw [HMa.out];rfl
     subst hm
     go_wp2_with fail
     go_meet
     exact ⟨rfl,HQ4⟩
    | true =>
     obtain ⟨s0,s1,s2⟩:=frame_cells ((HQ3.out.q HQ4.out).row HR1.out)
     obtain ⟨p0,p1,p2⟩:=frame_cells ((HQ3.out.q HQ4.out).row HR2.out)
     by_cases hw:prev.W=src.W
     ·by_cases hh:prev.H=src.H
      ·have hm:MB=true:=by rw [HMa.out,hw,hh];simp
       subst hm
       have b1:(prev.W != src.W)=false:=by rw [hw];simp
       have b2:(prev.H != src.H)=false:=by rw [hh];simp
       clear hw hh
       go_wp2_with fail
       go_meet
       exact ⟨rfl,HQ4⟩
      ·have hm:MB=false:=by rw [HMa.out];simp [hh]
       subst hm
       have b1:(prev.W != src.W)=false:=by rw [hw];simp
       have b2:(prev.H != src.H)=true:=by simpa using hh
       clear hw hh
       go_wp2_with fail
       go_meet
       exact ⟨rfl,HQ4⟩
     ·have hm:MB=false:=by rw [HMa.out];simp [hw]
      subst hm
      have b1:(prev.W != src.W)=true:=by simpa using hw
      clear hw
      go_wp2_with fail
      go_meet
      exact ⟨rfl,HQ4⟩
  case rest =>
   obtain ⟨rfl,HQc⟩:=hcut
   have HQw:=lh ((HQ2.out.q HQ3.out).q HQc.out)
   cases hb:(!key && !MB) with
   | true =>
    have hck:CK=some 12:=by rw [HC2.out,hb];rfl
    rw [hck] at HPost
    clear hck hb
    exact qEPack0
   | false =>
    have HC3:Hid (CK=if qp<0∨15<qp∨reach<0∨7<reach then some 3 else none):=lh (by rw [HC2.out,hb];rfl)
    clear hb HC2
    by_cases hx:qp<0∨15<qp∨reach<0∨7<reach
    ·rw [HC3.out,if_pos hx] at HPost
     by_cases h1:qp<0
     ·clear hx
      exact qEPack0
     ·by_cases h2:15<qp
      ·clear hx
       exact qEPack0
      ·by_cases h3:reach<0
       ·clear hx
        exact qEPack0
       ·have h4:7<reach:=by omega
        clear hx
        exact qEPack0
    ·rw [HC3.out,if_neg hx] at HPost
     have h1:¬ qp<0:=by omega
     have h2:¬ 15<qp:=by omega
     have h3:¬ reach<0:=by omega
     have h4:¬ 7<reach:=by omega
     clear hx
     exact qEPack0
end
end Go.Proofs.YtkigikallkpbcaaGreatDoor
