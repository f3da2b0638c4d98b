/- kinlaw23.GopSums: a chunk's bytes are eleven and what its frames cost. Conditions: the chunk reads. -/
import Derived.Test.YtkigikallkpbcaaGreatDoorT1
import Derived.Test.YtkigikallkpbcaaGreatDoorGC
import Derived.Deep.DeepCutAuto
namespace Go.Proofs.YtkigikallkpbcaaGreatDoor
open Go.RowKit
set_option linter.unusedVariables false
set_option linter.unusedSimpArgs false
set_option maxRecDepth 100000
set_option maxHeartbeats 16000000
theorem qGSumWt0 {p:Prop} (h:p:=by intro wz hSw;obtain ⟨hS0,s0,c0,c1⟩:=hSw;obtain ⟨r0,r1,r2,r3⟩:=row4_cells hS0;go_simp;try with_reducible rfl):p:=h
theorem qGSumWt1 {p:Prop} (h:p:=by intro wz hSw;obtain ⟨r0,r1,r2,r3⟩:=row4_cells hSw;go_simp;try with_reducible rfl):p:=h
theorem sum_take {l:List Int} {k:Nat} (h:k<l.length):(l.take (k+1)).sum=(l.take k).sum+l.getD k 0:=by
 rw [List.take_succ_eq_append_getElem h,List.sum_append,List.getD_eq_getElem?_getD,List.getElem?_eq_getElem h]
 simp
theorem sum_bound:∀ (l:List Int),(∀ x∈l,0≤x∧x≤30000)→0≤l.sum∧l.sum≤30000*l.length
 | [],_=>by simp
 | x :: l,h=>by
  have h1:=h x (by simp)
  have h2:=sum_bound l (fun y hy=>h y (by simp [hy]))
  rw [List.sum_cons,List.length_cons]
  omega
section
theorem qGSumW0 {p:Prop} (h:p:=by
 refine tkw 16 71 ⟨rfl,qGSumWt1⟩ ?_
 refine tkw 17 72 ⟨rfl,qGSumWt1⟩ ?_
 refine tkw 18 2 ⟨rfl,qGSumWt1⟩ ?_
 refine wpAnyH_done (by kernel_rfl) ?_ _
 go_wp2_with fail
 exact HPost.out _ _ ⟨rfl,by first | exact HQA.out | exact HQA.out.drew⟩):p:=h
theorem gsums_any {dv:Value} {c:Chunk} {w:World} (h:CodedsAt 0 w.heap.size w dv c.coded) (hc:ChunkOk c) (hE:ErrT w) :
  Calls Tryz.prog 7 #[.agg #[.int .i64 c.number,.int .i64 c.first,.int .i64 c.count,dv]] w fun e w'=>e=.returned (.bool true)∧Only [] w w':=by
 refine hidQ fun Q HPost=>?_
 have HFi:=lh (fun (W:World) (o:Only [] w W)=>gfirst1_any W (hE.quiet o))
 have HFw:=lh (fun (W:World) (o:Only [] w W)=>Few_any (h.quiet o))
 have HPk:=lh (fun (W:World) (o:Only [] w W)=>gpack_any (h.quiet o) hc)
 have HMy:=lh (fun (W:World) (o:Only [] w W)=>gmay_any (h.quiet o) hc)
 have HSz:=lh (fun (W:World) (o:Only [] w W) (hf:fewB c.coded=true)=>sizes_any (h.quiet o) (by have:=few_len hf;omega) (fun i hi=>by have:=few_small hf _ (getD_mem hi);omega))
 have HH:=lh h
 have HBy:Hid (chunkB c=true→ChunkBy c):=lh (fun hb=>⟨hb,fun x hx=>by
  obtain ⟨i,hi,rfl⟩:=List.mem_iff_getElem.1 hx
  obtain ⟨_,_,-,-,-,hel⟩:=h.open
  obtain ⟨_,_,_,-,-,-,-,-,-,hd⟩:=hel i hi
  have h2:=hd.2
  rwa [List.getD_eq_getElem?_getD,List.getElem?_eq_getElem hi] at h2⟩)
 have HNo:Hid (chunkB c=false→∀ b:Bool,b=chunkB c→b=false):=lh (fun h b e=>e.trans h)
 unfold PackP at HPk
 have HPl:Hid (((packB c).length:Int)=11+(sizesOf c.coded).sum):=lh (packB_len c)
 have HCk:Hid (∃ z,z=c):=lh ⟨c,rfl⟩
 generalize hCB:chunkB c=CB at *
 generalize hPB:packB c=PB at *
 have HCB:=lh hCB
 have HPB:=lh hPB
 clear hCB hPB HCk
 obtain ⟨ca,cc,hdv,-⟩:∃ a n,dv=.slice a c.coded.length n∧True:=by obtain ⟨a,n,e,-⟩:=h.open;exact ⟨a,n,e,trivial⟩
 subst hdv
 obtain ⟨num,fst,cnt,cs⟩:=c
 simp only at h HFw HPk HMy HSz HH HPl
 have hq1:=Only.new w (.cells #[.int .i64 num,.int .i64 fst,.int .i64 cnt,.slice ca cs.length cc] 26)
 have HQ1:=lh hq1
 have HR1:=lh (heap_alloc_new w (.cells #[.int .i64 num,.int .i64 fst,.int .i64 cnt,.slice ca cs.length cc] 26))
 have hmx:=h.open
 obtain ⟨_,_,hce,hlc,hmax,hat⟩:=hmx
 injection hce with e1 e2 e3
 subst e1;subst e3
 have Hat:=lh hat
 have hll:(cs.length:Int)≤9223372036854775807:=by unfold maxLen at hmax;omega
 have HFs:=lh (fun (hf:fewB cs=true) (i:Nat) (hi:i<(sizesOf cs).length)=>show 0≤(sizesOf cs).getD i 0∧(sizesOf cs).getD i 0≤30000 from by
  unfold sizesOf at hi ⊢
  rw [List.length_map] at hi
  rw [getD_of_map (d:=default) _ hi]
  have:=few_small hf _ (getD_mem hi)
  unfold costOf
  omega)
 have HSl:Hid ((sizesOf cs).length=cs.length):=lh (by unfold sizesOf;rw [List.length_map])
 have HSg:Hid (∀ i,i<cs.length→(sizesOf cs).getD i 0=((cs.getD i default).data.length:Int)+8):=lh (fun i hi=>by
  unfold sizesOf
  rw [getD_of_map (d:=default) _ hi]
  rfl)
 clear h hc hE hq1 hat hmax hlc e2
 go_enter Tryz.func7,Tryz.ntmps7
 go_wp2_with fail
 generalize hW1:World.alloc w _=W1 at *
 clear hW1
 obtain ⟨BX,hBX⟩:∃ z,z=w.heap.size:=⟨_,rfl⟩
 rw [← hBX] at HR1 ⊢
 clear hBX
 go_at_call 9
 refine (HFi.out _ HQ1.out).mono ?_
 rintro e w2 ⟨rfl,hq2⟩
 have HQ2:=lh (HQ1.out.q hq2)
 have HR2:=lh (hq2.row HR1.out)
 clear hq2
 obtain ⟨r0,r1,r2,r3⟩:=row4_cells HR2.out
 go_wp2_with fail
 go_at_call 10
 refine (HFw.out _ HQ2.out).mono ?_
 rintro e w3 ⟨rfl,hw3⟩
 subst hw3
 cases hfw:fewB cs with
 | false =>
  clear hfw
  go_wp2_with fail
  go_at_call 9
  refine (HFi.out _ HQ2.out).mono ?_
  rintro e w4 ⟨rfl,hq4⟩
  have HQ4:=lh (HQ2.out.q hq4)
  clear hq4
  go_wp2_with fail
  exact HPost.out _ _ ⟨rfl,HQ4.out⟩
 | true =>
  have HSzt:=lh (fun (W:World) (o:Only [] w W)=>HSz.out W o hfw)
  have HFt:=lh (HFs.out hfw)
  have HFl:=lh (few_len hfw)
  clear hfw HSz HFs
  go_wp2_with fail
  clear r0 r1 r2 r3
  go_at_call 21
  refine (HSzt.out _ HQ2.out).mono ?_
  rintro e w4 ⟨sv,rfl,hsz,hq4⟩
  have HQ4:=lh (HQ2.out.q hq4)
  have HR4:=lh (hq4.row HR2.out)
  have HSi:=lh hsz.ints
  obtain ⟨sa,sc,hsv,-,-,hsb,hsc⟩:=hsz.ints.open
  subst hsv
  have HSb:=lh hsb
  have HSc:=lh hsc
  clear hq4 hsz hsb hsc HSzt
  generalize hsl:(sizesOf cs).length=sl at *
  have hsl2:=HSl.out
  subst hsl2
  clear hsl HSl
  obtain ⟨r0,r1,r2,r3⟩:=row4_cells HR4.out
  go_wp2_with fail
  clear r0 r1 r2 r3
  go_at_call 12
  refine (HPk.out _ HQ4.out).mono ?_
  rintro e w5 ⟨hq5,hm5⟩
  obtain ⟨pa,pn,pc,pe,rfl,hpt,hpf⟩:∃ pa pn pc pe,e=.returned (.tuple #[.slice pa pn pc,pe])∧(CB=true→pe=.nilIface∧pn=PB.length)∧(CB=false→pe=.iface 35 (.int .i64 2)):=by
   cases CB with
   | true =>
    obtain ⟨v,rfl,ho⟩:=hm5
    obtain ⟨a,n,rfl,-⟩:=ho.ints.open
    exact ⟨a,_,n,_,rfl,(fun _=>⟨rfl,rfl⟩),(fun h=>by cases h)⟩
   | false=>exact ⟨_,_,_,_,hm5,(fun h=>by cases h),(fun _=>rfl)⟩
  have HPt:=lh hpt
  have HPf:=lh hpf
  have HQ5:=lh (HQ4.out.q hq5)
  have HQ45:=lh hq5
  have HR5:=lh (hq5.row HR4.out)
  clear hq5 hm5 hpt hpf HPk
  go_wp2_with fail
  go_loopw [7,6] (fun i n wr=>∃ k:Nat,k≤cs.length∧i=.int .i64 k∧n=.int .i64 (11+((sizesOf cs).take k).sum)∧Hid (Only [] w5 wr)) (fun i _ _=>cs.length-(intOf i).toNat)
  case atStart=>exact ⟨0,by omega,rfl,by simp,lh (Only.refl _ _)⟩
  case round =>
   obtain ⟨k,hk,rfl,rfl,HQr⟩:=hrel
   have HQ:=lh (HQ5.out.q HQr.out)
   have HB:=lh (HQr.out.row HR5.out)
   obtain ⟨r0,r1,r2,r3⟩:=row4_cells HB.out
   by_cases hlt:k<cs.length
   ·have hki:(k:Int)<(cs.length:Int):=by omega
    have hk0:(0:Int)≤(k:Int):=by omega
    obtain ⟨cb,coff,dv,rfl,-,-,hc0,hc1,-,hd⟩:=Hat.out k hlt
    obtain ⟨sb,soff,rfl,-,-⟩:=HSb.out k hlt
    have hs0:=HSc.out sb soff rfl k hlt
    have hx:=HSg.out k hlt
    have hb:=HFt.out k hlt
    have hsum:=sum_bound ((sizesOf cs).take k) (fun y hy=>by
     obtain ⟨i,hi,rfl⟩:=List.mem_iff_getElem.1 (List.mem_of_mem_take hy)
     have h:=HFt.out i (by first | exact hi | (unfold sizesOf at hi;rwa [List.length_map] at hi))
     rwa [List.getD_eq_getElem?_getD,List.getElem?_eq_getElem hi] at h)
    have hst:=sum_take (l:=sizesOf cs) (k:=k) (by unfold sizesOf;rw [List.length_map];exact hlt)
    have hlk:(((sizesOf cs).take k).length:Int)≤40:=by have:=HFl.out;rw [List.length_take];omega
    generalize (sizesOf cs).getD k 0=s at *
    generalize cs.getD k default=x at *
    obtain ⟨da,dc,rfl,-⟩:=hd.open
    have hq45:=HQ45.out.q HQr.out
    have HSS:Hid (∀ wx:World,Only [] wr wx→wx.heap[BX]?=some (.cells #[.int .i64 num,.int .i64 fst,.int .i64 cnt,.slice (some ⟨cb,coff,none⟩) cs.length cc] 26 (0,0))∧wx.cell? ⟨sb,soff+k,none⟩=some (.int .i64 s)∧wx.cell? ⟨cb,coff+k*2,none⟩=some (.int .i64 x.kind)∧wx.cell? ⟨cb,coff+k*2+1,none⟩=some (.slice da x.data.length dc)):=lh (fun wx o=>⟨o.row HB.out,(hq45.q o).cell hs0 (by simp),(HQ.out.q o).cell hc0 (by simp),(HQ.out.q o).cell hc1 (by simp)⟩)
    have HCo:Hid (∀ (W:World) (o:Only [] wr W),Calls Tryz.prog 30 #[.agg #[.int .i64 x.kind,.slice da x.data.length dc]] W fun e w'=>e=.returned (.int .i64 s)∧Only [] W w'):=lh (fun W o=>by
     have h:=cost_any (k:=x.kind) (hd.quiet (HQ.out.q o)) (by omega)
     rw [hx]
     exact h)
    have Hst:=lh hst
    obtain ⟨T,hT⟩:∃ z,z=((sizesOf cs).take k).sum:=⟨_,rfl⟩
    rw [← hT] at hsum Hst ⊢
    have hw1:IntKind.i64.wrap (11+T+s)=11+T+s:=by rw [IntKind.wrap_i64];omega
    clear hst hlk hsum hb hd hc0 hc1 hs0 hx hq45 hT
    go_upto_region 11 with (fail)
    clear r0 r1 r2 r3
    refine wp_region_held_drew (S:=(fun wz=>wz.heap[BX]?=some (.cells #[.int .i64 num,.int .i64 fst,.int .i64 cnt,.slice (some ⟨cb,coff,none⟩) cs.length cc] 26 (0,0))∧wz.cell? ⟨sb,soff+k,none⟩=some (.int .i64 s)∧wz.cell? ⟨cb,coff+k*2,none⟩=some (.int .i64 x.kind)∧wz.cell? ⟨cb,coff+k*2+1,none⟩=some (.slice da x.data.length dc))) (by kernel_rfl) ?_ (fun hHeld=>?_)
    ·first | exact HSS.out _ (Only.refl _ _) | exact HSS.out _ (Only.refl _ _).drew
    refine tkw 0 30 ⟨rfl,qGSumWt0⟩ ?_
    refine tkw 1 31 ⟨rfl,qGSumWt0⟩ ?_
    refine tkw 2 32 ⟨rfl,qGSumWt0⟩ ?_
    refine tkw 3 33 ⟨rfl,qGSumWt0⟩ ?_
    refine tkw 4 34 ⟨rfl,qGSumWt0⟩ ?_
    refine tkw 5 35 ⟨rfl,qGSumWt0⟩ ?_
    refine tkw 6 36 ⟨rfl,qGSumWt0⟩ ?_
    refine tkw 7 37 ⟨rfl,qGSumWt0⟩ ?_
    refine tkw 8 38 ⟨rfl,qGSumWt0⟩ ?_
    refine tkw 9 39 ⟨rfl,qGSumWt0⟩ ?_
    refine tkw 10 40 ⟨rfl,qGSumWt0⟩ ?_
    refine tkw 11 41 ⟨rfl,qGSumWt0⟩ ?_
    refine tkw 12 42 ⟨rfl,qGSumWt0⟩ ?_
    refine tkw 13 43 ⟨rfl,qGSumWt0⟩ ?_
    refine tkw 14 44 ⟨rfl,qGSumWt0⟩ ?_
    refine tkw 15 45 ⟨rfl,qGSumWt0⟩ ?_
    refine rdy (rdc 16 46 (fun K hK=>?_) .nil)
    go_simp
    go_at_call 30
    refine (HCo.out _ (by first | exact Only.refl _ _ | exact (Only.refl _ _).drew)).mono ?_
    rintro e w9 ⟨rfl,hq⟩
    have HQ9:Hid (Only [] wr w9):=lh (by first | exact hq | exact (Only.refl _ _).drew.q hq)
    clear hq
    refine hK.out _ _ ?_ (fun hHeld=>?_)
    ·exact HSS.out _ HQ9.out
    clear hK K
    try simp only [Act.put,List.setIfInBounds_toArray,List.set_cons_zero,List.set_cons_succ]
    refine tkw 17 47 ⟨rfl,qGSumWt0⟩ ?_
    refine tkw 18 48 ⟨rfl,qGSumWt0⟩ ?_
    refine wpAnyH_done (by kernel_rfl) ?_ _
    have HB9:=lh (HQ9.out.row HB.out)
    have hs9:=(HSS.out _ HQ9.out).2.1
    go_wp2_with fail
    exact ⟨⟨k+1,by omega,by go_num,by rw [Hst.out,← Int.add_assoc],lh (by first | exact HQr.out.q HQ9.out | exact (HQr.out.q HQ9.out).drew)⟩,by simp [intOf];omega⟩
   ·obtain rfl:k=cs.length:=by omega
    have hx:¬ (cs.length:Int)<(cs.length:Int):=by omega
    have hT0:((sizesOf cs).take cs.length).sum=(sizesOf cs).sum:=by rw [List.take_of_length_le (by unfold sizesOf;rw [List.length_map];omega)]
    rw [hT0]
    cases CB with
    | true =>
     obtain ⟨rfl,rfl⟩:=HPt.out rfl
     have hpl:=HPl.out
     go_upto_region 14 with (fail)
     clear r0 r1 r2 r3
     refine wp_region_held_drew (S:=(fun wz=>wz.heap[BX]?=some (.cells #[.int .i64 num,.int .i64 fst,.int .i64 cnt,.slice ca cs.length cc] 26 (0,0)))) (by kernel_rfl) ?_ (fun hHeld=>?_)
     ·first | exact HB.out | exact (Only.refl [] _).drew.row HB.out
     refine rdy (rdc 0 55 (fun K hK=>?_) .nil)
     go_simp
     go_at_call 9
     refine (HFi.out _ (by first | exact HQ.out | exact HQ.out.drew)).mono ?_
     rintro e w9 ⟨rfl,hq⟩
     have HQ9:Hid (Only [] w w9):=lh (by first | exact HQ.out.q hq | exact HQ.out.drew.q hq)
     have HB9:Hid (w9.heap[BX]?=some (.cells #[.int .i64 num,.int .i64 fst,.int .i64 cnt,.slice ca cs.length cc] 26 (0,0))):=lh (by first | exact hq.row HB.out | exact hq.row ((Only.refl [] _).drew.row HB.out))
     clear hq
     refine hK.out _ _ ?_ (fun hHeld=>?_)
     ·exact HB9.out
     clear hK K
     try simp only [Act.put,List.setIfInBounds_toArray,List.set_cons_zero,List.set_cons_succ]
     refine tkw 1 56 ⟨rfl,qGSumWt1⟩ ?_
     refine tkw 2 57 ⟨rfl,qGSumWt1⟩ ?_
     refine tkw 3 58 ⟨rfl,qGSumWt1⟩ ?_
     refine tkw 4 59 ⟨rfl,qGSumWt1⟩ ?_
     refine rdy (rdc 5 60 (fun K hK=>?_) .nil)
     go_simp
     go_at_call 15
     refine (HMy.out _ (by first | exact HQ9.out | exact HQ9.out.drew)).mono ?_
     rintro e wA ⟨rfl,hq⟩
     have HQA:Hid (Only [] w wA):=lh (by first | exact HQ9.out.q hq | exact HQ9.out.drew.q hq)
     have HBA:Hid (wA.heap[BX]?=some (.cells #[.int .i64 num,.int .i64 fst,.int .i64 cnt,.slice ca cs.length cc] 26 (0,0))):=lh (by first | exact hq.row HB9.out | exact hq.row ((Only.refl [] _).drew.row HB9.out))
     clear hq
     refine hK.out _ _ ?_ (fun hHeld=>?_)
     ·exact HBA.out
     clear hK K
     try simp only [Act.put,List.setIfInBounds_toArray,List.set_cons_zero,List.set_cons_succ]
     refine tkw 6 61 ⟨rfl,qGSumWt1⟩ ?_
     refine tkw 7 62 ⟨rfl,qGSumWt1⟩ ?_
     refine tkw 8 63 ⟨rfl,qGSumWt1⟩ ?_
     refine tkw 9 64 ⟨rfl,qGSumWt1⟩ ?_
     refine tkw 10 65 ⟨rfl,qGSumWt1⟩ ?_
     refine tkw 11 66 ⟨rfl,qGSumWt1⟩ ?_
     refine tkw 12 67 ⟨rfl,qGSumWt1⟩ ?_
     refine tkw 13 68 ⟨rfl,qGSumWt1⟩ ?_
     refine tkw 14 69 ⟨rfl,qGSumWt1⟩ ?_
     refine tkw 15 70 ⟨rfl,qGSumWt1⟩ ?_
     exact qGSumW0
    | false =>
     obtain rfl:=HPf.out rfl
     go_upto_region 14 with (fail)
     clear r0 r1 r2 r3
     refine wp_region_held_drew (S:=(fun wz=>wz.heap[BX]?=some (.cells #[.int .i64 num,.int .i64 fst,.int .i64 cnt,.slice ca cs.length cc] 26 (0,0)))) (by kernel_rfl) ?_ (fun hHeld=>?_)
     ·first | exact HB.out | exact (Only.refl [] _).drew.row HB.out
     refine rdy (rdc 0 55 (fun K hK=>?_) .nil)
     go_simp
     go_at_call 9
     refine (HFi.out _ (by first | exact HQ.out | exact HQ.out.drew)).mono ?_
     rintro e w9 ⟨rfl,hq⟩
     have HQ9:Hid (Only [] w w9):=lh (by first | exact HQ.out.q hq | exact HQ.out.drew.q hq)
     have HB9:Hid (w9.heap[BX]?=some (.cells #[.int .i64 num,.int .i64 fst,.int .i64 cnt,.slice ca cs.length cc] 26 (0,0))):=lh (by first | exact hq.row HB.out | exact hq.row ((Only.refl [] _).drew.row HB.out))
     clear hq
     refine hK.out _ _ ?_ (fun hHeld=>?_)
     ·exact HB9.out
     clear hK K
     try simp only [Act.put,List.setIfInBounds_toArray,List.set_cons_zero,List.set_cons_succ]
     refine tkw 1 56 ⟨rfl,qGSumWt1⟩ ?_
     refine tkw 2 57 ⟨rfl,qGSumWt1⟩ ?_
     refine tkw 3 58 ⟨rfl,qGSumWt1⟩ ?_
     refine tkw 4 59 ⟨rfl,qGSumWt1⟩ ?_
     refine rdy (rdc 5 60 (fun K hK=>?_) .nil)
     go_simp
     go_at_call 15
     refine (HMy.out _ (by first | exact HQ9.out | exact HQ9.out.drew)).mono ?_
     rintro e wA ⟨rfl,hq⟩
     have HQA:Hid (Only [] w wA):=lh (by first | exact HQ9.out.q hq | exact HQ9.out.drew.q hq)
     have HBA:Hid (wA.heap[BX]?=some (.cells #[.int .i64 num,.int .i64 fst,.int .i64 cnt,.slice ca cs.length cc] 26 (0,0))):=lh (by first | exact hq.row HB9.out | exact hq.row ((Only.refl [] _).drew.row HB9.out))
     clear hq
     refine hK.out _ _ ?_ (fun hHeld=>?_)
     ·exact HBA.out
     clear hK K
     try simp only [Act.put,List.setIfInBounds_toArray,List.set_cons_zero,List.set_cons_succ]
     refine tkw 6 61 ⟨rfl,qGSumWt1⟩ ?_
     refine tkw 7 62 ⟨rfl,qGSumWt1⟩ ?_
     refine tkw 8 63 ⟨rfl,qGSumWt1⟩ ?_
     refine tkw 9 64 ⟨rfl,qGSumWt1⟩ ?_
     refine tkw 10 65 ⟨rfl,qGSumWt1⟩ ?_
     refine tkw 11 66 ⟨rfl,qGSumWt1⟩ ?_
     refine tkn 12 67 ?_
     refine tkn 13 68 ?_
     refine tkn 14 69 ?_
     refine tkn 15 70 ?_
     exact qGSumW0
end
end Go.Proofs.YtkigikallkpbcaaGreatDoor
