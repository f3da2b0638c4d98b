/- kinlaw23.GopBack: a chunk comes back of its bytes; cut off, or with a byte more, they are refused. Conditions: the chunk reads. -/
import Derived.Test.YtkigikallkpbcaaGreatDoorGC
import Derived.Deep.DeepCutAuto
namespace Go.Proofs.YtkigikallkpbcaaGreatDoor
open Go.RowKit
set_option linter.unusedVariables false
set_option linter.unusedSimpArgs false
set_option maxRecDepth 100000
set_option maxHeartbeats 16000000
theorem qGBaWt0 {p:Prop} (h:p:=by intro wz hSw;obtain ⟨hS0,hS1⟩:=hSw;obtain ⟨r0,r1,r2,r3⟩:=row4_cells hS0;obtain ⟨q0,q1,q2,q3⟩:=row4_cells hS1;go_simp;try with_reducible rfl):p:=h
theorem ints_upto {k:IntKind} {lo hi:Nat} {w:World} {a:Option Addr} {cap:Nat} {l:List Int} (h:Ints k lo hi w (.slice a l.length cap) l) {n:Nat} (hn:n≤l.length):Ints k lo hi w (.slice a n cap) (l.take n):=by
 obtain ⟨⟨h1,a',c',e,h3,h4,h5⟩,h6⟩:=h
 injection e with e1 e2 e3
 subst e1;subst e3
 have hl:(l.take n).length=n:=by rw [List.length_take];omega
 refine ⟨⟨by simp,a,cap,by rw [hl],by rw [hl];omega,h4,fun hp=>?_⟩,fun x hx=>h6 x (List.mem_of_mem_take hx)⟩
 obtain ⟨b,off,e,x,y,hc⟩:=h5 (by rw [hl] at hp;omega)
 refine ⟨b,off,e,x,y,fun j u hu=>hc j u ?_⟩
 rw [List.map_take,List.getElem?_take] at hu
 split at hu
 ·exact hu
 ·cases hu
theorem pack_le {c:Chunk} (h:ChunkBy c):(packB c).length≤2000000:=by
 obtain ⟨h1,h2,h3,h4⟩:=chunkBy_parts h
 unfold packB
 have:=flat_le' c.coded (fun x hx=>(readB_none (h4 x hx).1).2.2)
 unfold headB at h1
 rw [decide_eq_true_eq] at h1
 rw [List.length_append,unitB_length]
 simp only [List.length_cons,List.length_nil]
 omega
section
/-- what is refused -/
theorem refused {l:List Int} {w w':World} {e:Ending} (h:ParseP l w e w') (hn:∀ U E,SplAt l E 0 U→∃ er,parseE U E=.error er):Only [] w w'∧∃ t u,e=.returned (.tuple #[.agg #[.int .i64 0,.int .i64 0,.int .i64 0,.slice none 0 0],.iface t u]):=by
 obtain ⟨o,U,E,hs,hm⟩:=h
 obtain ⟨er,he⟩:=hn U E hs
 rw [he] at hm
 obtain ⟨ev,rfl,hv⟩:=hm
 obtain ⟨t,u,rfl⟩:=hv.held
 exact ⟨o,t,u,rfl⟩
theorem gback_any {dv:Value} {c:Chunk} {at0:Int} {w:World} (h:CodedsAt 0 w.heap.size w dv c.coded) (hc:ChunkOk c) (hat:InK .i64 at0) (hE:ErrT w) :
  Calls Tryz.prog 5 #[.agg #[.int .i64 c.number,.int .i64 c.first,.int .i64 c.count,dv],.int .i64 at0] w fun e w'=>e=.returned (.bool true)∧Only [] w w':=by
 refine hidQ fun Q HPost=>?_
 have HFi:=lh (fun (W:World) (o:Only [] w W)=>gfirst1_any W (hE.quiet o))
 have HFw:=lh (fun (W:World) (o:Only [] w W)=>Few_any (h.quiet o))
 have HPk:=lh (fun (W:World) (o:Only [] w W)=>gpack_any (h.quiet o) hc)
 have HMy:=lh (fun (W:World) (o:Only [] w W)=>gmay_any (h.quiet o) hc)
 have HH:=lh h
 have HBy:Hid (chunkB c=true→ChunkBy c):=lh (fun hb=>⟨hb,fun x hx=>by
  obtain ⟨i,hi,rfl⟩:=List.mem_iff_getElem.1 hx
  obtain ⟨_,_,-,-,-,hel⟩:=h.open
  obtain ⟨_,_,_,-,-,-,-,-,-,hd⟩:=hel i hi
  have h2:=hd.2
  rwa [List.getD_eq_getElem?_getD,List.getElem?_eq_getElem hi] at h2⟩)
 have HNo:Hid (chunkB c=false→∀ b:Bool,b=chunkB c→b=false):=lh (fun h b e=>e.trans h)
 unfold PackP at HPk
 have HPl:Hid (((packB c).length:Int)=11+(sizesOf c.coded).sum):=lh (packB_len c)
 have HCk:Hid (∃ z,z=c):=lh ⟨c,rfl⟩
 generalize hCB:chunkB c=CB at *
 generalize hPB:packB c=PB at *
 have HCB:=lh hCB
 have HPB:=lh hPB
 clear hCB hPB HCk
 obtain ⟨ca,cc,hdv,-⟩:∃ a n,dv=.slice a c.coded.length n∧True:=by obtain ⟨a,n,e,-⟩:=h.open;exact ⟨a,n,e,trivial⟩
 subst hdv
 have HBp:Hid (CB=true→SplAt PB none 0 (packU c)∧parseE (packU c) none=.ok c∧PB.length≤2000000∧0<PB.length∧(∀ (hb:∀ x∈PB,InK .u8 x) (m:Nat),m<PB.length→∀ U E,SplAt (PB.take m) E 0 U→∃ er,parseE U E=.error er)∧∀ (hb:∀ x∈PB,InK .u8 x) U E,SplAt (PB ++ [0]) E 0 U→∃ er,parseE U E=.error er):=lh (fun hb=>by
  have hby:=HBy.out hb
  rw [← HPB.out]
  exact ⟨spl_pack hby,parse_pack hby,pack_le hby,by have:=packB_len c;have h2:=flat_sum c.coded;omega,fun hin m hm U E hs=>parse_cut hby hin hm hs,fun hin U E hs=>parse_more hby hin (by simp) hs⟩)
 have Hat:=lh hat
 generalize hPU:packU c=PU at *
 clear hPU HPB HPl
 obtain ⟨num,fst,cnt,cs⟩:=c
 simp only at h HFw HPk HMy HH
 have hq1:=Only.new w (.cells #[.int .i64 num,.int .i64 fst,.int .i64 cnt,.slice ca cs.length cc] 26)
 have HQ1:=lh hq1
 have HR1:=lh (heap_alloc_new w (.cells #[.int .i64 num,.int .i64 fst,.int .i64 cnt,.slice ca cs.length cc] 26))
 clear h hc hE hq1 hat HNo HBy
 go_enter Tryz.func5,Tryz.ntmps5
 go_wp2_with fail
 generalize hW1:World.alloc w _=W1 at *
 clear hW1
 obtain ⟨BX,hBX⟩:∃ z,z=w.heap.size:=⟨_,rfl⟩
 rw [← hBX] at HR1 ⊢
 clear hBX
 go_at_call 9
 refine (HFi.out _ HQ1.out).mono ?_
 rintro e w2 ⟨rfl,hq2⟩
 have HQ2:=lh (HQ1.out.q hq2)
 have HR2:=lh (hq2.row HR1.out)
 clear hq2
 obtain ⟨r0,r1,r2,r3⟩:=row4_cells HR2.out
 go_wp2_with fail
 go_at_call 10
 refine (HFw.out _ HQ2.out).mono ?_
 rintro e w3 ⟨rfl,hw3⟩
 subst hw3
 cases hfw:fewB cs with
 | false =>
  clear hfw
  go_wp2_with fail
  go_at_call 9
  refine (HFi.out _ HQ2.out).mono ?_
  rintro e w4 ⟨rfl,hq4⟩
  have HQ4:=lh (HQ2.out.q hq4)
  clear hq4
  go_wp2_with fail
  exact HPost.out _ _ ⟨rfl,HQ4.out⟩
 | true =>
  clear hfw
  go_wp2_with fail
  clear r0 r1 r2 r3
  go_at_call 12
  refine (HPk.out _ HQ2.out).mono ?_
  rintro e w5 ⟨hq5,hm5⟩
  have HQ5:=lh (HQ2.out.q hq5)
  have HR5:=lh (hq5.row HR2.out)
  clear hq5 HPk
  cases CB with
  | false =>
   obtain rfl:=hm5
   clear HBp
   go_wp2_with fail
   go_at_call 9
   refine (HFi.out _ HQ5.out).mono ?_
   rintro e w6 ⟨rfl,hq6⟩
   have HQ6:=lh (HQ5.out.q hq6)
   have HR6:=lh (hq6.row HR5.out)
   clear hq6
   obtain ⟨r0,r1,r2,r3⟩:=row4_cells HR6.out
   go_wp2_with fail
   go_at_call 15
   refine (HMy.out _ HQ6.out).mono ?_
   rintro e w7 ⟨rfl,hq7⟩
   have HQ7:=lh (HQ6.out.q hq7)
   clear hq7
   go_wp2_with fail
   exact HPost.out _ _ ⟨rfl,HQ7.out⟩
  | true =>
   obtain ⟨pv,rfl,ho5⟩:=hm5
   obtain ⟨hs,hp,hpl,hp0,hcut',hmor⟩:=HBp.out rfl
   have hin:=ho5.2
   have HCut:=lh (hcut' hin)
   have HMor:=lh (hmor hin)
   have HI5:=lh ho5.ints
   have HPs:=lh (fun (W:World) (o:Only [] w5 W)=>gparse_any (ho5.ints.quiet o) (by omega))
   have HPu:=lh (And.intro hs hp)
   have HPn:=lh (And.intro hpl hp0)
   obtain ⟨pa,pc,hpv,hpc,-⟩:=ho5.ints.open
   subst hpv
   have HPc:=lh hpc
   clear ho5 hs hp hpl hp0 hcut' hmor hin hpc HBp
   go_wp2_with fail
   go_at_call 23
   refine (HPs.out _ (Only.refl _ _)).mono ?_
   rintro e w6 ⟨hq6,U6,E6,hs6,hm6⟩
   obtain ⟨rfl,rfl⟩:=spl_one hs6 HPu.out.1
   rw [HPu.out.2] at hm6
   obtain ⟨ka,kn,rfl,hk6⟩:=hm6
   simp only at hk6 ⊢
   have HQ6:=lh (HQ5.out.q hq6)
   have HQ56:=lh hq6
   have HR6:=lh (hq6.row HR5.out)
   have HK6:=lh hk6
   clear hq6 hs6 hk6
   have HN6:=lh (Only.new w6 (.cells #[.int .i64 num,.int .i64 fst,.int .i64 cnt,.slice ka cs.length kn] 26))
   have HRK:=lh (heap_alloc_new w6 (.cells #[.int .i64 num,.int .i64 fst,.int .i64 cnt,.slice ka cs.length kn] 26))
   go_upto_region 9 with (fail)
   generalize hW8:World.alloc w6 _=W8 at *
   clear hW8
   obtain ⟨BK,hBK⟩:∃ z,z=w6.heap.size:=⟨_,rfl⟩
   rw [← hBK] at HRK ⊢
   clear hBK
   have HQ8:=lh (HQ6.out.q HN6.out)
   have HQ58:=lh (HQ56.out.q HN6.out)
   have HR8:=lh (HN6.out.row HR6.out)
   have HSS:Hid (∀ wx:World,Only [] W8 wx→wx.heap[BX]?=some (.cells #[.int .i64 num,.int .i64 fst,.int .i64 cnt,.slice ca cs.length cc] 26 (0,0))∧wx.heap[BK]?=some (.cells #[.int .i64 num,.int .i64 fst,.int .i64 cnt,.slice ka cs.length kn] 26 (0,0))):=lh (fun wx o=>⟨o.row HR8.out,o.row HRK.out⟩)
   have HPln:=lh (fun (W:World) (o:Only [] W8 W)=>plain1_any num fst cnt ca cs.length cc W)
   have HSm:=lh (fun (W:World) (o:Only [] W8 W)=>gsame_any (x:=num) (y:=fst) (z:=cnt) (HK6.out.quiet (HN6.out.q o)) (HH.out.quiet (HQ8.out.q o)))
   have HMy8:=lh (fun (W:World) (o:Only [] W8 W)=>HMy.out W (HQ8.out.q o))
   have x0:=lh (Only.refl [] W8)
   clear HK6 HMy
   refine wp_region_held_drew (S:=(fun wz=>wz.heap[BX]?=some (.cells #[.int .i64 num,.int .i64 fst,.int .i64 cnt,.slice ca cs.length cc] 26 (0,0))∧wz.heap[BK]?=some (.cells #[.int .i64 num,.int .i64 fst,.int .i64 cnt,.slice ka cs.length kn] 26 (0,0)))) (by kernel_rfl) ?_ (fun hHeld=>?_)
   ·first | exact HSS.out _ (Only.refl _ _) | exact HSS.out _ (Only.refl _ _).drew
   refine tkw 0 38 ⟨rfl,qGBaWt0⟩ ?_
   refine tkw 1 39 ⟨rfl,qGBaWt0⟩ ?_
   refine tkw 2 40 ⟨rfl,qGBaWt0⟩ ?_
   refine tkw 3 41 ⟨rfl,qGBaWt0⟩ ?_
   refine tkw 4 42 ⟨rfl,qGBaWt0⟩ ?_
   refine rdy (rdc 5 43 (fun K hK=>?_) .nil)
   go_simp
   go_at_call 14
   refine (HPln.out _ (by first | exact x0.out | exact x0.out.drew)).mono ?_
   rintro e y1 ⟨rfl,hq⟩
   have x1:Hid (Only [] W8 y1):=lh (by first | exact x0.out.q hq | exact x0.out.drew.q hq)
   clear hq
   refine hK.out _ _ ?_ (fun hHeld=>?_)
   ·exact HSS.out _ (by first | exact x1.out | exact x1.out.drew)
   clear hK K
   try simp only [Act.put,List.setIfInBounds_toArray,List.set_cons_zero,List.set_cons_succ]
   refine rdy (rdc 6 44 (fun K hK=>?_) .nil)
   go_simp
   go_at_call 25
   refine (HSm.out _ (by first | exact x1.out | exact x1.out.drew)).mono ?_
   rintro e y2 ⟨rfl,hq⟩
   have x2:Hid (Only [] W8 y2):=lh (by first | exact x1.out.q hq | exact x1.out.drew.q hq)
   clear hq
   refine hK.out _ _ ?_ (fun hHeld=>?_)
   ·exact HSS.out _ (by first | exact x2.out | exact x2.out.drew)
   clear hK K
   try simp only [Act.put,List.setIfInBounds_toArray,List.set_cons_zero,List.set_cons_succ]
   refine tkw 7 45 ⟨rfl,qGBaWt0⟩ ?_
   refine tkw 8 46 ⟨rfl,qGBaWt0⟩ ?_
   refine tkw 9 47 ⟨rfl,qGBaWt0⟩ ?_
   refine tkw 10 48 ⟨rfl,qGBaWt0⟩ ?_
   refine rdy (rdc 11 49 (fun K hK=>?_) .nil)
   go_simp
   go_at_call 15
   refine (HMy8.out _ (by first | exact x2.out | exact x2.out.drew)).mono ?_
   rintro e y3 ⟨rfl,hq⟩
   have x3:Hid (Only [] W8 y3):=lh (by first | exact x2.out.q hq | exact x2.out.drew.q hq)
   clear hq
   refine hK.out _ _ ?_ (fun hHeld=>?_)
   ·exact HSS.out _ (by first | exact x3.out | exact x3.out.drew)
   clear hK K
   try simp only [Act.put,List.setIfInBounds_toArray,List.set_cons_zero,List.set_cons_succ]
   refine tkw 12 50 ⟨rfl,qGBaWt0⟩ ?_
   refine tkw 13 51 ⟨rfl,qGBaWt0⟩ ?_
   refine wpAnyH_done (by kernel_rfl) ?_ _
   go_upto_if 53 with (fail)
   go_cut [1] (fun s wx=>∃ p:Int,s=.int .i64 p∧Hid (0≤p∧p≤9223372036854775807)∧Hid (Only [] W8 wx))
   case first =>
    by_cases hneg:at0<0
    ·have hat:=Hat.out
     unfold InK at hat
     have hwA:IntKind.i64.wrap (at0+1)=at0+1:=by rw [IntKind.wrap_i64];omega
     have hwB:IntKind.i64.wrap (-(at0+1))=-(at0+1):=by rw [IntKind.wrap_i64];omega
     have HP0:Hid (0≤-(at0+1)∧-(at0+1)≤9223372036854775807):=lh ⟨by omega,by omega⟩
     clear hat
     go_wp2_with fail
     go_meet
     exact ⟨-(at0+1),rfl,HP0,by first | exact x3 | exact lh x3.out.drew⟩
    ·have HP0:Hid (0≤at0∧at0≤9223372036854775807):=lh (by have:=Hat.out;unfold InK at this;omega)
     go_wp2_with fail
     go_meet
     exact ⟨at0,rfl,HP0,by first | exact x3 | exact lh x3.out.drew⟩
   case rest =>
    obtain ⟨p,rfl,HP0,HOc⟩:=hcut
    obtain ⟨W9,hW9⟩:∃ z,z=wc:=⟨_,rfl⟩
    subst hW9
    have HQ9:=lh (HQ8.out.q HOc.out)
    have HQ59:=lh (HQ58.out.q HOc.out)
    have hpo:=HPn.out
    obtain ⟨i,hi1,hi3⟩:∃ i:Nat,p.tmod (PB.length:Int)=i∧i<PB.length:=by
     have h0:=HP0.out.1
     have hbz2:¬ (PB.length:Int)=0:=by omega
     have h1:=Int.emod_nonneg p hbz2
     have h2:=Int.emod_lt_of_pos p (show (0:Int)<PB.length by omega)
     exact ⟨(p % (PB.length:Int)).toNat,by rw [Int.tmod_eq_emod_of_nonneg h0];omega,by omega⟩
    have hic:i≤pc:=by have:=HPc.out;omega
    have hbz:((PB.length:Int) == 0)=false:=by rw [beq_eq_false_iff_ne];omega
    have hbz2:¬ (PB.length:Int)=0:=by omega
    have hbz3:¬ PB.length=0:=by omega
    have hlP:(PB.length:Int)≤9223372036854775807:=by omega
    have HPs2:=lh (gparse_any (ints_upto (HI5.out.quiet HQ59.out) (Nat.le_of_lt hi3)) (by rw [List.length_take];omega))
    have HCi:=lh (HCut.out i hi3)
    have HI9:=lh (HI5.out.quiet HQ59.out)
    clear hpo hi3 HCut HSS HPln HSm HMy8 HPs HQ58 HQ59 HRK HR8 HN6
    go_wp2_with fail
    clear hi1
    go_at_call 23
    refine HPs2.out.mono ?_
    rintro e wA hP
    obtain ⟨hqA,tA,uA,rfl⟩:=refused hP (fun U E hs=>HCi.out U E hs)
    have HQA:=lh (hqA.q (Only.new wA (.cells #[.int .i64 0,.int .i64 0,.int .i64 0,.slice none 0 0] 26)))
    clear hP hqA HPs2 HCi hic
    go_upto_region 14 with (fail)
    generalize hWB:World.alloc wA _=wB at *
    clear hWB
    have HCp:=lh (copyb_any (HI9.out.quiet HQA.out) (by have:=HPn.out;omega))
    go_wp2_with fail
    go_at_call 26
    refine HCp.out.mono ?_
    rintro e wC ⟨cv,rfl,hcv,hqC⟩
    have hn:=Only.new wC (.cells #[.int .u8 0] 5)
    have HOw:=lh (hcv.quiet hn)
    have HLt:=lh (ints_newG (k:=.u8) (w:=wC) (t:=5) (l:=[0]) (vs:=#[.int .u8 0]) rfl (by simp [maxLen]) (by simp [InK]) 1 rfl rfl)
    have HQD:=lh ((HQA.out.q hqC).q hn)
    have HZB:Hid (wB.heap.size≤(wC.alloc (.cells #[.int .u8 0] 5)).heap.size):=lh (hqC.q hn).size
    have Hby:Hid ((PB.length+[(0:Int)].length)*1≤140737488355328):=lh (by have:=HPn.out;simp;omega)
    have Hat2:=lh hcv.at
    have HLn:Hid ((PB ++ [(0:Int)]).length=PB.length+1):=lh (by simp)
    obtain ⟨va,vc,hva,-⟩:=hcv.ints.open
    subst hva
    clear hcv hqC hn HCp
    go_wp2_with (first
     | (at_builtin;refine wpList_append_ints rfl (.tmp 69) (.tmp 70) _ rfl E8 HOw.out rfl HLt.out rfl Hby.out HZB.out (fun v1 wE hown1 ho1=>?_);obtain ⟨xa,xc,hx1,-⟩:=hown1.ints.open;rw [HLn.out] at hx1;subst hx1;have HO1:=lh hown1;have HA1:=lh ho1;clear hown1 ho1)
     | fail)
    have HQE:Hid (Only [] W9 wE):=lh (HQD.out.trans HA1.out.only (by simp) (fun g hg hlt=>by have:=(Hat2.out g (by simpa using hg)).1;have:=HQA.out.size;omega))
    have HPm:=lh (gparse_any HO1.out.ints (by rw [HLn.out];have:=HPn.out;omega))
    go_at_call 23
    refine HPm.out.mono ?_
    rintro e wF hP
    obtain ⟨hqF,tF,uF,rfl⟩:=refused hP (fun U E hs=>HMor.out U E hs)
    have HQF:=lh (HQ9.out.q ((HQE.out.q hqF).q (Only.new wF (.cells #[.int .i64 0,.int .i64 0,.int .i64 0,.slice none 0 0] 26))))
    clear hP hqF HPm
    go_upto_region 15 with (fail)
    generalize hWG:World.alloc wF _=wG at *
    clear hWG
    go_wp2_with fail
    go_at_call 9
    refine (HFi.out _ HQF.out).mono ?_
    rintro e wH ⟨rfl,hqH⟩
    have HQH:=lh (HQF.out.q hqH)
    clear hqH
    go_wp2_with fail
    exact HPost.out _ _ ⟨rfl,HQH.out⟩
end
end Go.Proofs.YtkigikallkpbcaaGreatDoor
