/- kinlaw23.GopPacks: any chunk as bytes, as the document has them. Conditions: the chunk reads. -/
import Derived.Test.YtkigikallkpbcaaGreatDoorGC
import Derived.Test.YtkigikallkpbcaaGreatDoorH1
import Derived.Deep.DeepCutAuto
namespace Go.Proofs.YtkigikallkpbcaaGreatDoor
open Go.RowKit
set_option linter.unusedVariables false
set_option linter.unusedSimpArgs false
set_option maxRecDepth 100000
set_option maxHeartbeats 16000000
theorem qGPaWt0 {p:Prop} (h:p:=by intro wz hSw;obtain ⟨r0,r1,r2,r3⟩:=row4_cells hSw;go_simp;try with_reducible rfl):p:=h
theorem qGPaWt1 {p:Prop} (h:p:=by intro wz hSw;obtain ⟨hS0,hS1,hS2⟩:=hSw;obtain ⟨r0,r1,r2,r3⟩:=row4_cells hS0;obtain ⟨q0,q1,q2,q3⟩:=row4_cells hS1;obtain ⟨u0,u1,-⟩:=row2 hS2;go_simp;try with_reducible rfl):p:=h
section
theorem ck_info (a b c d:Value):(Tryz.prog.info? 26).map (·.size)=some (#[a,b,c,d]:Array Value).size:=by show _=some 4;kernel_rfl
theorem qGPaW0 {p:Prop} (h:p:=by
 refine rdy (rdn 9 (fun K hK=>?_) .nil)
 refine wp_store_rowQ (.tmp 3) (.tmp 22) 26 rfl (g:=bC) (c':=#[.int .i64 num,.int .i64 fst,.int .i64 cnt,.slice ka cs.length kn]) rfl rfl HC.out (ck_info _ _ _ _) rfl (by first | kernel_rfl | simp [Value.oneCell']) (fun v' hq hr=>?_)
 have q:Only [bC] v v':=by first | exact hq | exact ((Only.refl _ _).drew.mono (U:=[bC]) (by simp)).trans hq (fun g h _=>h) (fun g h _=>h)
 replace HC:=lh hr
 replace HK:Hid (CodedsAt l1 h1 v' (.slice ka cs.length kn) cs):=lh (HK.out.only q (fun g hg=>by rw [mSg] at hg;subst hg;exact HkC.out.2))
 replace HKb:Hid (W2.heap.size≤l1∧h1≤v'.heap.size):=lh ⟨HKb.out.1,Nat.le_trans HKb.out.2 q.size⟩
 replace o:Hid (Only [] W2 v'):=lh (o.out.trans q (by simp) (fun g hg hlt=>by rw [mSg] at hg;have:=HkC.out.1;omega))
 clear hq hr q
 obtain ⟨v,rfl⟩:∃ z,z=v':=⟨_,rfl⟩
 refine hK.out _ _ ?_ (fun hHeld=>?_)
 ·exact HS5.out _ (by first | exact o.out | exact o.out.drew)
 clear hK K
 refine wpAnyH_done (by kernel_rfl) ?_ _
 go_wp2_with fail
 go_meet
 exact ⟨bC,l1,h1,ka,kn,rfl,o,HC,HKb,HK,HkC⟩):p:=h
theorem qGPaW1 {p:Prop} (h:p:=by
 exact HS5.out _ (by first | exact o.out | exact o.out.drew)):p:=h
theorem gpacks_any {dv:Value} {c:Chunk} {w:World} (h:CodedsAt 0 w.heap.size w dv c.coded) (hc:ChunkOk c) (hE:ErrT w) :
  Calls Tryz.prog 3 #[.agg #[.int .i64 c.number,.int .i64 c.first,.int .i64 c.count,dv]] w fun e w'=>e=.returned (.bool true)∧Only [] w w':=by
 refine hidQ fun Q HPost=>?_
 have HFi:=lh (fun (W:World) (o:Only [] w W)=>gfirst1_any W (hE.quiet o))
 have HFw:=lh (fun (W:World) (o:Only [] w W)=>Few_any (h.quiet o))
 have HPk:=lh (fun (W:World) (o:Only [] w W)=>gpack_any (h.quiet o) hc)
 have HMy:=lh (fun (W:World) (o:Only [] w W)=>gmay_any (h.quiet o) hc)
 have HFl:=lh (fun (hf:fewB c.coded=true)=>And.intro (few_len hf) (few_small hf))
 have HCpy:=lh (fun (W:World) (o:Only [] w W) (hf:fewB c.coded=true)=>kcopyc_any (h.quiet o) (few_len hf) (fun x hx=>by have:=few_small hf x hx;omega))
 have HKp:=lh (fun (W:World) (o:Only [] w W) (hf:fewB c.coded=true)=>kgpack_any (h.quiet o) (few_small hf))
 have HPk2:=lh (fun (W:World) (kv:Value) (l1 h1:Nat) (hk:CodedsAt l1 h1 W kv c.coded)=>gpack_any hk hc)
 unfold PackP at HPk2
 unfold KPackP at HKp
 have HKm:=lh (fun (W:World) (o:Only [] w W) (hf:fewB c.coded=true)=>kchunk_any (h.quiet o) (fun i hi=>by have:=few_small hf _ (getD_mem hi);omega))
 have HSz:=lh (fun (W:World) (o:Only [] w W) (hf:fewB c.coded=true)=>sizes_any (h.quiet o) (by have:=few_len hf;omega) (fun i hi=>by have:=few_small hf _ (getD_mem hi);omega))
 have HKz:=lh (fun (W:World) (o:Only [] w W) (hf:fewB c.coded=true)=>ksizes_any (h.quiet o) (by have:=few_len hf;omega) (fun i hi=>by have:=few_small hf _ (getD_mem hi);omega))
 have HH:=lh h
 have HBy:Hid (chunkB c=true→ChunkBy c):=lh (fun hb=>⟨hb,fun x hx=>by
  obtain ⟨i,hi,rfl⟩:=List.mem_iff_getElem.1 hx
  obtain ⟨_,_,-,-,-,hel⟩:=h.open
  obtain ⟨_,_,_,-,-,-,-,-,-,hd⟩:=hel i hi
  have h2:=hd.2
  rwa [List.getD_eq_getElem?_getD,List.getElem?_eq_getElem hi] at h2⟩)
 have HNo:Hid (chunkB c=false→∀ b:Bool,b=chunkB c→b=false):=lh (fun h b e=>e.trans h)
 unfold PackP at HPk
 have HPl:Hid (((packB c).length:Int)=11+(sizesOf c.coded).sum):=lh (packB_len c)
 have HCk:Hid (∃ z,z=c):=lh ⟨c,rfl⟩
 generalize hCB:chunkB c=CB at *
 generalize hPB:packB c=PB at *
 have HCB:=lh hCB
 have HPB:=lh hPB
 clear hCB hPB HCk
 obtain ⟨ca,cc,hdv,-⟩:∃ a n,dv=.slice a c.coded.length n∧True:=by obtain ⟨a,n,e,-⟩:=h.open;exact ⟨a,n,e,trivial⟩
 subst hdv
 have HC:=lh hc
 have HEr:=lh hE
 obtain ⟨num,fst,cnt,cs⟩:=c
 simp only at h HFw HPk HMy HH HFl HCpy HKp HKm HSz HKz HPk2
 have hq1:=Only.new w (.cells #[.int .i64 num,.int .i64 fst,.int .i64 cnt,.slice ca cs.length cc] 26)
 have HQ1:=lh hq1
 have HR1:=lh (heap_alloc_new w (.cells #[.int .i64 num,.int .i64 fst,.int .i64 cnt,.slice ca cs.length cc] 26))
 clear h hc hE hq1 HNo HBy HPl HPk
 go_enter Tryz.func3,Tryz.ntmps3
 go_wp2_with fail
 generalize hW1:World.alloc w _=W1 at *
 clear hW1
 obtain ⟨BX,hBX⟩:∃ z,z=w.heap.size:=⟨_,rfl⟩
 rw [← hBX] at HR1 ⊢
 clear hBX
 go_at_call 9
 refine (HFi.out _ HQ1.out).mono ?_
 rintro e w2 ⟨rfl,hq2⟩
 have HQ2:=lh (HQ1.out.q hq2)
 have HR2:=lh (hq2.row HR1.out)
 clear hq2
 obtain ⟨r0,r1,r2,r3⟩:=row4_cells HR2.out
 go_wp2_with fail
 go_at_call 10
 refine (HFw.out _ HQ2.out).mono ?_
 rintro e w3 ⟨rfl,hw3⟩
 subst hw3
 cases hfw:fewB cs with
 | false =>
  clear hfw
  go_wp2_with fail
  go_at_call 9
  refine (HFi.out _ HQ2.out).mono ?_
  rintro e w4 ⟨rfl,hq4⟩
  have HQ4:=lh (HQ2.out.q hq4)
  clear hq4
  go_wp2_with fail
  exact HPost.out _ _ ⟨rfl,HQ4.out⟩
 | true =>
  obtain ⟨W2,hW2⟩:∃ z,z=w2:=⟨_,rfl⟩
  subst hW2
  have HCp2:=lh (fun (W:World) (o:Only [] W2 W)=>HCpy.out W (HQ2.out.q o) hfw)
  have HKp2:=lh (fun (W:World) (o:Only [] w W)=>HKp.out W o hfw)
  have HKm2:=lh (fun (W:World) (o:Only [] w W)=>HKm.out W o hfw)
  have HSz2:=lh (fun (W:World) (o:Only [] w W)=>HSz.out W o hfw)
  have HKz2:=lh (fun (W:World) (o:Only [] w W)=>HKz.out W o hfw)
  have HS5:Hid (∀ wx:World,Only [] W2 wx→wx.heap[BX]?=some (.cells #[.int .i64 num,.int .i64 fst,.int .i64 cnt,.slice ca cs.length cc] 26 (0,0))):=lh (fun wx o=>o.row HR2.out)
  clear hfw HCpy HKp HKm HSz HKz HFl
  go_upto_region 5 with (fail)
  clear r0 r1 r2 r3
  go_cut [3] (fun sC wx=>∃ (bC:Nat) (l1:Nat) (h1:Nat) (ka:Option Addr) (kn:Nat),sC=.pointer (some ⟨bC,0,none⟩)∧Hid (Only [] W2 wx)∧Hid (wx.heap[bC]?=some (.cells #[.int .i64 num,.int .i64 fst,.int .i64 cnt,.slice ka cs.length kn] 26 (0,0)))∧Hid (W2.heap.size≤l1∧h1≤wx.heap.size)∧Hid (CodedsAt l1 h1 wx (.slice ka cs.length kn) cs)∧Hid (W2.heap.size≤bC∧(bC<l1∨h1≤bC)))
  case first =>
   have o:=lh (Only.refl [] W2)
   refine wp_region_held_drew (S:=(fun wz=>wz.heap[BX]?=some (.cells #[.int .i64 num,.int .i64 fst,.int .i64 cnt,.slice ca cs.length cc] 26 (0,0)))) (by kernel_rfl) ?_ (fun hHeld=>?_)
   ·first | exact HS5.out _ (Only.refl _ _) | exact HS5.out _ (Only.refl _ _).drew
   refine tkw 0 15 ⟨rfl,qGPaWt0⟩ ?_
   refine tkw 1 16 ⟨rfl,qGPaWt0⟩ ?_
   refine tkw 2 17 ⟨rfl,qGPaWt0⟩ ?_
   refine tkw 3 18 ⟨rfl,qGPaWt0⟩ ?_
   refine tkw 4 19 ⟨rfl,qGPaWt0⟩ ?_
   refine tkw 5 20 ⟨rfl,qGPaWt0⟩ ?_
   refine rdy (rdc 6 21 (fun K hK=>?_) (rdc 8 3 (fun K hK=>?_) .nil))
   ·go_simp
    go_at_call 11
    refine (HCp2.out _ (by first | exact o.out | exact o.out.drew)).mono ?_
    rintro e v' ⟨⟨ka,kn,rfl,hi9⟩,hq⟩
    obtain ⟨l1,hl1⟩:∃ z,z=W2.heap.size:=⟨_,rfl⟩
    obtain ⟨h1,hh1⟩:∃ z,z=v'.heap.size:=⟨_,rfl⟩
    have hKf:CodedsAt l1 h1 v' (.slice ka cs.length kn) cs:=by rw [hl1,hh1];exact hi9
    have hKl:W2.heap.size≤l1:=by omega
    have hKh:h1≤v'.heap.size:=by omega
    clear hi9 hl1 hh1
    have q:Only [] W2 v':=by first | exact hq | exact ((Only.refl _ _).drew).q hq
    have hVl:W2.heap.size≤W2.heap.size:=o.out.size
    have HK:=lh hKf
    have HKb:Hid (W2.heap.size≤l1∧h1≤v'.heap.size):=lh ⟨by omega,hKh⟩
    replace o:=lh (o.out.q q)
    clear hq q hKf hKl hKh hVl
    obtain ⟨v,rfl⟩:∃ z,z=v':=⟨_,rfl⟩
    refine hK.out _ _ ?_ (fun hHeld=>?_)
    ·exact qGPaW1
    clear hK K
    refine tkw 7 22 ⟨rfl,qGPaWt0⟩ ?_
    refine rdy (rdc 8 3 (fun K hK=>?_) .nil)
    go_simp
    generalize hW:World.alloc _ _=v'
    have q:Only [] v v':=by rw [← hW];first | exact Only.new _ _ | exact ((Only.refl _ _).drew).q (Only.new _ _)
    have HC:Hid (v'.heap[v.heap.size]?=some (.cells #[.int .i64 0,.int .i64 0,.int .i64 0,.slice none 0 0] 26 (0,0))):=lh (by rw [← hW];exact heap_alloc_new _ _)
    have hz:W2.heap.size≤v.heap.size:=o.out.size
    have HkC:Hid (W2.heap.size≤v.heap.size∧(v.heap.size<l1∨h1≤v.heap.size)):=lh ⟨hz,.inr HKb.out.2⟩
    replace HK:Hid (CodedsAt l1 h1 v' (.slice ka cs.length kn) cs):=lh (HK.out.only q (by simp))
    replace HKb:Hid (W2.heap.size≤l1∧h1≤v'.heap.size):=lh ⟨HKb.out.1,Nat.le_trans HKb.out.2 q.size⟩
    replace o:=lh (o.out.q q)
    clear hW q
    generalize hb:v.heap.size=bC at HC HkC ⊢
    have HzC:Hid (W2.heap.size≤bC):=lh (by rw [← hb];exact hz)
    clear hb hz
    obtain ⟨v,rfl⟩:∃ z,z=v':=⟨_,rfl⟩
    refine hK.out _ _ ?_ (fun hHeld=>?_)
    ·exact qGPaW1
    clear hK K
    exact qGPaW0
   ·go_simp
    generalize hW:World.alloc _ _=v'
    have q:Only [] W2 v':=by rw [← hW];first | exact Only.new _ _ | exact ((Only.refl _ _).drew).q (Only.new _ _)
    have HC:Hid (v'.heap[W2.heap.size]?=some (.cells #[.int .i64 0,.int .i64 0,.int .i64 0,.slice none 0 0] 26 (0,0))):=lh (by rw [← hW];exact heap_alloc_new _ _)
    have hz:W2.heap.size≤W2.heap.size:=o.out.size
    replace o:=lh (o.out.q q)
    clear hW q
    generalize hb:W2.heap.size=bC at HC ⊢
    have HzC:Hid (W2.heap.size≤bC):=lh (by rw [← hb];exact hz)
    clear hb hz
    obtain ⟨v,rfl⟩:∃ z,z=v':=⟨_,rfl⟩
    refine hK.out _ _ ?_ (fun hHeld=>?_)
    ·exact qGPaW1
    clear hK K
    refine rdy (rdc 6 21 (fun K hK=>?_) .nil)
    go_simp
    go_at_call 11
    refine (HCp2.out _ (by first | exact o.out | exact o.out.drew)).mono ?_
    rintro e v' ⟨⟨ka,kn,rfl,hi9⟩,hq⟩
    obtain ⟨l1,hl1⟩:∃ z,z=v.heap.size:=⟨_,rfl⟩
    obtain ⟨h1,hh1⟩:∃ z,z=v'.heap.size:=⟨_,rfl⟩
    have hKf:CodedsAt l1 h1 v' (.slice ka cs.length kn) cs:=by rw [hl1,hh1];exact hi9
    have hKl:v.heap.size≤l1:=by omega
    have hKh:h1≤v'.heap.size:=by omega
    clear hi9 hl1 hh1
    have q:Only [] v v':=by first | exact hq | exact ((Only.refl _ _).drew).q hq
    have hVl:W2.heap.size≤v.heap.size:=o.out.size
    have HkC:Hid (W2.heap.size≤bC∧(bC<l1∨h1≤bC)):=lh (by have:=(Array.getElem?_eq_some_iff.1 HC.out).1;have:=HzC.out;exact ⟨by omega,.inl (by omega)⟩)
    replace HC:=lh (q.row HC.out)
    have HK:=lh hKf
    have HKb:Hid (W2.heap.size≤l1∧h1≤v'.heap.size):=lh ⟨by omega,hKh⟩
    replace o:=lh (o.out.q q)
    clear hq q hKf hKl hKh hVl
    obtain ⟨v,rfl⟩:∃ z,z=v':=⟨_,rfl⟩
    refine hK.out _ _ ?_ (fun hHeld=>?_)
    ·exact qGPaW1
    clear hK K
    refine tkw 7 22 ⟨rfl,qGPaWt0⟩ ?_
    exact qGPaW0
  case rest =>
   obtain ⟨bC,l1,h1,ka,kn,rfl,HOd,HVc,-,HKG,-⟩:=hcut
   obtain ⟨W5,hW5⟩:∃ z,z=wc:=⟨_,rfl⟩
   subst hW5
   have HQ5:=lh (HQ2.out.q HOd.out)
   have HR5:=lh (HOd.out.row HR2.out)
   have HPk3:=lh (HPk2.out W5 (.slice ka cs.length kn) l1 h1 HKG.out)
   clear HCp2 HS5 HPk2 HR2 HOd
   obtain ⟨M,hM⟩:∃ z,z=(if CB=true then PB else []):=⟨_,rfl⟩
   have HM:=lh hM
   clear hM
   obtain ⟨r0,r1,r2,r3⟩:=row4_cells HVc.out
   go_wp2_with fail
   clear r0 r1 r2 r3
   go_at_call 12
   refine HPk3.out.mono ?_
   rintro e w6 ⟨hq6,hm6⟩
   obtain ⟨pa,pc,pe,rfl,hp6,hpe⟩:∃ pa pc pe,e=.returned (.tuple #[.slice pa M.length pc,pe])∧Ints .u8 0 w6.heap.size w6 (.slice pa M.length pc) M∧pe=codeV (if CB=true then none else some 2):=by
    have hM:=HM.out
    cases CB with
    | true =>
     rw [if_pos rfl] at hM
     subst hM
     obtain ⟨v,rfl,ho⟩:=hm6
     obtain ⟨a,n,rfl,-⟩:=ho.ints.open
     exact ⟨a,n,_,rfl,ho.ints.mono (Nat.zero_le _) (Nat.le_refl _),rfl⟩
    | false =>
     rw [if_neg (by decide)] at hM
     subst hM
     exact ⟨none,0,_,hm6,Ints.nil _ _ _ _,rfl⟩
   have HP6:=lh hp6
   have HPe:=lh hpe
   have HQ6:=lh (HQ5.out.q hq6)
   have HR6:=lh (hq6.row HR5.out)
   have HC6:=lh (hq6.row HVc.out)
   have HK6:=lh (HKG.out.quiet hq6)
   clear hq6 hm6 hp6 hpe HPk3
   obtain ⟨r0,r1,r2,r3⟩:=row4_cells HR6.out
   go_wp2_with fail
   clear r0 r1 r2 r3
   go_at_call 14
   refine (plain1_any num fst cnt ca cs.length cc _).mono ?_
   rintro e w7 ⟨rfl,hq7⟩
   have HQ67:=lh hq7
   have HQ7:=lh (HQ6.out.q hq7)
   clear hq7
   go_wp2_with fail
   go_at_call 13
   refine (HKp2.out _ HQ7.out).mono ?_
   rintro e w9 ⟨hq9,hm9⟩
   obtain ⟨qa,qc,kc,rfl,hp9,hkc⟩:∃ qa qc kc,e=.returned (.tuple #[.slice qa M.length qc,.agg #[.int .i64 kc,.slice none 0 0]])∧Ints .u8 0 w9.heap.size w9 (.slice qa M.length qc) M∧kc=if CB=true then 0 else 2:=by
    have hM:=HM.out
    cases CB with
    | true =>
     rw [if_pos rfl] at hM
     subst hM
     obtain ⟨v,rfl,ho⟩:=hm9
     obtain ⟨a,n,rfl,-⟩:=ho.ints.open
     exact ⟨a,n,_,rfl,ho.ints.mono (Nat.zero_le _) (Nat.le_refl _),rfl⟩
    | false =>
     rw [if_neg (by decide)] at hM
     subst hM
     exact ⟨none,0,_,hm9,Ints.nil _ _ _ _,rfl⟩
   have HP9:=lh hp9
   have HKc9:=lh hkc
   have HQ69:=lh (HQ67.out.q hq9)
   have HQ9:=lh (HQ7.out.q hq9)
   clear hq9 hm9 hp9 hkc HM
   have HN:=lh (Only.new w9 (.cells #[.int .i64 kc,.slice none 0 0] 38))
   have HRE:=lh (heap_alloc_new w9 (.cells #[.int .i64 kc,.slice none 0 0] 38))
   generalize M.length=mn at *
   go_upto_region 8 with (fail)
   generalize hW8:World.alloc w9 _=W8 at *
   clear hW8
   obtain ⟨BE,hBE⟩:∃ z,z=w9.heap.size:=⟨_,rfl⟩
   rw [← hBE] at HRE ⊢
   clear hBE
   have HQ68:=lh (HQ69.out.q HN.out)
   have HQ8:=lh (HQ9.out.q HN.out)
   have HSS:Hid (∀ wx:World,Only [] W8 wx→wx.heap[BX]?=some (.cells #[.int .i64 num,.int .i64 fst,.int .i64 cnt,.slice ca cs.length cc] 26 (0,0))∧wx.heap[bC]?=some (.cells #[.int .i64 num,.int .i64 fst,.int .i64 cnt,.slice ka cs.length kn] 26 (0,0))∧wx.heap[BE]?=some (.cells #[.int .i64 kc,.slice none 0 0] 38 (0,0))):=lh (fun wx o=>⟨(HQ68.out.q o).row HR6.out,(HQ68.out.q o).row HC6.out,o.row HRE.out⟩)
   have HFi8:=lh (fun (W:World) (o:Only [] W8 W)=>HFi.out W (HQ8.out.q o))
   have HMy8:=lh (fun (W:World) (o:Only [] W8 W)=>HMy.out W (HQ8.out.q o))
   have HPln:=lh (fun (W:World) (o:Only [] W8 W)=>plain1_any num fst cnt ca cs.length cc W)
   have HKm8:=lh (fun (W:World) (o:Only [] W8 W)=>HKm2.out W (HQ8.out.q o))
   have HBy8:=lh (fun (W:World) (o:Only [] W8 W)=>bytes_any (HP6.out.quiet (HQ68.out.q o)) (HP9.out.quiet (HN.out.q o)))
   rw [show eqB M M=true by simp [eqB]] at HBy8
   have HSm:Hid (∀ (W:World) (o:Only [] W8 W),Calls Tryz.prog 18 #[pe,.agg #[.int .i64 kc,.slice none 0 0]] W fun e w'=>e=.returned (.bool true)∧Only [] W w'):=lh (fun W o=>by
    rw [HPe.out,HKc9.out]
    cases CB with
    | true=>exact same_any (lo:=0) (hi:=0) (o:=none) (c:=0) (p:=[]) rfl (Nat.zero_le _) (HEr.out.quiet (HQ8.out.q o)) (by simp) (Cells.nil 2 0 0 W) rfl rfl rfl
    | false=>exact same_any (lo:=0) (hi:=0) (o:=some ⟨[],2⟩) (c:=2) (p:=[]) (ErrV.code 0 0 W 2) (Nat.zero_le _) (HEr.out.quiet (HQ8.out.q o)) (by simp) (Cells.nil 2 0 0 W) rfl rfl rfl)
   have HKc:=lh (fun (W:World) (o:Only [] W8 W)=>codeds_any (HK6.out.quiet (HQ68.out.q o)) (HH.out.quiet (HQ8.out.q o)))
   rw [show eqB cs cs=true by simp [eqB]] at HKc
   have HSz8:=lh (fun (W:World) (o:Only [] W8 W)=>HSz2.out W (HQ8.out.q o))
   have HKz8:=lh (fun (W:World) (o:Only [] W8 W)=>HKz2.out W (HQ8.out.q o))
   have x0:=lh (Only.refl [] W8)
   clear HPe HKc9 HK6 HP6 HP9 HN HRE HR6 HC6 HMy HFi HKm2 HSz2 HKz2 HKp2 HVc HKG
   refine wp_region_held_drew (S:=(fun wz=>wz.heap[BX]?=some (.cells #[.int .i64 num,.int .i64 fst,.int .i64 cnt,.slice ca cs.length cc] 26 (0,0))∧wz.heap[bC]?=some (.cells #[.int .i64 num,.int .i64 fst,.int .i64 cnt,.slice ka cs.length kn] 26 (0,0))∧wz.heap[BE]?=some (.cells #[.int .i64 kc,.slice none 0 0] 38 (0,0)))) (by kernel_rfl) ?_ (fun hHeld=>?_)
   ·first | exact HSS.out _ (Only.refl _ _) | exact HSS.out _ (Only.refl _ _).drew
   refine rdy (rdc 0 34 (fun K hK=>?_) .nil)
   go_simp
   go_at_call 9
   refine (HFi8.out _ (by first | exact x0.out | exact x0.out.drew)).mono ?_
   rintro e y1 ⟨rfl,hq⟩
   have x1:Hid (Only [] W8 y1):=lh (by first | exact x0.out.q hq | exact x0.out.drew.q hq)
   clear hq
   refine hK.out _ _ ?_ (fun hHeld=>?_)
   ·exact HSS.out _ (by first | exact x1.out | exact x1.out.drew)
   clear hK K
   try simp only [Act.put,List.setIfInBounds_toArray,List.set_cons_zero,List.set_cons_succ]
   refine tkw 1 35 ⟨rfl,qGPaWt1⟩ ?_
   refine tkw 2 36 ⟨rfl,qGPaWt1⟩ ?_
   refine tkw 4 38 ⟨rfl,qGPaWt1⟩ ?_
   refine rdy (rdc 3 37 (fun K hK=>?_) .nil)
   go_simp
   go_at_call 15
   refine (HMy8.out _ (by first | exact x1.out | exact x1.out.drew)).mono ?_
   rintro e y2 ⟨rfl,hq⟩
   have x2:Hid (Only [] W8 y2):=lh (by first | exact x1.out.q hq | exact x1.out.drew.q hq)
   clear hq
   refine hK.out _ _ ?_ (fun hHeld=>?_)
   ·exact HSS.out _ (by first | exact x2.out | exact x2.out.drew)
   clear hK K
   try simp only [Act.put,List.setIfInBounds_toArray,List.set_cons_zero,List.set_cons_succ]
   refine rdy (rdc 5 39 (fun K hK=>?_) .nil)
   go_simp
   go_at_call 14
   refine (HPln.out _ (by first | exact x2.out | exact x2.out.drew)).mono ?_
   rintro e y3 ⟨rfl,hq⟩
   have x3:Hid (Only [] W8 y3):=lh (by first | exact x2.out.q hq | exact x2.out.drew.q hq)
   clear hq
   refine hK.out _ _ ?_ (fun hHeld=>?_)
   ·exact HSS.out _ (by first | exact x3.out | exact x3.out.drew)
   clear hK K
   try simp only [Act.put,List.setIfInBounds_toArray,List.set_cons_zero,List.set_cons_succ]
   refine rdy (rdc 6 40 (fun K hK=>?_) .nil)
   go_simp
   go_at_call 16
   refine (HKm8.out _ (by first | exact x3.out | exact x3.out.drew)).mono ?_
   rintro e y4 ⟨rfl,hq⟩
   have x4:Hid (Only [] W8 y4):=lh (by first | exact x3.out.q hq | exact x3.out.drew.q hq)
   clear hq
   refine hK.out _ _ ?_ (fun hHeld=>?_)
   ·exact HSS.out _ (by first | exact x4.out | exact x4.out.drew)
   clear hK K
   try simp only [Act.put,List.setIfInBounds_toArray,List.set_cons_zero,List.set_cons_succ]
   refine tkw 7 41 ⟨rfl,qGPaWt1⟩ ?_
   refine tkw 8 42 ⟨rfl,qGPaWt1⟩ ?_
   refine tkw 9 43 ⟨rfl,qGPaWt1⟩ ?_
   refine tkw 10 44 ⟨rfl,qGPaWt1⟩ ?_
   refine tkw 11 45 ⟨rfl,qGPaWt1⟩ ?_
   refine rdy (rdc 12 46 (fun K hK=>?_) .nil)
   go_simp
   go_at_call 17
   refine (HBy8.out _ (by first | exact x4.out | exact x4.out.drew)).mono ?_
   rintro e y5 ⟨rfl,hw5⟩
   have x5:Hid (Only [] W8 y5):=lh (by rw [← hw5];first | exact x4.out | exact x4.out.drew)
   clear hw5
   refine hK.out _ _ ?_ (fun hHeld=>?_)
   ·exact HSS.out _ (by first | exact x5.out | exact x5.out.drew)
   clear hK K
   try simp only [Act.put,List.setIfInBounds_toArray,List.set_cons_zero,List.set_cons_succ]
   refine tkw 13 47 ⟨rfl,qGPaWt1⟩ ?_
   refine tkw 14 48 ⟨rfl,qGPaWt1⟩ ?_
   refine tkw 15 49 ⟨rfl,qGPaWt1⟩ ?_
   refine tkw 16 50 ⟨rfl,qGPaWt1⟩ ?_
   refine rdy (rdc 17 51 (fun K hK=>?_) .nil)
   go_simp
   go_at_call 18
   refine (HSm.out _ (by first | exact x5.out | exact x5.out.drew)).mono ?_
   rintro e y6 ⟨rfl,hq⟩
   have x6:Hid (Only [] W8 y6):=lh (by first | exact x5.out.q hq | exact x5.out.drew.q hq)
   clear hq
   refine hK.out _ _ ?_ (fun hHeld=>?_)
   ·exact HSS.out _ (by first | exact x6.out | exact x6.out.drew)
   clear hK K
   try simp only [Act.put,List.setIfInBounds_toArray,List.set_cons_zero,List.set_cons_succ]
   refine tkw 18 52 ⟨rfl,qGPaWt1⟩ ?_
   refine tkw 19 53 ⟨rfl,qGPaWt1⟩ ?_
   refine tkw 20 54 ⟨rfl,qGPaWt1⟩ ?_
   refine tkw 21 55 ⟨rfl,qGPaWt1⟩ ?_
   refine tkw 22 56 ⟨rfl,qGPaWt1⟩ ?_
   refine tkw 23 57 ⟨rfl,qGPaWt1⟩ ?_
   refine rdy (rdc 24 58 (fun K hK=>?_) .nil)
   go_simp
   go_at_call 19
   refine (HKc.out _ (by first | exact x6.out | exact x6.out.drew)).mono ?_
   rintro e y7 ⟨rfl,hq⟩
   have x7:Hid (Only [] W8 y7):=lh (by first | exact x6.out.q hq | exact x6.out.drew.q hq)
   clear hq
   refine hK.out _ _ ?_ (fun hHeld=>?_)
   ·exact HSS.out _ (by first | exact x7.out | exact x7.out.drew)
   clear hK K
   try simp only [Act.put,List.setIfInBounds_toArray,List.set_cons_zero,List.set_cons_succ]
   refine tkw 25 59 ⟨rfl,qGPaWt1⟩ ?_
   refine tkw 26 60 ⟨rfl,qGPaWt1⟩ ?_
   refine tkw 27 61 ⟨rfl,qGPaWt1⟩ ?_
   refine tkw 28 62 ⟨rfl,qGPaWt1⟩ ?_
   refine tkw 30 64 ⟨rfl,qGPaWt1⟩ ?_
   refine tkw 31 65 ⟨rfl,qGPaWt1⟩ ?_
   refine rdy (rdc 29 63 (fun K hK=>?_) .nil)
   go_simp
   go_at_call 21
   refine (HSz8.out _ (by first | exact x7.out | exact x7.out.drew)).mono ?_
   rintro e y8 ⟨sv,rfl,hsz,hq⟩
   have HS1:=lh hsz.ints
   clear hsz
   have x8:Hid (Only [] W8 y8):=lh (by first | exact x7.out.q hq | exact x7.out.drew.q hq)
   clear hq
   refine hK.out _ _ ?_ (fun hHeld=>?_)
   ·exact HSS.out _ (by first | exact x8.out | exact x8.out.drew)
   clear hK K
   try simp only [Act.put,List.setIfInBounds_toArray,List.set_cons_zero,List.set_cons_succ]
   refine rdy (rdc 32 66 (fun K hK=>?_) .nil)
   go_simp
   go_at_call 22
   refine (HKz8.out _ (by first | exact x8.out | exact x8.out.drew)).mono ?_
   rintro e y9 ⟨tv,rfl,htz,hq⟩
   have HS2:=lh htz.ints
   have HS1b:=lh (show Ints .i64 _ _ y9 _ (sizesOf cs) from by first | exact HS1.out.quiet hq | exact (HS1.out.quiet (Only.refl _ _).drew).quiet hq)
   clear htz
   have x9:Hid (Only [] W8 y9):=lh (by first | exact x8.out.q hq | exact x8.out.drew.q hq)
   clear hq
   refine hK.out _ _ ?_ (fun hHeld=>?_)
   ·exact HSS.out _ (by first | exact x9.out | exact x9.out.drew)
   clear hK K
   try simp only [Act.put,List.setIfInBounds_toArray,List.set_cons_zero,List.set_cons_succ]
   refine rdy (rdc 33 67 (fun K hK=>?_) .nil)
   go_simp
   go_at_call 20
   refine (intsEq_any (by first | exact HS1b.out | exact HS1b.out.quiet (Only.refl _ _).drew) (by first | exact HS2.out | exact HS2.out.quiet (Only.refl _ _).drew)).mono ?_
   rintro e yA ⟨rfl,hq⟩
   rw [show eqB (sizesOf cs) (sizesOf cs)=true by simp [eqB]]
   have xA:Hid (Only [] W8 yA):=lh (by first | exact x9.out.q hq | exact x9.out.drew.q hq)
   clear hq
   refine hK.out _ _ ?_ (fun hHeld=>?_)
   ·exact HSS.out _ (by first | exact xA.out | exact xA.out.drew)
   clear hK K
   try simp only [Act.put,List.setIfInBounds_toArray,List.set_cons_zero,List.set_cons_succ]
   refine tkw 34 68 ⟨rfl,qGPaWt1⟩ ?_
   refine tkw 35 2 ⟨rfl,qGPaWt1⟩ ?_
   refine wpAnyH_done (by kernel_rfl) ?_ _
   go_wp2_with fail
   exact HPost.out _ _ ⟨rfl,by first | exact HQ8.out.q xA.out | exact HQ8.out.q xA.out.drew⟩
end
end Go.Proofs.YtkigikallkpbcaaGreatDoor
