/- Joined texts: GFirst, GLaw. Conditions: each part names its own. -/
import Derived.Test.YtkigikallkpbcaaGreatDoorT1
import Derived.Test.YtkigikallkpbcaaGreatDoorGB
import Derived.Test.YtkigikallkpbcaaGreatDoorG3
import Derived.Test.YtkigikallkpbcaaGreatDoorC4
import Derived.Deep.DeepCutAuto
import Derived.Test.YtkigikallkpbcaaGreatDoorC1
import Derived.Test.YtkigikallkpbcaaGreatDoorC3
namespace Go.Proofs.YtkigikallkpbcaaGreatDoor
open Go.RowKit
set_option linter.unusedVariables false
set_option linter.unusedSimpArgs false
set_option maxRecDepth 100000
set_option maxHeartbeats 16000000
theorem qGFirstt0 {p:Prop} (h:p:=by intro wz hSw;obtain ⟨l0,g0,g1,g2,hS4⟩:=hSw;obtain ⟨r0,r1,r2,r3⟩:=row4_cells hS4;go_simp;try with_reducible rfl):p:=h
section
theorem qGFirst0 {p:Prop} (h:p:=by
 replace o:Hid (Only [] W8 v'):=lh (by first | exact o.out.q hq | exact o.out.drew.q hq)
 clear hq
 obtain ⟨v,rfl⟩:∃ z,z=v':=⟨_,rfl⟩
 refine hK.out _ _ ?_ (fun hHeld=>?_)
 ·exact HS.out _ (by first | exact o.out | exact o.out.drew)
 clear hK K
 try simp only [Act.put,List.setIfInBounds_toArray,List.set_cons_zero,List.set_cons_succ]
 refine rdy (rdc 49 84 (fun K hK=>?_) .nil)
 go_simp
 go_at_call 20
 refine (intsEq_any (by first | exact HSi.out | exact HSi.out.quiet (Only.refl _ _).drew) (by first | exact H8.out | exact H8.out.quiet (Only.refl _ _).drew)).mono ?_
 rintro e v' ⟨rfl,hq⟩
 rw [show eqB (sizesOf [⟨4,[]⟩]) [8]=true by kernel_rfl]
 replace o:Hid (Only [] W8 v'):=lh (by first | exact o.out.q hq | exact o.out.drew.q hq)
 clear hq
 obtain ⟨v,rfl⟩:∃ z,z=v':=⟨_,rfl⟩
 refine hK.out _ _ ?_ (fun hHeld=>?_)
 ·exact HS.out _ (by first | exact o.out | exact o.out.drew)
 clear hK K
 try simp only [Act.put,List.setIfInBounds_toArray,List.set_cons_zero,List.set_cons_succ]
 refine tkw 50 85 ⟨rfl,qGFirstt0⟩ ?_
 refine tkw 51 0 ⟨rfl,qGFirstt0⟩ ?_
 refine wpAnyH_done (by kernel_rfl) ?_ _
 go_wp2_with fail
 exact HPost.out _ _ ⟨rfl,by first | exact HQ8.out.q o.out | exact HQ8.out.q o.out.drew⟩):p:=h
theorem qGFirst1 {p:Prop} (h:p:=by
 exact HS.out _ (by first | exact o.out | exact o.out.drew)):p:=h
theorem gfirst1_any (w:World) (hE:ErrT w) :
  Calls Tryz.prog 9 #[] w fun e w'=>e=.returned (.bool true)∧Only [] w w':=by
 refine hidQ fun Q HPost=>?_
 have HE:=lh hE
 clear hE
 have HPl128:=lh (fun W:World=>gplain_any 128 W (show (-9223372036854775808:Int)≤128∧(128:Int)≤9223372036854775807 by decide))
 have HPl7:=lh (fun W:World=>gplain_any 7 W (show (-9223372036854775808:Int)≤7∧(7:Int)≤9223372036854775807 by decide))
 have HWr:=lh (fun W:World=>wrap_any sGop 0 1 W (by decide))
 unfold sGop at HWr
 go_enter Tryz.func9,Tryz.ntmps9
 go_wp2_with fail
 go_at_call 35
 refine (tight_any _).mono ?_
 rintro e w1 ⟨rfl,hq1⟩
 have HQ1:=lh hq1
 clear hq1
 go_wp2_with fail
 go_at_call 36
 refine (HPl7.out _).mono ?_
 rintro e w2 ⟨g2,c2,rfl,ho2,hq2⟩
 have HQ2:=lh (HQ1.out.q hq2)
 have hf:=frames_one (f:=plainF 7) (ho2.ints (l:=(plainF 7).pix))
 have hn:=Only.new (w2.alloc (.cells #[.int .i64 8,.int .i64 8,.slice (some ⟨g2,0,none⟩) 64 c2] 73)) (.cells #[.int .i64 8] 3)
 have h8:Ints .i64 (w2.heap.size+1) (w2.heap.size+1+1) ((w2.alloc (.cells #[.int .i64 8,.int .i64 8,.slice (some ⟨g2,0,none⟩) 64 c2] 73)).alloc (.cells #[.int .i64 8] 3)) (.slice (some ⟨w2.heap.size+1,0,none⟩) 1 1) [8]:=ints_newG (k:=.i64) (l:=[8]) rfl (by simp [maxLen]) (by simp [InK]) 1 rfl (by simp)
 have hfq:=FramesAt.quiet (show FramesAt 0 _ (w2.alloc (.cells #[.int .i64 8,.int .i64 8,.slice (some ⟨g2,0,none⟩) 64 c2] 73)) (.slice (some ⟨w2.heap.size,0,none⟩) 1 1) [plainF 7] from hf) hn
 have HEn:=lh (gencode_any (a0:=0) (a1:=3) (a2:=0) (a3:=0) (a4:=4) (a5:=8) (a6:=8) (a7:=8) hfq (by simp) h8 (by simp) (by simp))
 have HQ3:=lh (HQ2.out.q ((Only.new _ _).q hn))
 clear hq2 hf hn h8 hfq ho2
 go_wp2_with fail
 generalize hW3:World.alloc (World.alloc w2 _) _=W3 at *
 clear hW3
 go_at_call 28
 refine HEn.out.mono ?_
 rintro e w4 ⟨hq4,hm⟩
 rw [show gcheckE ⟨0,3,0,0,4,8,8,8⟩ [plainF 7] [8]=none from gcheck_tight,show gopA ⟨0,3,0,0,4,8,8,8⟩ [plainF 7] [8]=[⟨4,[]⟩] from gopA_tight,show gopB ⟨0,3,0,0,4,8,8,8⟩ [plainF 7] [8]=[plainF 128] from gopB_tight] at hm
 obtain ⟨la,ln,fa,fn,rfl,hlc,hfc⟩:=hm
 have HQ4:=lh (HQ3.out.q hq4)
 have HLc:=lh hlc
 have HFc:=lh hfc
 have HPn:=lh (fun (W:World)=>gparse_any (l:=[]) (Ints.nil .u8 0 0 W) (by simp))
 clear hq4 hlc hfc HEn
 go_wp2_with fail
 go_at_call 23
 refine (HPn.out _).mono ?_
 rintro e w5 ⟨hq5,U5,E5,hs5,hm5⟩
 rw [spl_nil hs5] at hm5
 obtain ⟨ev5,rfl,hev5⟩:=hm5
 obtain ⟨et5,eu5,rfl⟩:=hev5.held
 have HEv:=lh hev5
 have HQ45:=lh hq5
 clear hq5 hs5 hev5 HPn
 have HN5:=lh (Only.new w5 (.cells #[.int .i64 0,.int .i64 0,.int .i64 0,.slice none 0 0] 26))
 go_upto_region 3 with (fail)
 generalize hW5:World.alloc w5 _=W5 at *
 clear hW5
 have HQ46:=lh (HQ45.out.q HN5.out)
 have HPk:=lh (gpack_any (c:=chunkF) (HLc.out.quiet HQ46.out) chunkF_ok)
 unfold chunkF at HPk
 simp only at HPk
 go_wp2_with fail
 go_at_call 12
 refine HPk.out.mono ?_
 rintro e w6 ⟨hq6,hm6⟩
 rw [show chunkB ⟨0,0,1,[⟨4,[]⟩]⟩=true from chunkF_by.1] at hm6
 obtain ⟨kv,rfl,ho6⟩:=hm6
 obtain ⟨kva,kvc,hkv,-⟩:=ho6.ints.open
 have HP6:=lh (gparse_any ho6.ints (by have h:=packB_len chunkF;unfold chunkF at h;simp [sizesOf,costOf] at h;omega))
 have HQ47:=lh (HQ46.out.q hq6)
 have HQ56:=lh (HN5.out.q hq6)
 subst hkv
 clear hq6 ho6 HPk
 go_wp2_with fail
 go_at_call 23
 refine HP6.out.mono ?_
 rintro e w7 ⟨hq7,U7,E7,hs7,hm7⟩
 obtain ⟨rfl,rfl⟩:=spl_one hs7 (spl_pack chunkF_by)
 rw [show parseE (packU ⟨0,0,1,[⟨4,[]⟩]⟩) none=.ok ⟨0,0,1,[⟨4,[]⟩]⟩ from parse_pack chunkF_by] at hm7
 obtain ⟨ka,kc,rfl,-⟩:=hm7
 simp only [List.length_cons,List.length_nil]
 have HQ48:=lh (HQ47.out.q hq7)
 have HN7:=lh (Only.new w7 (.cells #[.int .i64 0,.int .i64 0,.int .i64 1,.slice ka 1 kc] 26))
 have HR7:=lh (heap_alloc_new w7 (.cells #[.int .i64 0,.int .i64 0,.int .i64 1,.slice ka 1 kc] 26))
 have HQ57:=lh (HQ56.out.q hq7)
 clear hq7 hs7 HP6
 go_upto_region 5 with (fail)
 generalize hW8:World.alloc w7 _=W8 at *
 clear hW8
 obtain ⟨CB,hCB⟩:∃ z,z=w7.heap.size:=⟨_,rfl⟩
 rw [← hCB] at HR7 ⊢
 clear hCB
 have HQ8:=lh (HQ4.out.q (HQ48.out.q HN7.out))
 have hq48:=HQ48.out.q HN7.out
 have hq58:=HQ57.out.q HN7.out
 have HLc8:=lh (HLc.out.quiet hq48)
 have HSz:=lh (fun (W:World) (o:Only [] W8 W)=>sizes_any (HLc8.out.quiet o) (by simp) (by intro i hi;simp at hi;subst hi;simp))
 obtain ⟨_,_,hle,-,-,hlat⟩:=HLc8.out.open
 injection hle with e1 e2 e3
 subst e1
 obtain ⟨lb,loff,ldv,rfl,-,-,hl0,-⟩:=hlat 0 (by simp)
 have hl0:W8.cell? ⟨lb,loff,none⟩=some (.int .i64 4):=by simpa using hl0
 obtain ⟨_,_,hfe,-,-,hfat⟩:=(HFc.out.quiet hq48).open
 injection hfe with e4 e5 e6
 subst e4
 obtain ⟨fb,foff,fdv,rfl,-,-,hf0,hf1,hf2,hfi⟩:=hfat 0 (by simp)
 rw [show ([plainF 128]:List FrameD).getD 0 default=plainF 128 from rfl] at hf0 hf1 hfi
 rw [Nat.zero_mul,Nat.add_zero] at hf0 hf1 hf2
 obtain ⟨pa,pc,rfl,-⟩:=hfi.open
 have HFi:=lh hfi
 have HS:Hid (∀ wx:World,Only [] W8 wx→wx.cell? ⟨lb,loff,none⟩=some (.int .i64 4)∧wx.cell? ⟨fb,foff,none⟩=some (.int .i64 8)∧wx.cell? ⟨fb,foff+1,none⟩=some (.int .i64 8)∧wx.cell? ⟨fb,foff+2,none⟩=some (.slice pa 64 pc)∧wx.heap[CB]?=some (.cells #[.int .i64 0,.int .i64 0,.int .i64 1,.slice ka 1 kc] 26 (0,0))):=lh (fun wx o=>⟨o.cell hl0 (by simp),o.cell hf0 (by simp),o.cell hf1 (by simp),o.cell hf2 (by simp),o.row HR7.out⟩)
 have HKf:Hid (∀ (W:World) (o:Only [] W8 W) (l' h':Nat) (pu:Value) (hu:Ints .i64 l' h' W pu (plainF 128).pix),Calls Tryz.prog 37 #[.agg #[.int .i64 8,.int .i64 8,.slice pa 64 pc],.agg #[.int .i64 8,.int .i64 8,pu]] W fun e w'=>e=.returned (.bool true)∧Only [] W w'):=lh (fun W o l' h' pu hu=>by
  have h:=kframe_any (A:=plainF 128) (B:=plainF 128) (HFi.out.quiet o) hu
  rwa [show frEq (plainF 128) (plainF 128)=true by unfold frEq;simp [eqB]] at h)
 have HSm:=lh (fun (W:World) (o:Only [] W8 W) (lo' hi':Nat) (sv:Value) (g:Cells 2 lo' hi' W sv [(sGop,(0:Int))].length (flat [(sGop,(0:Int))]))=>same_any (o:=some ⟨[(sGop,0)],1⟩) (c:=1) (ErrV.quiet (HEv.out.quiet hq58) o) (Nat.le_trans hq58.size o.size) (HE.out.quiet (HQ8.out.q o)) (by simp) g rfl rfl rfl)
 have o:=lh (Only.refl [] W8)
 clear hl0 hf0 hf1 hf2 hfi hfat hlat e2 e3 e5 e6 hq48 hq58 HLc HFc HLc8 HEv HPl7 HFi
 refine wp_region_held_drew (S:=(fun wz=>wz.cell? ⟨lb,loff,none⟩=some (.int .i64 4)∧wz.cell? ⟨fb,foff,none⟩=some (.int .i64 8)∧wz.cell? ⟨fb,foff+1,none⟩=some (.int .i64 8)∧wz.cell? ⟨fb,foff+2,none⟩=some (.slice pa 64 pc)∧wz.heap[CB]?=some (.cells #[.int .i64 0,.int .i64 0,.int .i64 1,.slice ka 1 kc] 26 (0,0)))) (by kernel_rfl) ?_ (fun hHeld=>?_)
 ·first | exact HS.out _ (Only.refl _ _) | exact HS.out _ (Only.refl _ _).drew
 refine tkw 0 35 ⟨rfl,qGFirstt0⟩ ?_
 refine tkw 1 36 ⟨rfl,qGFirstt0⟩ ?_
 refine tkw 2 37 ⟨rfl,qGFirstt0⟩ ?_
 refine tkw 3 38 ⟨rfl,qGFirstt0⟩ ?_
 refine tkw 4 39 ⟨rfl,qGFirstt0⟩ ?_
 refine tkw 5 40 ⟨rfl,qGFirstt0⟩ ?_
 refine tkw 6 41 ⟨rfl,qGFirstt0⟩ ?_
 refine tkw 7 42 ⟨rfl,qGFirstt0⟩ ?_
 refine tkw 8 43 ⟨rfl,qGFirstt0⟩ ?_
 refine tkw 9 44 ⟨rfl,qGFirstt0⟩ ?_
 refine tkw 10 45 ⟨rfl,qGFirstt0⟩ ?_
 refine tkw 11 46 ⟨rfl,qGFirstt0⟩ ?_
 refine tkw 12 47 ⟨rfl,qGFirstt0⟩ ?_
 refine tkw 13 48 ⟨rfl,qGFirstt0⟩ ?_
 refine tkw 14 49 ⟨rfl,qGFirstt0⟩ ?_
 refine tkw 15 50 ⟨rfl,qGFirstt0⟩ ?_
 refine tkw 16 51 ⟨rfl,qGFirstt0⟩ ?_
 refine tkw 17 52 ⟨rfl,qGFirstt0⟩ ?_
 refine tkw 18 53 ⟨rfl,qGFirstt0⟩ ?_
 refine tkw 19 54 ⟨rfl,qGFirstt0⟩ ?_
 refine tkw 20 55 ⟨rfl,qGFirstt0⟩ ?_
 refine tkw 21 56 ⟨rfl,qGFirstt0⟩ ?_
 refine tkw 22 57 ⟨rfl,qGFirstt0⟩ ?_
 refine rdy (rdc 23 58 (fun K hK=>?_) .nil)
 go_simp
 go_at_call 36
 refine (HPl128.out _).mono ?_
 rintro e v' ⟨g3,c3x,rfl,ho,hq⟩
 have HP3:=lh ho.ints
 clear ho
 replace o:Hid (Only [] W8 v'):=lh (by first | exact o.out.q hq | exact o.out.drew.q hq)
 clear hq
 obtain ⟨v,rfl⟩:∃ z,z=v':=⟨_,rfl⟩
 refine hK.out _ _ ?_ (fun hHeld=>?_)
 ·exact qGFirst1
 clear hK K
 try simp only [Act.put,List.setIfInBounds_toArray,List.set_cons_zero,List.set_cons_succ]
 refine rdy (rdc 24 59 (fun K hK=>?_) .nil)
 go_simp
 go_at_call 37
 refine (HKf.out _ (by first | exact o.out | exact o.out.drew) _ _ _ (by first | exact HP3.out | exact HP3.out.quiet (Only.refl _ _).drew)).mono ?_
 rintro e v' ⟨rfl,hq⟩
 clear HP3
 replace o:Hid (Only [] W8 v'):=lh (by first | exact o.out.q hq | exact o.out.drew.q hq)
 clear hq
 obtain ⟨v,rfl⟩:∃ z,z=v':=⟨_,rfl⟩
 refine hK.out _ _ ?_ (fun hHeld=>?_)
 ·exact qGFirst1
 clear hK K
 try simp only [Act.put,List.setIfInBounds_toArray,List.set_cons_zero,List.set_cons_succ]
 refine tkw 25 60 ⟨rfl,qGFirstt0⟩ ?_
 refine tkw 26 61 ⟨rfl,qGFirstt0⟩ ?_
 refine tkw 27 62 ⟨rfl,qGFirstt0⟩ ?_
 refine rdy (rdc 28 63 (fun K hK=>?_) .nil)
 go_simp
 go_at_call 38
 refine (HWr.out _).mono ?_
 rintro e v' ⟨kv,rfl,⟨ksv,rfl,hkc⟩,hq⟩
 have HKe:=lh hkc
 clear hkc
 replace o:Hid (Only [] W8 v'):=lh (by first | exact o.out.q hq | exact o.out.drew.q hq)
 clear hq
 obtain ⟨v,rfl⟩:∃ z,z=v':=⟨_,rfl⟩
 refine hK.out _ _ ?_ (fun hHeld=>?_)
 ·exact qGFirst1
 clear hK K
 try simp only [Act.put,List.setIfInBounds_toArray,List.set_cons_zero,List.set_cons_succ]
 refine rdy (rdc 29 64 (fun K hK=>?_) .nil)
 go_simp
 go_at_call 18
 refine (HSm.out _ (by first | exact o.out | exact o.out.drew) _ _ _ (by first | exact HKe.out | exact HKe.out.only (Only.refl [] _).drew (by simp))).mono ?_
 rintro e v' ⟨rfl,hq⟩
 clear HKe
 replace o:Hid (Only [] W8 v'):=lh (by first | exact o.out.q hq | exact o.out.drew.q hq)
 clear hq
 obtain ⟨v,rfl⟩:∃ z,z=v':=⟨_,rfl⟩
 refine hK.out _ _ ?_ (fun hHeld=>?_)
 ·exact qGFirst1
 clear hK K
 try simp only [Act.put,List.setIfInBounds_toArray,List.set_cons_zero,List.set_cons_succ]
 refine tkw 30 65 ⟨rfl,qGFirstt0⟩ ?_
 refine tkw 31 66 ⟨rfl,qGFirstt0⟩ ?_
 refine tkw 32 67 ⟨rfl,qGFirstt0⟩ ?_
 refine tkw 33 68 ⟨rfl,qGFirstt0⟩ ?_
 refine tkw 34 69 ⟨rfl,qGFirstt0⟩ ?_
 refine tkw 35 70 ⟨rfl,qGFirstt0⟩ ?_
 refine tkw 36 71 ⟨rfl,qGFirstt0⟩ ?_
 refine tkw 37 72 ⟨rfl,qGFirstt0⟩ ?_
 refine tkw 38 73 ⟨rfl,qGFirstt0⟩ ?_
 refine tkw 39 74 ⟨rfl,qGFirstt0⟩ ?_
 refine tkw 40 75 ⟨rfl,qGFirstt0⟩ ?_
 refine tkw 41 76 ⟨rfl,qGFirstt0⟩ ?_
 refine tkw 42 77 ⟨rfl,qGFirstt0⟩ ?_
 refine tkw 43 78 ⟨rfl,qGFirstt0⟩ ?_
 refine tkw 44 79 ⟨rfl,qGFirstt0⟩ ?_
 refine tkw 45 80 ⟨rfl,qGFirstt0⟩ ?_
 refine tkw 46 81 ⟨rfl,qGFirstt0⟩ ?_
 refine rdy (rdc 47 82 (fun K hK=>?_) (rdc 48 83 (fun K hK=>?_) .nil))
 ·go_simp
  go_at_call 21
  refine (HSz.out _ (by first | exact o.out | exact o.out.drew)).mono ?_
  rintro e v' ⟨sv,rfl,hsz,hq⟩
  have HSi:=lh hsz.ints
  clear hsz
  (try replace H8:Hid (Ints .i64 _ _ v' _ [8]):=lh (by first | exact H8.out.quiet hq | exact (H8.out.quiet (Only.refl _ _).drew).quiet hq))
  replace o:Hid (Only [] W8 v'):=lh (by first | exact o.out.q hq | exact o.out.drew.q hq)
  clear hq
  obtain ⟨v,rfl⟩:∃ z,z=v':=⟨_,rfl⟩
  refine hK.out _ _ ?_ (fun hHeld=>?_)
  ·exact qGFirst1
  clear hK K
  try simp only [Act.put,List.setIfInBounds_toArray,List.set_cons_zero,List.set_cons_succ]
  refine rdy (rdc 48 83 (fun K hK=>?_) .nil)
  go_simp
  generalize hW:World.alloc _ _=v'
  have hq:Only [] v v':=by rw [← hW];first | exact Only.new _ _ | exact ((Only.refl _ _).drew).q (Only.new _ _)
  have H8:Hid (Ints .i64 v.heap.size (v.heap.size+1) v' (.slice (some ⟨v.heap.size,0,none⟩) 1 1) [8]):=lh (by rw [← hW];exact ints_newG (k:=.i64) (l:=[8]) rfl (by simp [maxLen]) (by simp [InK]) 1 rfl rfl)
  clear hW
  (try replace HSi:Hid (Ints .i64 _ _ v' _ (sizesOf [⟨4,[]⟩])):=lh (by first | exact HSi.out.quiet hq | exact (HSi.out.quiet (Only.refl _ _).drew).quiet hq))
  exact qGFirst0
 ·go_simp
  generalize hW:World.alloc _ _=v'
  have hq:Only [] v v':=by rw [← hW];first | exact Only.new _ _ | exact ((Only.refl _ _).drew).q (Only.new _ _)
  have H8:Hid (Ints .i64 v.heap.size (v.heap.size+1) v' (.slice (some ⟨v.heap.size,0,none⟩) 1 1) [8]):=lh (by rw [← hW];exact ints_newG (k:=.i64) (l:=[8]) rfl (by simp [maxLen]) (by simp [InK]) 1 rfl rfl)
  clear hW
  (try replace HSi:Hid (Ints .i64 _ _ v' _ (sizesOf [⟨4,[]⟩])):=lh (by first | exact HSi.out.quiet hq | exact (HSi.out.quiet (Only.refl _ _).drew).quiet hq))
  replace o:Hid (Only [] W8 v'):=lh (by first | exact o.out.q hq | exact o.out.drew.q hq)
  clear hq
  obtain ⟨v,rfl⟩:∃ z,z=v':=⟨_,rfl⟩
  refine hK.out _ _ ?_ (fun hHeld=>?_)
  ·exact qGFirst1
  clear hK K
  try simp only [Act.put,List.setIfInBounds_toArray,List.set_cons_zero,List.set_cons_succ]
  refine rdy (rdc 47 82 (fun K hK=>?_) .nil)
  go_simp
  go_at_call 21
  refine (HSz.out _ (by first | exact o.out | exact o.out.drew)).mono ?_
  rintro e v' ⟨sv,rfl,hsz,hq⟩
  have HSi:=lh hsz.ints
  clear hsz
  (try replace H8:Hid (Ints .i64 _ _ v' _ [8]):=lh (by first | exact H8.out.quiet hq | exact (H8.out.quiet (Only.refl _ _).drew).quiet hq))
  exact qGFirst0
end
section
theorem gsame_any {lo hi lo' hi':Nat} {a b:Option Addr} {n n':Nat} {x y z:Int} {cs:List Coded} {w:World} (h:CodedsAt lo hi w (.slice a cs.length n) cs) (g:CodedsAt lo' hi' w (.slice b cs.length n') cs) :
  Calls Tryz.prog 25 #[.agg #[.int .i64 x,.int .i64 y,.int .i64 z,.slice a cs.length n],.agg #[.int .i64 x,.int .i64 y,.int .i64 z,.slice b cs.length n']] w fun e w'=>e=.returned (.bool true)∧Only [] w w':=by
 obtain ⟨hb,HA,HB,-⟩:=boxes2 w (.cells #[.int .i64 x,.int .i64 y,.int .i64 z,.slice a cs.length n] 26) (.cells #[.int .i64 x,.int .i64 y,.int .i64 z,.slice b cs.length n'] 41)
 have HQ:=lh hb
 have HC:=lh (codeds_any (h.quiet hb) (g.quiet hb))
 rw [show eqB cs cs=true by simp [eqB]] at HC
 clear h g hb
 obtain ⟨a0,a1,a2,a3⟩:=row4_cells HA.out
 obtain ⟨b0,b1,b2,b3⟩:=row4_cells HB.out
 go_enter Tryz.func25,Tryz.ntmps25
 go_wp2_with fail
 generalize hW1:World.alloc (World.alloc w _) _=W1 at *
 clear hW1
 go_at_call 19
 refine HC.out.mono ?_
 rintro e w2 ⟨rfl,hq2⟩
 go_wp2_with fail
 go_ret
 exact ⟨rfl,HQ.out.q hq2⟩
end
end Go.Proofs.YtkigikallkpbcaaGreatDoor
