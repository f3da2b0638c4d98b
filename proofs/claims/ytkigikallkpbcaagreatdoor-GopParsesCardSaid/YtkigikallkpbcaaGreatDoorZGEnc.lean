/- gop.Encode codes a group: each frame fitted behind what was built ahead of it. Conditions: what is handed in reads. -/
import Derived.Test.YtkigikallkpbcaaGreatDoorT1
import Derived.Test.YtkigikallkpbcaaGreatDoorG6
import Derived.Test.YtkigikallkpbcaaGreatDoorG7
import Derived.Test.YtkigikallkpbcaaGreatDoorF1
import Derived.Test.YtkigikallkpbcaaGreatDoorL6
import Derived.Test.YtkigikallkpbcaaGreatDoorG1
import Derived.Deep.DeepCutAuto
namespace Go.Proofs.YtkigikallkpbcaaGreatDoor
open Go.RowKit
set_option linter.unusedVariables false
set_option linter.unusedSimpArgs false
set_option maxRecDepth 100000
set_option maxHeartbeats 16000000
theorem qGEnct0 {p:Prop} (h:p:=by intro wz hSw;obtain ⟨hS0,hS1,hS2,hS3⟩:=hSw;obtain ⟨k0,k1,k2,k3,k4,k5,k6,k7⟩:=cfg_cells hS0;obtain ⟨p0,p1,p2⟩:=frame_cells hS1;obtain ⟨s0,s1,s2⟩:=frame_cells hS2;go_simp;try with_reducible rfl):p:=h
/-- what gop.Encode hands back -/
def GopP (c:Cfg) (l:List FrameD) (caps:List Int) (w:World) (e:Ending) (w':World):Prop :=
 Only [] w w'∧match gcheckE c l caps with
  | some k=>e=.returned (.tuple #[.slice none 0 0,.slice none 0 0,.iface 35 (.int .i64 k)])
  | none=>∃ a an b bn,e=.returned (.tuple #[.slice a l.length an,.slice b l.length bn,.nilIface])∧CodedsAt w.heap.size w'.heap.size w' (.slice a l.length an) (gopA c l caps)∧FramesAt w.heap.size w'.heap.size w' (.slice b l.length bn) (gopB c l caps)
section
theorem qGEnc0 {p:Prop} (h:p:=by
 refine rdy (rdn 16 (fun K hK=>?_) .nil)
 refine wp_store_rowQ (.tmp 15) (.tmp 43) 69 rfl (g:=bC) (c':=#[.int .i64 C.kind,.slice d3 C.data.length n3]) rfl rfl HC.out (cd_info _ _) rfl (by first | kernel_rfl | simp [Value.oneCell']) (fun v' hq hr=>?_)
 have q:Only [bC] v v':=by first | exact hq | exact ((Only.refl _ _).drew.mono (U:=[bC]) (by simp)).trans hq (fun g h _=>h) (fun g h _=>h)
 replace HC:=lh hr
 replace HE:=lh (q.rowAt HE.out (by rw [mSg];have:=HnCE.out;omega))
 replace HK:Hid (EncK l1 h1 v' (.slice d3 C.data.length n3) C.data (.slice f3 B1.pix.length m3) B1.pix):=lh (HK.out.only q (fun g hg=>by rw [mSg] at hg;subst hg;exact HkC.out.2))
 replace HKb:Hid (W4.heap.size≤l1∧h1≤v'.heap.size):=lh ⟨HKb.out.1,Nat.le_trans HKb.out.2 q.size⟩
 replace o:Hid (Only [] W4 v'):=lh (o.out.trans q (by simp) (fun g hg hlt=>by rw [mSg] at hg;have:=HkC.out.1;omega))
 clear hq hr q
 obtain ⟨v,rfl⟩:∃ z,z=v':=⟨_,rfl⟩
 refine hK.out _ _ ?_ (fun hHeld=>?_)
 ·exact HSS.out _ (by first | exact o.out | exact o.out.drew)
 clear hK K
 refine rdy (rdn 17 (fun K hK=>?_) .nil)
 refine wp_store_rowQ (.tmp 16) (.tmp 44) 73 rfl (g:=bE) (c':=#[.int .i64 B1.W,.int .i64 B1.H,.slice f3 B1.pix.length m3]) rfl rfl HE.out (fr_info _ _ _) rfl (by first | kernel_rfl | simp [Value.oneCell']) (fun v' hq hr=>?_)
 have q:Only [bE] v v':=by first | exact hq | exact ((Only.refl _ _).drew.mono (U:=[bE]) (by simp)).trans hq (fun g h _=>h) (fun g h _=>h)
 replace HE:=lh hr
 replace HC:=lh (q.rowAt HC.out (by rw [mSg];have:=HnCE.out;omega))
 replace HK:Hid (EncK l1 h1 v' (.slice d3 C.data.length n3) C.data (.slice f3 B1.pix.length m3) B1.pix):=lh (HK.out.only q (fun g hg=>by rw [mSg] at hg;subst hg;exact HkE.out.2))
 replace HKb:Hid (W4.heap.size≤l1∧h1≤v'.heap.size):=lh ⟨HKb.out.1,Nat.le_trans HKb.out.2 q.size⟩
 replace o:Hid (Only [] W4 v'):=lh (o.out.trans q (by simp) (fun g hg hlt=>by rw [mSg] at hg;have:=HkE.out.1;omega))
 clear hq hr q
 obtain ⟨v,rfl⟩:∃ z,z=v':=⟨_,rfl⟩
 refine hK.out _ _ ?_ (fun hHeld=>?_)
 ·exact HSS.out _ (by first | exact o.out | exact o.out.drew)
 clear hK K
 refine tkw 18 17 ⟨rfl,qGEnct0⟩ ?_
 refine wpAnyH_done (by kernel_rfl) ?_ _
 go_wp2_with fail
 go_meet
 exact ⟨bC,bE,l1,h1,d3,n3,f3,m3,rfl,rfl,rfl,o,HC,HE,HKb,HK,HkC,HkE⟩):p:=h
theorem qGEnc1 {p:Prop} (h:p:=by
 exact HSS.out _ (by first | exact o.out | exact o.out.drew)):p:=h
theorem qGEnc2 {p:Prop} (h:p:=by
 clear hb hz
 obtain ⟨v,rfl⟩:∃ z,z=v':=⟨_,rfl⟩
 refine hK.out _ _ ?_ (fun hHeld=>?_)
 ·exact qGEnc1
 clear hK K
 refine rdy (rdc 9 42 (fun K hK=>?_) .nil)
 go_simp
 go_at_call 60
 refine (HFt.out _ (by first | exact o.out | exact o.out.drew)).mono ?_
 rintro e v' ⟨hq,d3,n3,f3,m3,rfl,hi9⟩
 obtain ⟨l1,hl1⟩:∃ z,z=v.heap.size:=⟨_,rfl⟩
 obtain ⟨h1,hh1⟩:∃ z,z=v'.heap.size:=⟨_,rfl⟩
 have hKf:EncK l1 h1 v' (.slice d3 C.data.length n3) C.data (.slice f3 B1.pix.length m3) B1.pix:=by rw [hl1,hh1];exact hi9
 have hKl:v.heap.size≤l1:=by omega
 have hKh:h1≤v'.heap.size:=by omega
 clear hi9 hl1 hh1
 have q:Only [] v v':=by first | exact hq | exact ((Only.refl _ _).drew).q hq
 have hVl:W4.heap.size≤v.heap.size:=o.out.size
 have HkC:Hid (W4.heap.size≤bC∧(bC<l1∨h1≤bC)):=lh (by have:=(Array.getElem?_eq_some_iff.1 HC.out).1;have:=HzC.out;exact ⟨by omega,.inl (by omega)⟩)
 have HkE:Hid (W4.heap.size≤bE∧(bE<l1∨h1≤bE)):=lh (by have:=(Array.getElem?_eq_some_iff.1 HE.out).1;have:=HzE.out;exact ⟨by omega,.inl (by omega)⟩)
 replace HC:=lh (q.row HC.out)
 replace HE:=lh (q.row HE.out)
 have HK:=lh hKf
 have HKb:Hid (W4.heap.size≤l1∧h1≤v'.heap.size):=lh ⟨by omega,hKh⟩
 replace o:=lh (o.out.q q)
 clear hq q hKf hKl hKh hVl
 obtain ⟨v,rfl⟩:∃ z,z=v':=⟨_,rfl⟩
 refine hK.out _ _ ?_ (fun hHeld=>?_)
 ·exact qGEnc1
 clear hK K
 refine tkw 10 32 ⟨rfl,qGEnct0⟩ ?_
 refine tkw 11 43 ⟨rfl,qGEnct0⟩ ?_
 refine tkw 12 44 ⟨rfl,qGEnct0⟩ ?_
 refine tkw 13 45 ⟨rfl,qGEnct0⟩ ?_
 exact qGEnc0):p:=h
theorem qGEnc5 {p:Prop} (h:p:=by
 clear hb hz
 obtain ⟨v,rfl⟩:∃ z,z=v':=⟨_,rfl⟩
 refine hK.out _ _ ?_ (fun hHeld=>?_)
 ·exact qGEnc1
 clear hK K
 exact qGEnc0):p:=h
theorem qGEnc3 {p:Prop} (h:p:=by
 refine rdy (rdc 15 16 (fun K hK=>?_) .nil)
 go_simp
 generalize hW:World.alloc _ _=v'
 have q:Only [] v v':=by rw [← hW];first | exact Only.new _ _ | exact ((Only.refl _ _).drew).q (Only.new _ _)
 have HE:Hid (v'.heap[v.heap.size]?=some (.cells #[.int .i64 0,.int .i64 0,.slice none 0 0] 73 (0,0))):=lh (by rw [← hW];exact heap_alloc_new _ _)
 have hz:W4.heap.size≤v.heap.size:=o.out.size
 have HkE:Hid (W4.heap.size≤v.heap.size∧(v.heap.size<l1∨h1≤v.heap.size)):=lh ⟨hz,.inr HKb.out.2⟩
 have HnCE:Hid (bC≠v.heap.size):=lh (by have:=(Array.getElem?_eq_some_iff.1 HC.out).1;omega)
 replace HC:=lh (q.row HC.out)
 replace HK:Hid (EncK l1 h1 v' (.slice d3 C.data.length n3) C.data (.slice f3 B1.pix.length m3) B1.pix):=lh (HK.out.only q (by simp))
 replace HKb:Hid (W4.heap.size≤l1∧h1≤v'.heap.size):=lh ⟨HKb.out.1,Nat.le_trans HKb.out.2 q.size⟩
 replace o:=lh (o.out.q q)
 clear hW q
 generalize hb:v.heap.size=bE at HE HkE HnCE ⊢
 have HzE:Hid (W4.heap.size≤bE):=lh (by rw [← hb];exact hz)
 exact qGEnc5):p:=h
theorem qGEnc4 {p:Prop} (h:p:=by
 refine rdy (rdc 14 15 (fun K hK=>?_) .nil)
 go_simp
 generalize hW:World.alloc _ _=v'
 have q:Only [] v v':=by rw [← hW];first | exact Only.new _ _ | exact ((Only.refl _ _).drew).q (Only.new _ _)
 have HC:Hid (v'.heap[v.heap.size]?=some (.cells #[.int .i64 0,.slice none 0 0] 69 (0,0))):=lh (by rw [← hW];exact heap_alloc_new _ _)
 have hz:W4.heap.size≤v.heap.size:=o.out.size
 have HkC:Hid (W4.heap.size≤v.heap.size∧(v.heap.size<l1∨h1≤v.heap.size)):=lh ⟨hz,.inr HKb.out.2⟩
 have HnCE:Hid (v.heap.size≠bE):=lh (by have:=(Array.getElem?_eq_some_iff.1 HE.out).1;omega)
 replace HE:=lh (q.row HE.out)
 replace HK:Hid (EncK l1 h1 v' (.slice d3 C.data.length n3) C.data (.slice f3 B1.pix.length m3) B1.pix):=lh (HK.out.only q (by simp))
 replace HKb:Hid (W4.heap.size≤l1∧h1≤v'.heap.size):=lh ⟨HKb.out.1,Nat.le_trans HKb.out.2 q.size⟩
 replace o:=lh (o.out.q q)
 clear hW q
 generalize hb:v.heap.size=bC at HC HkC HnCE ⊢
 have HzC:Hid (W4.heap.size≤bC):=lh (by rw [← hb];exact hz)
 exact qGEnc5):p:=h
theorem gencode_any {lo hi lo' hi':Nat} {v cv:Value} {l:List FrameD} {caps:List Int} {a0 a1 a2 a3 a4 a5 a6 a7:Int} {w:World} (h:FramesAt lo hi w v l) (hl:l.length≤1000000000) (hc:Ints .i64 lo' hi' w cv caps) (hcl:caps.length≤1000000000) (hh:hi≤w.heap.size) :
  Calls Tryz.prog 28 #[.agg #[.int .i64 a0,.int .i64 a1,.int .i64 a2,.int .i64 a3,.int .i64 a4,.int .i64 a5,.int .i64 a6,.int .i64 a7],v,cv] w (GopP (⟨a0,a1,a2,a3,a4,a5,a6,a7⟩:Cfg) l caps w):=by
 refine hidQ fun Q HPost=>?_
 have HCk:=lh (fun (W:World) (o:Only [] w W)=>gcheck_any (a0:=a0) (a1:=a1) (a2:=a2) (a3:=a3) (a4:=a4) (a5:=a5) (a6:=a6) (a7:=a7) (h.quiet o) hl (hc.quiet o) hcl)
 have Hhh:=lh hh
 obtain ⟨a,cap,rfl,-,-,hat⟩:=h.open
 have Hat:=lh hat
 obtain ⟨ca,ccap,rfl,-,-,hcb,hcc⟩:=hc.open
 have HCb:=lh hcb
 have HCc:=lh hcc
 have hq1:=Only.new w (.cells #[.int .i64 a0,.int .i64 a1,.int .i64 a2,.int .i64 a3,.int .i64 a4,.int .i64 a5,.int .i64 a6,.int .i64 a7] 60)
 have HQ1:=lh hq1
 have HK1:=lh (heap_alloc_new w (.cells #[.int .i64 a0,.int .i64 a1,.int .i64 a2,.int .i64 a3,.int .i64 a4,.int .i64 a5,.int .i64 a6,.int .i64 a7] 60))
 have hll:(l.length:Int)≤9223372036854775807:=by omega
 have hcl':(caps.length:Int)≤9223372036854775807:=by omega
 clear h hc hat hcb hcc hl hcl hq1 hh
 go_enter Tryz.func28,Tryz.ntmps28
 obtain ⟨k0,k1,k2,k3,k4,k5,k6,k7⟩:=cfg_cells HK1.out
 go_wp2_with fail
 generalize hW1:World.alloc w _=W1 at *
 clear hW1 k0 k1 k2 k3 k4 k5 k6 k7
 go_at_call 59
 refine (HCk.out _ HQ1.out).mono ?_
 rintro e w2 ⟨rfl,hq2⟩
 have HQ2:=lh (HQ1.out.q hq2)
 have HK2:=lh (hq2.row HK1.out)
 clear hq2 HCk
 unfold GopP at HPost
 cases hck:gcheckE (⟨a0,a1,a2,a3,a4,a5,a6,a7⟩:Cfg) l caps with
 | some kk =>
  rw [hck] at HPost
  simp only [codeV]
  clear hck
  go_wp2_with fail
  refine bodyPost_ret (v:=.tuple #[.slice none 0 0,.slice none 0 0,.iface 35 (.int .i64 kk)]) (by simp [results,Tryz.results28,go_sem]) rfl (HPost.out _ _ ⟨HQ2.out,rfl⟩)
 | none =>
  rw [hck] at HPost
  have HIn:=lh (gop_in hck)
  have HLn:=lh (And.intro (gcheck_none hck).2.2.2.2.1 (gcheck_none hck).2.2.1)
  have HGA:Hid (gopA (⟨a0,a1,a2,a3,a4,a5,a6,a7⟩:Cfg) l caps=(gopL (⟨a0,a1,a2,a3,a4,a5,a6,a7⟩:Cfg) (fun i=>caps.getD i 0) l 0 frame0).map (·.1)):=lh rfl
  have HGB:Hid (gopB (⟨a0,a1,a2,a3,a4,a5,a6,a7⟩:Cfg) l caps=(gopL (⟨a0,a1,a2,a3,a4,a5,a6,a7⟩:Cfg) (fun i=>caps.getD i 0) l 0 frame0).map (·.2)):=lh rfl
  generalize (l.getD 0 default).W=W0 at *
  generalize (l.getD 0 default).H=H0 at *
  simp only [codeV]
  clear hck
  go_wp2_with fail
  have HQ3:=lh (HQ2.out.q (Only.new w2 (.cells #[.int .i64 0,.int .i64 0,.slice none 0 0] 73)))
  have HP3:=lh (heap_alloc_new w2 (.cells #[.int .i64 0,.int .i64 0,.slice none 0 0] 73))
  have HK3:=lh ((Only.new w2 (.cells #[.int .i64 0,.int .i64 0,.slice none 0 0] 73)).row HK2.out)
  have HZ3:Hid ((w2.alloc (.cells #[.int .i64 0,.int .i64 0,.slice none 0 0] 73)).heap.size=w2.heap.size+1∧w.heap.size<w2.heap.size):=lh ⟨by simp,block_lt_of_cell (cfg_cells HK2.out).1⟩
  generalize hW3:World.alloc w2 _=W3 at *
  clear hW3
  go_loopw [27,10,11,13,14,15,16,17] (fun i r s _ _ _ _ _ wr=>∃ (k:Nat) (prev:FrameD) (A:List Coded) (B:List FrameD) (pa:Option Addr) (pc:Nat),k≤l.length∧i=.int .i64 k∧Hid (GopIn (⟨a0,a1,a2,a3,a4,a5,a6,a7⟩:Cfg) (fun i=>caps.getD i 0) W0 H0 (l.drop k) k prev)∧Hid (A ++ (gopL (⟨a0,a1,a2,a3,a4,a5,a6,a7⟩:Cfg) (fun i=>caps.getD i 0) (l.drop k) k prev).map (·.1)=gopA (⟨a0,a1,a2,a3,a4,a5,a6,a7⟩:Cfg) l caps∧B ++ (gopL (⟨a0,a1,a2,a3,a4,a5,a6,a7⟩:Cfg) (fun i=>caps.getD i 0) (l.drop k) k prev).map (·.2)=gopB (⟨a0,a1,a2,a3,a4,a5,a6,a7⟩:Cfg) l caps)∧Hid (A.length=k∧B.length=k)∧Hid (OwnG (w2.heap.size+1) wr r A s B)∧Hid (wr.heap[w2.heap.size]?=some (.cells #[.int .i64 prev.W,.int .i64 prev.H,.slice pa prev.pix.length pc] 73 (0,0)))∧Hid (Ints .i64 0 wr.heap.size wr (.slice pa prev.pix.length pc) prev.pix)∧Hid (Only [] w wr)∧Hid (wr.heap[w.heap.size]?=some (.cells #[.int .i64 a0,.int .i64 a1,.int .i64 a2,.int .i64 a3,.int .i64 a4,.int .i64 a5,.int .i64 a6,.int .i64 a7] 60 (0,0)))∧Hid (w2.heap.size+1≤wr.heap.size)) (fun i _ _ _ _ _ _ _ _=>l.length-(intOf i).toNat)
  case atStart=>exact ⟨0,frame0,[],[],none,0,by omega,rfl,HIn,lh ⟨HGA.out.symm,HGB.out.symm⟩,lh ⟨rfl,rfl⟩,lh (OwnG.nil _ _),HP3,lh (Ints.nil _ _ _ _),HQ3,HK3,lh (by have:=HZ3.out.1;omega)⟩
  case round =>
   obtain ⟨k,prev,A,B,pa,pc,hk,rfl,HI,HG,HL,HO,HR,HPp,HQ,HK,HZ⟩:=hrel
   obtain ⟨ra,rc,sa',sc',rfl,rfl⟩:=HO.out.slices
   rw [HL.out.1,HL.out.2] at HO ⊢
   by_cases hlt:k<l.length
   ·have hki:(k:Int)<(l.length:Int):=by omega
    have hk0:(0:Int)≤(k:Int):=by omega
    have hkc:(k:Int)<(caps.length:Int):=by have:=HLn.out.1;omega
    have hkcn:k<caps.length:=by omega
    obtain ⟨b,off,dv,rfl,-,-,hc0,hc1,hc2,hd⟩:=Hat.out k hlt
    have c0:=HQ.out.cell hc0 (by simp)
    have c1:=HQ.out.cell hc1 (by simp)
    have c2:=HQ.out.cell hc2 (by simp)
    obtain ⟨cb,coff,rfl,-,-⟩:=HCb.out k hkcn
    have HCk:=lh (HQ.out.cell (HCc.out cb coff rfl k hkcn) (by simp))
    have hI:=HI.out
    have hG:=HG.out
    rw [dropF hlt] at hI hG
    generalize l.getD k default=f at *
    obtain ⟨hv,hfit,hnext⟩:=hI.head
    simp only [gopL,List.map_cons] at hG
    (try simp only [] at hnext)
    generalize caps.getD k 0=most at *
    obtain ⟨sa,sc,rfl,-⟩:=hd.open
    have HFt0:Hid (∀ (W:World) (o:Only [] wr W),Calls Tryz.prog 60 #[.agg #[.int .i64 f.W,.int .i64 f.H,.slice sa f.pix.length sc],.agg #[.int .i64 prev.W,.int .i64 prev.H,.slice pa prev.pix.length pc],.bool (k == 0),.agg #[.int .i64 a0,.int .i64 a1,.int .i64 a2,.int .i64 a3,.int .i64 a4,.int .i64 a5,.int .i64 a6,.int .i64 a7],.int .i64 most] W (EncQ (fitC f prev (k == 0) (⟨a0,a1,a2,a3,a4,a5,a6,a7⟩:Cfg) most) (fitB f prev (k == 0) (⟨a0,a1,a2,a3,a4,a5,a6,a7⟩:Cfg) most) .nilIface W)):=lh (fun W o=>by
     have h:=fitq_any (src:=f) (prev:=prev) (k == 0) (⟨a0,a1,a2,a3,a4,a5,a6,a7⟩:Cfg) most (hd.quiet (HQ.out.q o)) (HPp.out.quiet o) (Nat.le_trans Hhh.out (HQ.out.q o).size) o.size
     rwa [hv] at h)
    have HFit:=lh hfit
    have HNx:=lh hnext
    have HG2:=lh hG
    obtain ⟨kb,hkb⟩:∃ z,z=(k == 0):=⟨_,rfl⟩
    rw [← hkb] at HFt0 HFit HNx HG2
    have qk:((k:Int) == 0)=kb:=by rw [hkb,Bool.eq_iff_iff,beq_iff_eq,beq_iff_eq];omega
    generalize fitC f prev kb (⟨a0,a1,a2,a3,a4,a5,a6,a7⟩:Cfg) most=C at *
    generalize fitB f prev kb (⟨a0,a1,a2,a3,a4,a5,a6,a7⟩:Cfg) most=B1 at *
    clear hI hG hv hfit hnext hkb hc0 hc1 hc2 hd
    go_upto_region 10 with (fail)
    have hq4:=Only.new wr (.cells #[.int .i64 f.W,.int .i64 f.H,.slice sa f.pix.length sc] 73)
    have HQ4:=lh hq4
    have HS4:=lh (heap_alloc_new wr (.cells #[.int .i64 f.W,.int .i64 f.H,.slice sa f.pix.length sc] 73))
    have HZ4:Hid ((wr.alloc (.cells #[.int .i64 f.W,.int .i64 f.H,.slice sa f.pix.length sc] 73)).heap.size=wr.heap.size+1):=lh (by simp)
    clear hq4 c0 c1 c2
    generalize hW4:World.alloc wr _=W4 at *
    clear hW4
    obtain ⟨SB,hSB⟩:∃ z,z=wr.heap.size:=⟨_,rfl⟩
    rw [← hSB] at HS4 ⊢
    have HSB:=lh hSB
    clear hSB
    have HFt:=lh (fun (W:World) (o:Only [] W4 W)=>HFt0.out W (HQ4.out.q o))
    have HSS:Hid (∀ wx:World,Only [] W4 wx→wx.heap[w.heap.size]?=some (.cells #[.int .i64 a0,.int .i64 a1,.int .i64 a2,.int .i64 a3,.int .i64 a4,.int .i64 a5,.int .i64 a6,.int .i64 a7] 60 (0,0))∧wx.heap[w2.heap.size]?=some (.cells #[.int .i64 prev.W,.int .i64 prev.H,.slice pa prev.pix.length pc] 73 (0,0))∧wx.heap[SB]?=some (.cells #[.int .i64 f.W,.int .i64 f.H,.slice sa f.pix.length sc] 73 (0,0))∧wx.cell? ⟨cb,coff+k,none⟩=some (.int .i64 most)):=lh (fun wx o=>⟨(HQ4.out.q o).row HK.out,(HQ4.out.q o).row HR.out,o.row HS4.out,(HQ4.out.q o).cell HCk.out (by simp)⟩)
    go_cut [15,16,17] (fun sC sE s17 wx=>∃ (bC:Nat) (bE:Nat) (l1:Nat) (h1:Nat) (d3:Option Addr) (n3:Nat) (f3:Option Addr) (m3:Nat),sC=.pointer (some ⟨bC,0,none⟩)∧sE=.pointer (some ⟨bE,0,none⟩)∧s17=.nilIface∧Hid (Only [] W4 wx)∧Hid (wx.heap[bC]?=some (.cells #[.int .i64 C.kind,.slice d3 C.data.length n3] 69 (0,0)))∧Hid (wx.heap[bE]?=some (.cells #[.int .i64 B1.W,.int .i64 B1.H,.slice f3 B1.pix.length m3] 73 (0,0)))∧Hid (W4.heap.size≤l1∧h1≤wx.heap.size)∧Hid (EncK l1 h1 wx (.slice d3 C.data.length n3) C.data (.slice f3 B1.pix.length m3) B1.pix)∧Hid (W4.heap.size≤bC∧(bC<l1∨h1≤bC))∧Hid (W4.heap.size≤bE∧(bE<l1∨h1≤bE)))
    case first =>
     have o:=lh (Only.refl [] W4)
     refine wp_region_held_drew (S:=(fun wz=>wz.heap[w.heap.size]?=some (.cells #[.int .i64 a0,.int .i64 a1,.int .i64 a2,.int .i64 a3,.int .i64 a4,.int .i64 a5,.int .i64 a6,.int .i64 a7] 60 (0,0))∧wz.heap[w2.heap.size]?=some (.cells #[.int .i64 prev.W,.int .i64 prev.H,.slice pa prev.pix.length pc] 73 (0,0))∧wz.heap[SB]?=some (.cells #[.int .i64 f.W,.int .i64 f.H,.slice sa f.pix.length sc] 73 (0,0))∧wz.cell? ⟨cb,coff+k,none⟩=some (.int .i64 most))) (by kernel_rfl) ?_ (fun hHeld=>?_)
     ·first | exact HSS.out _ (Only.refl _ _) | exact HSS.out _ (Only.refl _ _).drew
     refine tkw 0 33 ⟨rfl,qGEnct0⟩ ?_
     refine tkw 1 34 ⟨rfl,qGEnct0⟩ ?_
     refine tkw 2 35 ⟨rfl,qGEnct0⟩ ?_
     refine tkw 3 36 ⟨rfl,qGEnct0⟩ ?_
     refine tkw 4 37 ⟨rfl,qGEnct0⟩ ?_
     refine tkw 5 38 ⟨rfl,qGEnct0⟩ ?_
     refine tkw 6 39 ⟨rfl,qGEnct0⟩ ?_
     refine tkw 7 40 ⟨rfl,qGEnct0⟩ ?_
     refine tkw 8 41 ⟨rfl,qGEnct0⟩ ?_
     refine rdy (rdc 9 42 (fun K hK=>?_) (rdc 14 15 (fun K hK=>?_) (rdc 15 16 (fun K hK=>?_) .nil)))
     ·go_simp
      go_at_call 60
      refine (HFt.out _ (by first | exact o.out | exact o.out.drew)).mono ?_
      rintro e v' ⟨hq,d3,n3,f3,m3,rfl,hi9⟩
      obtain ⟨l1,hl1⟩:∃ z,z=W4.heap.size:=⟨_,rfl⟩
      obtain ⟨h1,hh1⟩:∃ z,z=v'.heap.size:=⟨_,rfl⟩
      have hKf:EncK l1 h1 v' (.slice d3 C.data.length n3) C.data (.slice f3 B1.pix.length m3) B1.pix:=by rw [hl1,hh1];exact hi9
      have hKl:W4.heap.size≤l1:=by omega
      have hKh:h1≤v'.heap.size:=by omega
      clear hi9 hl1 hh1
      have q:Only [] W4 v':=by first | exact hq | exact ((Only.refl _ _).drew).q hq
      have hVl:W4.heap.size≤W4.heap.size:=o.out.size
      have HK:=lh hKf
      have HKb:Hid (W4.heap.size≤l1∧h1≤v'.heap.size):=lh ⟨by omega,hKh⟩
      replace o:=lh (o.out.q q)
      clear hq q hKf hKl hKh hVl
      obtain ⟨v,rfl⟩:∃ z,z=v':=⟨_,rfl⟩
      refine hK.out _ _ ?_ (fun hHeld=>?_)
      ·exact qGEnc1
      clear hK K
      refine tkw 10 32 ⟨rfl,qGEnct0⟩ ?_
      refine tkw 11 43 ⟨rfl,qGEnct0⟩ ?_
      refine tkw 12 44 ⟨rfl,qGEnct0⟩ ?_
      refine tkw 13 45 ⟨rfl,qGEnct0⟩ ?_
      refine rdy (rdc 14 15 (fun K hK=>?_) (rdc 15 16 (fun K hK=>?_) .nil))
      ·go_simp
       generalize hW:World.alloc _ _=v'
       have q:Only [] v v':=by rw [← hW];first | exact Only.new _ _ | exact ((Only.refl _ _).drew).q (Only.new _ _)
       have HC:Hid (v'.heap[v.heap.size]?=some (.cells #[.int .i64 0,.slice none 0 0] 69 (0,0))):=lh (by rw [← hW];exact heap_alloc_new _ _)
       have hz:W4.heap.size≤v.heap.size:=o.out.size
       have HkC:Hid (W4.heap.size≤v.heap.size∧(v.heap.size<l1∨h1≤v.heap.size)):=lh ⟨hz,.inr HKb.out.2⟩
       replace HK:Hid (EncK l1 h1 v' (.slice d3 C.data.length n3) C.data (.slice f3 B1.pix.length m3) B1.pix):=lh (HK.out.only q (by simp))
       replace HKb:Hid (W4.heap.size≤l1∧h1≤v'.heap.size):=lh ⟨HKb.out.1,Nat.le_trans HKb.out.2 q.size⟩
       replace o:=lh (o.out.q q)
       clear hW q
       generalize hb:v.heap.size=bC at HC HkC ⊢
       have HzC:Hid (W4.heap.size≤bC):=lh (by rw [← hb];exact hz)
       clear hb hz
       obtain ⟨v,rfl⟩:∃ z,z=v':=⟨_,rfl⟩
       refine hK.out _ _ ?_ (fun hHeld=>?_)
       ·exact qGEnc1
       clear hK K
       exact qGEnc3
      ·go_simp
       generalize hW:World.alloc _ _=v'
       have q:Only [] v v':=by rw [← hW];first | exact Only.new _ _ | exact ((Only.refl _ _).drew).q (Only.new _ _)
       have HE:Hid (v'.heap[v.heap.size]?=some (.cells #[.int .i64 0,.int .i64 0,.slice none 0 0] 73 (0,0))):=lh (by rw [← hW];exact heap_alloc_new _ _)
       have hz:W4.heap.size≤v.heap.size:=o.out.size
       have HkE:Hid (W4.heap.size≤v.heap.size∧(v.heap.size<l1∨h1≤v.heap.size)):=lh ⟨hz,.inr HKb.out.2⟩
       replace HK:Hid (EncK l1 h1 v' (.slice d3 C.data.length n3) C.data (.slice f3 B1.pix.length m3) B1.pix):=lh (HK.out.only q (by simp))
       replace HKb:Hid (W4.heap.size≤l1∧h1≤v'.heap.size):=lh ⟨HKb.out.1,Nat.le_trans HKb.out.2 q.size⟩
       replace o:=lh (o.out.q q)
       clear hW q
       generalize hb:v.heap.size=bE at HE HkE ⊢
       have HzE:Hid (W4.heap.size≤bE):=lh (by rw [← hb];exact hz)
       clear hb hz
       obtain ⟨v,rfl⟩:∃ z,z=v':=⟨_,rfl⟩
       refine hK.out _ _ ?_ (fun hHeld=>?_)
       ·exact qGEnc1
       clear hK K
       exact qGEnc4
     ·go_simp
      generalize hW:World.alloc _ _=v'
      have q:Only [] W4 v':=by rw [← hW];first | exact Only.new _ _ | exact ((Only.refl _ _).drew).q (Only.new _ _)
      have HC:Hid (v'.heap[W4.heap.size]?=some (.cells #[.int .i64 0,.slice none 0 0] 69 (0,0))):=lh (by rw [← hW];exact heap_alloc_new _ _)
      have hz:W4.heap.size≤W4.heap.size:=o.out.size
      replace o:=lh (o.out.q q)
      clear hW q
      generalize hb:W4.heap.size=bC at HC ⊢
      have HzC:Hid (W4.heap.size≤bC):=lh (by rw [← hb];exact hz)
      clear hb hz
      obtain ⟨v,rfl⟩:∃ z,z=v':=⟨_,rfl⟩
      refine hK.out _ _ ?_ (fun hHeld=>?_)
      ·exact qGEnc1
      clear hK K
      refine rdy (rdc 9 42 (fun K hK=>?_) (rdc 15 16 (fun K hK=>?_) .nil))
      ·go_simp
       go_at_call 60
       refine (HFt.out _ (by first | exact o.out | exact o.out.drew)).mono ?_
       rintro e v' ⟨hq,d3,n3,f3,m3,rfl,hi9⟩
       obtain ⟨l1,hl1⟩:∃ z,z=v.heap.size:=⟨_,rfl⟩
       obtain ⟨h1,hh1⟩:∃ z,z=v'.heap.size:=⟨_,rfl⟩
       have hKf:EncK l1 h1 v' (.slice d3 C.data.length n3) C.data (.slice f3 B1.pix.length m3) B1.pix:=by rw [hl1,hh1];exact hi9
       have hKl:v.heap.size≤l1:=by omega
       have hKh:h1≤v'.heap.size:=by omega
       clear hi9 hl1 hh1
       have q:Only [] v v':=by first | exact hq | exact ((Only.refl _ _).drew).q hq
       have hVl:W4.heap.size≤v.heap.size:=o.out.size
       have HkC:Hid (W4.heap.size≤bC∧(bC<l1∨h1≤bC)):=lh (by have:=(Array.getElem?_eq_some_iff.1 HC.out).1;have:=HzC.out;exact ⟨by omega,.inl (by omega)⟩)
       replace HC:=lh (q.row HC.out)
       have HK:=lh hKf
       have HKb:Hid (W4.heap.size≤l1∧h1≤v'.heap.size):=lh ⟨by omega,hKh⟩
       replace o:=lh (o.out.q q)
       clear hq q hKf hKl hKh hVl
       obtain ⟨v,rfl⟩:∃ z,z=v':=⟨_,rfl⟩
       refine hK.out _ _ ?_ (fun hHeld=>?_)
       ·exact qGEnc1
       clear hK K
       refine tkw 10 32 ⟨rfl,qGEnct0⟩ ?_
       refine tkw 11 43 ⟨rfl,qGEnct0⟩ ?_
       refine tkw 12 44 ⟨rfl,qGEnct0⟩ ?_
       refine tkw 13 45 ⟨rfl,qGEnct0⟩ ?_
       exact qGEnc3
      ·go_simp
       generalize hW:World.alloc _ _=v'
       have q:Only [] v v':=by rw [← hW];first | exact Only.new _ _ | exact ((Only.refl _ _).drew).q (Only.new _ _)
       have HE:Hid (v'.heap[v.heap.size]?=some (.cells #[.int .i64 0,.int .i64 0,.slice none 0 0] 73 (0,0))):=lh (by rw [← hW];exact heap_alloc_new _ _)
       have hz:W4.heap.size≤v.heap.size:=o.out.size
       have HnCE:Hid (bC≠v.heap.size):=lh (by have:=(Array.getElem?_eq_some_iff.1 HC.out).1;omega)
       replace HC:=lh (q.row HC.out)
       replace o:=lh (o.out.q q)
       clear hW q
       generalize hb:v.heap.size=bE at HE HnCE ⊢
       have HzE:Hid (W4.heap.size≤bE):=lh (by rw [← hb];exact hz)
       exact qGEnc2
     ·go_simp
      generalize hW:World.alloc _ _=v'
      have q:Only [] W4 v':=by rw [← hW];first | exact Only.new _ _ | exact ((Only.refl _ _).drew).q (Only.new _ _)
      have HE:Hid (v'.heap[W4.heap.size]?=some (.cells #[.int .i64 0,.int .i64 0,.slice none 0 0] 73 (0,0))):=lh (by rw [← hW];exact heap_alloc_new _ _)
      have hz:W4.heap.size≤W4.heap.size:=o.out.size
      replace o:=lh (o.out.q q)
      clear hW q
      generalize hb:W4.heap.size=bE at HE ⊢
      have HzE:Hid (W4.heap.size≤bE):=lh (by rw [← hb];exact hz)
      clear hb hz
      obtain ⟨v,rfl⟩:∃ z,z=v':=⟨_,rfl⟩
      refine hK.out _ _ ?_ (fun hHeld=>?_)
      ·exact qGEnc1
      clear hK K
      refine rdy (rdc 9 42 (fun K hK=>?_) (rdc 14 15 (fun K hK=>?_) .nil))
      ·go_simp
       go_at_call 60
       refine (HFt.out _ (by first | exact o.out | exact o.out.drew)).mono ?_
       rintro e v' ⟨hq,d3,n3,f3,m3,rfl,hi9⟩
       obtain ⟨l1,hl1⟩:∃ z,z=v.heap.size:=⟨_,rfl⟩
       obtain ⟨h1,hh1⟩:∃ z,z=v'.heap.size:=⟨_,rfl⟩
       have hKf:EncK l1 h1 v' (.slice d3 C.data.length n3) C.data (.slice f3 B1.pix.length m3) B1.pix:=by rw [hl1,hh1];exact hi9
       have hKl:v.heap.size≤l1:=by omega
       have hKh:h1≤v'.heap.size:=by omega
       clear hi9 hl1 hh1
       have q:Only [] v v':=by first | exact hq | exact ((Only.refl _ _).drew).q hq
       have hVl:W4.heap.size≤v.heap.size:=o.out.size
       have HkE:Hid (W4.heap.size≤bE∧(bE<l1∨h1≤bE)):=lh (by have:=(Array.getElem?_eq_some_iff.1 HE.out).1;have:=HzE.out;exact ⟨by omega,.inl (by omega)⟩)
       replace HE:=lh (q.row HE.out)
       have HK:=lh hKf
       have HKb:Hid (W4.heap.size≤l1∧h1≤v'.heap.size):=lh ⟨by omega,hKh⟩
       replace o:=lh (o.out.q q)
       clear hq q hKf hKl hKh hVl
       obtain ⟨v,rfl⟩:∃ z,z=v':=⟨_,rfl⟩
       refine hK.out _ _ ?_ (fun hHeld=>?_)
       ·exact qGEnc1
       clear hK K
       refine tkw 10 32 ⟨rfl,qGEnct0⟩ ?_
       refine tkw 11 43 ⟨rfl,qGEnct0⟩ ?_
       refine tkw 12 44 ⟨rfl,qGEnct0⟩ ?_
       refine tkw 13 45 ⟨rfl,qGEnct0⟩ ?_
       exact qGEnc4
      ·go_simp
       generalize hW:World.alloc _ _=v'
       have q:Only [] v v':=by rw [← hW];first | exact Only.new _ _ | exact ((Only.refl _ _).drew).q (Only.new _ _)
       have HC:Hid (v'.heap[v.heap.size]?=some (.cells #[.int .i64 0,.slice none 0 0] 69 (0,0))):=lh (by rw [← hW];exact heap_alloc_new _ _)
       have hz:W4.heap.size≤v.heap.size:=o.out.size
       have HnCE:Hid (v.heap.size≠bE):=lh (by have:=(Array.getElem?_eq_some_iff.1 HE.out).1;omega)
       replace HE:=lh (q.row HE.out)
       replace o:=lh (o.out.q q)
       clear hW q
       generalize hb:v.heap.size=bC at HC HnCE ⊢
       have HzC:Hid (W4.heap.size≤bC):=lh (by rw [← hb];exact hz)
       exact qGEnc2
    case rest =>
     obtain ⟨bC,bE,l1,h1,d3,n3,f3,m3,rfl,rfl,rfl,HOd,HVc,HVf,HKb,HKG,-,HkE⟩:=hcut
     obtain ⟨W5,hW5⟩:∃ z,z=wc:=⟨_,rfl⟩
     subst hW5
     clear HSS HFt HFt0 HCk HS4
     have HQ5:=lh (HQ4.out.q HOd.out)
     obtain ⟨bd,hbd,hbd2⟩:=HKG.out.1.tight
     obtain ⟨bf,hbf,hbf2⟩:=HKG.out.2.tight
     have hne:B1.pix≠[]:=fun e=>by
      have h1:=HFit.out.ok.len
      have h2:=Int.mul_le_mul HFit.out.ok.w0 HFit.out.ok.h0 (by decide) (by have:=HFit.out.ok.w0;omega)
      rw [e] at h1
      simp only [List.length_nil] at h1
      omega
     have hbf3:=hbf2 hne
     have hin:=fit_kind HFit.out
     have hnA:∀ x,(Value.slice ra k rc).ownBlock=some x→w2.heap.size+1≤x∧x<wr.heap.size:=HO.out.left.at
     have hnB:∀ x,(Value.slice sa' k sc').ownBlock=some x→w2.heap.size+1≤x∧x<wr.heap.size:=HO.out.right.at
     have HN:=lh (And.intro hnA hnB)
     have hz4:=HZ4.out
     have hzz:=HZ.out
     have hkb5:=HKb.out
     have HfD:Hid (C.data=[]∨Free (w2.heap.size+1) W5 (.slice ra k rc) (.slice sa' k sc') bd):=lh (by
      by_cases e:C.data=[]
      ·exact .inl e
      ·have:=hbd2 e
       exact .inr ⟨by omega,by omega,fun e=>by have:=(hnA _ e).2;omega,fun e=>by have:=(hnB _ e).2;omega⟩)
     have HfF:Hid (Free (w2.heap.size+1) W5 (.slice ra k rc) (.slice sa' k sc') bf):=lh ⟨by omega,by omega,fun e=>by have:=(hnA _ e).2;omega,fun e=>by have:=(hnB _ e).2;omega⟩
     have HD5:=lh hbd
     have HF5:=lh hbf
     have Hkd:Hid (InK .i64 C.kind):=lh ⟨by omega,by omega⟩
     have HO5:=lh (HO.out.quiet HQ5.out)
     have HbE:Hid (W4.heap.size≤bE):=lh HkE.out.1
     have HZ5:Hid (w2.heap.size+1≤W5.heap.size∧W4.heap.size≤W5.heap.size):=lh ⟨by omega,by omega⟩
     have hnew:=Only.new W5 (.cells #[.int .i64 C.kind,.slice d3 C.data.length n3] 69)
     have HNw:=lh hnew
     have HCs:Hid (Cells 2 W5.heap.size (W5.heap.size+1) (W5.alloc (.cells #[.int .i64 C.kind,.slice d3 C.data.length n3] 69)) (.slice (some ⟨W5.heap.size,0,none⟩) 1 1) 1 [.int .i64 C.kind,.slice d3 C.data.length n3]):=lh (cells_newG rfl rfl (by simp [maxLen]) (by simp))
     have HO6:=lh (HO5.out.quiet hnew)
     have HD6:=lh (hbd.quiet hnew)
     have hz6:W5.heap.size≤(W5.alloc (.cells #[.int .i64 C.kind,.slice d3 C.data.length n3] 69)).heap.size:=hnew.size
     have HfD6:Hid (C.data=[]∨Free (w2.heap.size+1) (W5.alloc (.cells #[.int .i64 C.kind,.slice d3 C.data.length n3] 69)) (.slice ra k rc) (.slice sa' k sc') bd):=lh (HfD.out.imp id fun h=>⟨h.1,by have:=h.2.1;omega,h.2.2⟩)
     have Hby1:Hid ((A.length+1)*32≤140737488355328):=lh (by have:=HL.out.1;have:=HLn.out.2;omega)
     have Hby2:Hid ((B.length+1)*40≤140737488355328):=lh (by have:=HL.out.2;have:=HLn.out.2;omega)
     have Hba6:Hid (w2.heap.size+1≤(W5.alloc (.cells #[.int .i64 C.kind,.slice d3 C.data.length n3] 69)).heap.size):=lh (by have:=HZ5.out.1;omega)
     have HLA:Hid ((A ++ [C]).length=k+1):=lh (by rw [List.length_append,HL.out.1];rfl)
     have HLB:Hid ((B ++ [B1]).length=k+1):=lh (by rw [List.length_append,HL.out.2];rfl)
     obtain ⟨x0,x1,-⟩:=row2 HVc.out
     clear hbd hbd2 hbf hbf2 hne hbf3 hin hnA hnB hz4 hzz hkb5 hnew hz6
     go_upto_region 14 with (first
      | (at_builtin;refine wpList_append_gA rfl (.tmp 49) (.tmp 51) _ rfl ECd HO6.out rfl HCs.out Hkd.out HD6.out HfD6.out rfl Hby1.out Hba6.out (fun v1 w7 hown1 ho1=>?_);obtain ⟨y1,c1,-,-,hy1,-⟩:=hown1.slices;subst hy1;rw [HLA.out] at hown1 ho1 ⊢;have HO7:=lh hown1;have HA7:=lh ho1;clear hown1 ho1)
      | fail)
     have hnA:=HN.out.1
     have hnB:=HN.out.2
     have hq7:=HNw.out.trans HA7.out.only (U:=(Value.slice ra k rc).ownBlock.toList) (by simp) (fun g hg _=>hg)
     have hok:∀ x,x∈(Value.slice ra k rc).ownBlock.toList→w2.heap.size+1≤x∧x<wr.heap.size:=fun x hx=>hnA x (by simpa using hx)
     have hzz:=HZ5.out.2
     have hz4:=HZ4.out
     have HVf7:=lh (hq7.rowAt HVf.out (fun hm=>by have:=(hok _ hm).2;have:=HbE.out;omega))
     have HF7:=lh (HF5.out.only hq7 (fun x hx=>by have:=(hok _ hx).2;have h:=HfF.out;have h2:x≠bf:=fun e=>h.2.2.1 (by rw [← e];simpa using hx);omega))
     have HR7:=lh (hq7.rowAt (HQ5.out.row HR.out) (fun hm=>by have:=(hok _ hm).1;omega))
     have HK7:=lh (hq7.rowAt (HQ5.out.row HK.out) (fun hm=>by have:=(hok _ hm).1;have:=HZ3.out.2;omega))
     have HQ7:Hid (Only [] w w7):=lh ((HQ.out.q HQ5.out).trans hq7 (by simp) (fun g hg hlt=>by have:=(hok _ hg).1;have:=HZ3.out.2;omega))
     have hz7:=hq7.size
     have HY1:Hid (∀ x,(Value.slice y1 (k+1) c1).ownBlock=some x→w2.heap.size+1≤x∧x<w7.heap.size):=lh HO7.out.left.at
     have HfF7:Hid (Free (w2.heap.size+1) w7 (.slice y1 (k+1) c1) (.slice sa' k sc') bf):=lh ⟨HfF.out.1,by have:=HfF.out.2.1;omega,fun e=>by
      rcases HA7.out.at_ with e' | e'
      ·exact HfF.out.2.2.1 (e'.symm.trans e)
      ·have:=e' _ e;have:=HfF.out.2.1;have:=HNw.out.size;omega,HfF.out.2.2.2⟩
     have hnew:=Only.new w7 (.cells #[.int .i64 B1.W,.int .i64 B1.H,.slice f3 B1.pix.length m3] 73)
     have HNw7:=lh hnew
     have HZ7:Hid (w2.heap.size+1≤w7.heap.size∧W5.heap.size≤w7.heap.size):=lh ⟨by have:=HZ5.out.1;omega,hz7⟩
     have HCs7:Hid (Cells 3 w7.heap.size (w7.heap.size+1) (w7.alloc (.cells #[.int .i64 B1.W,.int .i64 B1.H,.slice f3 B1.pix.length m3] 73)) (.slice (some ⟨w7.heap.size,0,none⟩) 1 1) 1 [.int .i64 B1.W,.int .i64 B1.H,.slice f3 B1.pix.length m3]):=lh (cells_newG rfl rfl (by simp [maxLen]) (by simp))
     have HO8:=lh (HO7.out.quiet hnew)
     have HF8:=lh (HF7.out.quiet hnew)
     have HfF8:Hid (Free (w2.heap.size+1) (w7.alloc (.cells #[.int .i64 B1.W,.int .i64 B1.H,.slice f3 B1.pix.length m3] 73)) (.slice y1 (k+1) c1) (.slice sa' k sc') bf):=lh ⟨HfF7.out.1,by have:=HfF7.out.2.1;have:=hnew.size;omega,HfF7.out.2.2⟩
     have Hba8:Hid (w2.heap.size+1≤(w7.alloc (.cells #[.int .i64 B1.W,.int .i64 B1.H,.slice f3 B1.pix.length m3] 73)).heap.size):=lh (by have:=HZ7.out.1;have:=hnew.size;omega)
     obtain ⟨u0,u1,u2⟩:=frame_cells HVf7.out
     clear hnA hnB hq7 hok hzz hz4 hz7 hnew x0 x1
     go_upto_region 15 with (first
      | (at_builtin;refine wpList_append_gB rfl (.tmp 53) (.tmp 55) _ rfl EFr HO8.out rfl HCs7.out HF8.out HfF8.out rfl Hby2.out Hba8.out (fun v2 w9 hown2 ho2=>?_);obtain ⟨-,-,z2,g2,-,hz2⟩:=hown2.slices;subst hz2;rw [HLB.out] at hown2 ho2 ⊢;have HO9:=lh hown2;have HA9:=lh ho2;clear hown2 ho2)
      | fail)
     have hnB:=HN.out.2
     have hq9:=HNw7.out.trans HA9.out.only (U:=(Value.slice sa' k sc').ownBlock.toList) (by simp) (fun g hg _=>hg)
     have hok:∀ x,x∈(Value.slice sa' k sc').ownBlock.toList→w2.heap.size+1≤x∧x<wr.heap.size:=fun x hx=>hnB x (by simpa using hx)
     have hz4:=HZ4.out
     have HVf9:=lh (hq9.rowAt HVf7.out (fun hm=>by have:=(hok _ hm).2;have:=HbE.out;omega))
     have HF9:=lh (HF7.out.only hq9 (fun x hx=>by have h:=HfF7.out;have h2:x≠bf:=fun e=>h.2.2.2 (by rw [← e];simpa using hx);omega))
     have HR9:=lh (hq9.rowAt HR7.out (fun hm=>by have:=(hok _ hm).1;omega))
     have HK9:=lh (hq9.rowAt HK7.out (fun hm=>by have:=(hok _ hm).1;have:=HZ3.out.2;omega))
     have HQ9:Hid (Only [] w w9):=lh (HQ7.out.trans hq9 (by simp) (fun g hg hlt=>by have:=(hok _ hg).1;have:=HZ3.out.2;omega))
     have HZ9:Hid (w2.heap.size+1≤w9.heap.size∧bf<w9.heap.size):=lh ⟨by have:=HZ7.out.1;have:=hq9.size;omega,by have:=HfF7.out.2.1;have:=hq9.size;omega⟩
     obtain ⟨u0,u1,u2⟩:=frame_cells HVf9.out
     have fz0:=frozen_of_row _ _ 0 _ _ HR9.out
     have fz1:=frozen_of_row _ _ 1 _ _ HR9.out
     have fz2:=frozen_of_row _ _ 2 _ _ HR9.out
     obtain ⟨t0,t1,t2⟩:=frame_cells HR9.out
     obtain ⟨hrow,hon⟩:=row3_set (x:=.int .i64 B1.W) (y:=.int .i64 B1.H) (z:=.slice f3 B1.pix.length m3) HR9.out
     have HRow:=lh hrow
     have HOn:=lh hon
     clear hnB hq9 hok hz4 hrow hon
     go_wp2_with fail
     have hsz:=HOn.out.size
     refine ⟨⟨k+1,B1,A ++ [C],B ++ [B1],f3,m3,by omega,by go_num,HNx,lh ?_,lh ⟨HLA.out,HLB.out⟩,lh (HO9.out.only HOn.out (by simp)),HRow,lh ?_,lh (HQ9.out.trans HOn.out (by simp) (fun x hx hl=>by rw [mSg] at hx;have:=HZ3.out.2;omega)),lh (HOn.out.rowAt HK9.out (by rw [mSg];have:=HZ3.out.2;omega)),lh (by have:=HZ9.out.1;omega)⟩,by simp [intOf];omega⟩
     ·rw [List.append_assoc,List.append_assoc];exact HG2.out
     ·exact (HF9.out.only HOn.out (fun x hx=>by rw [mSg] at hx;have:=HfF7.out.1;left;omega)).mono (Nat.zero_le _) (by have:=HZ9.out.2;omega)
   ·obtain rfl:k=l.length:=by omega
    have hx:¬ (l.length:Int)<(l.length:Int):=by omega
    have hG:=HG.out
    rw [List.drop_length] at hG
    simp only [gopL,List.map_nil,List.append_nil] at hG
    have HGo:=lh hG
    have hz3:=HZ3.out.2
    have HLt:Hid (w.heap.size≤w2.heap.size+1):=lh (by omega)
    clear hG hz3
    go_wp2_with fail
    refine bodyPost_ret (v:=.tuple #[.slice ra l.length rc,.slice sa' l.length sc',.nilIface]) (by simp [results,Tryz.results28,go_sem]) rfl (HPost.out _ _ ⟨HQ.out,ra,rc,sa',sc',rfl,?_,?_⟩)
    ·rw [← HGo.out.1]
     have h:=HO.out.left.codeds.mono HLt.out (Nat.le_refl _)
     exact h
    ·rw [← HGo.out.2]
     have h:=HO.out.right.frames.mono HLt.out (Nat.le_refl _)
     exact h
end
end Go.Proofs.YtkigikallkpbcaaGreatDoor
