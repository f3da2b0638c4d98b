/- Joined texts: FrAt, GCk, GChk. Conditions: each part names its own. -/
import Derived.Test.YtkigikallkpbcaaGreatDoorT1
import Derived.Test.YtkigikallkpbcaaGreatDoorK2
import Derived.Test.YtkigikallkpbcaaGreatDoorC1
import Derived.Test.YtkigikallkpbcaaGreatDoorW5
import Derived.Test.YtkigikallkpbcaaGreatDoorC4
import Derived.Deep.DeepCutAuto
namespace Go.Proofs.YtkigikallkpbcaaGreatDoor
open Go.RowKit
set_option linter.unusedVariables false
set_option linter.unusedSimpArgs false
set_option maxRecDepth 100000
set_option maxHeartbeats 16000000
instance:Inhabited FrameD:=⟨frame0⟩
def frEq (A B:FrameD):Bool:=decide (A.W=B.W) && decide (A.H=B.H) && eqB A.pix B.pix
/-- frames in memory -/
def FramesAt (lo hi:Nat) (w:World) (v:Value) (l:List FrameD):Prop :=
 ∃ f,Rows 3 lo hi w v l.length f∧∀ i,i<l.length→f i 0=.int .i64 (l.getD i default).W∧f i 1=.int .i64 (l.getD i default).H∧Ints .i64 lo hi w (f i 2) (l.getD i default).pix
theorem FramesAt.only {lo hi:Nat} {w w':World} {v:Value} {S:List Nat} {l:List FrameD} (h:FramesAt lo hi w v l) (o:Only S w w') (hS:∀ g∈S,g<lo∨hi≤g):FramesAt lo hi w' v l:=by
 obtain ⟨f,h1,h2⟩:=h
 exact ⟨f,h1.only o hS,fun i hi=>⟨(h2 i hi).1,(h2 i hi).2.1,(h2 i hi).2.2.only o hS⟩⟩
theorem FramesAt.quiet {lo hi:Nat} {w w':World} {v:Value} {l:List FrameD} (h:FramesAt lo hi w v l) (o:Only [] w w'):FramesAt lo hi w' v l:=h.only o (by simp)
theorem FramesAt.mono {lo hi lo' hi':Nat} {w:World} {v:Value} {l:List FrameD} (h:FramesAt lo hi w v l) (hl:lo'≤lo) (hh:hi≤hi'):FramesAt lo' hi' w v l:=by
 obtain ⟨f,h1,h2⟩:=h
 exact ⟨f,h1.mono hl hh,fun i hi=>⟨(h2 i hi).1,(h2 i hi).2.1,(h2 i hi).2.2.mono hl hh⟩⟩
theorem FramesAt.open {lo hi:Nat} {w:World} {v:Value} {l:List FrameD} (h:FramesAt lo hi w v l):∃ (a:Option Addr) (cap:Nat),v=.slice a l.length cap∧l.length≤cap∧cap≤maxLen ∧
  ∀ i,i<l.length→∃ b off dv,a=some ⟨b,off,none⟩∧lo≤b∧b<hi ∧
   w.cell? ⟨b,off+i*3,none⟩=some (.int .i64 (l.getD i default).W)∧w.cell? ⟨b,off+i*3+1,none⟩=some (.int .i64 (l.getD i default).H)∧w.cell? ⟨b,off+i*3+2,none⟩=some dv∧Ints .i64 lo hi w dv (l.getD i default).pix:=by
 obtain ⟨f,h1,h2⟩:=h
 obtain ⟨a,cap,rfl,x,y,hc⟩:=h1.open
 refine ⟨a,cap,rfl,x,y,fun i hi=>?_⟩
 obtain ⟨b,off,e,p,q,hj⟩:=hc i hi
 obtain ⟨e0,e1,e2⟩:=h2 i hi
 exact ⟨b,off,f i 2,e,p,q,by rw [← e0];exact hj 0 (by omega),by rw [← e1];exact hj 1 (by omega),hj 2 (by omega),e2⟩
section
theorem kframe_any {lo hi lo' hi':Nat} {pv pu:Value} {w:World} {A B:FrameD} (h:Ints .i64 lo hi w pv A.pix) (g:Ints .i64 lo' hi' w pu B.pix) :
  Calls Tryz.prog 37 #[.agg #[.int .i64 A.W,.int .i64 A.H,pv],.agg #[.int .i64 B.W,.int .i64 B.H,pu]] w fun e w'=>e=.returned (.bool (frEq A B))∧Only [] w w':=by
 obtain ⟨a,cap,rfl,-⟩:=h.open
 obtain ⟨b,bcap,rfl,-⟩:=g.open
 have hq1:=Only.new w (.cells #[.int .i64 A.W,.int .i64 A.H,.slice a A.pix.length cap] 73)
 have hq2:=hq1.q (Only.new _ (.cells #[.int .i64 B.W,.int .i64 B.H,.slice b B.pix.length bcap] 73))
 have HI:=lh (intsEq_any (h.quiet hq2) (g.quiet hq2))
 have HQ:=lh hq2
 have HR:Hid (frEq A B=(decide (A.W=B.W) && decide (A.H=B.H) && eqB A.pix B.pix)):=lh rfl
 clear h g hq1 hq2
 generalize frEq A B=r at *
 generalize eqB A.pix B.pix=bb at *
 generalize A.W=W1 at *
 generalize A.H=H1 at *
 generalize B.W=W2 at *
 generalize B.H=H2 at *
 by_cases hW:W1=W2
 ·by_cases hH:H1=H2
  ·subst hW;subst hH
   go_enter Tryz.func37,Tryz.ntmps37
   go_wp2_with fail
   go_at_call 20
   refine HI.out.mono ?_
   rintro e w2 ⟨rfl,hq3⟩
   have HQ3:=lh hq3
   clear hq3
   go_wp2_with fail
   go_ret
   exact ⟨ret_bool (by rw [HR.out];simp),HQ.out.q HQ3.out⟩
  ·have hb:(H1 == H2)=false:=by rw [beq_eq_false_iff_ne];exact hH
   subst hW
   have Hn:=lh hH
   clear hH
   go_enter Tryz.func37,Tryz.ntmps37
   go_wp2_with fail
   go_ret
   exact ⟨ret_bool (by rw [HR.out];simp [Hn.out]),HQ.out⟩
 ·have hb:(W1 == W2)=false:=by rw [beq_eq_false_iff_ne];exact hW
  have Hn:=lh hW
  clear hW
  go_enter Tryz.func37,Tryz.ntmps37
  go_wp2_with fail
  go_ret
  exact ⟨ret_bool (by rw [HR.out];simp [Hn.out]),HQ.out⟩
end
/-- what is wrong with a group -/
def gcheckE (c:Cfg) (l:List FrameD) (caps:List Int):Option Int :=
 if mayB c=false then some 11
 else if l.length=0∨16<l.length∨l.any (fun f=>!mayF f)=true then some 2
 else if l.any (fun f=>!(decide (f.W=(l.getD 0 default).W) && decide (f.H=(l.getD 0 default).H)))=true∨caps.length≠l.length then some 14
 else if caps.any (fun n=>decide (n<8))=true then some 3
 else none
theorem gcheck_none {c:Cfg} {l:List FrameD} {caps:List Int} (h:gcheckE c l caps=none):mayB c=true∧0<l.length∧l.length≤16 ∧
  (∀ f∈l,FrOk f∧f.W=(l.getD 0 default).W∧f.H=(l.getD 0 default).H)∧caps.length=l.length∧∀ i,i<l.length→8≤caps.getD i 0:=by
 unfold gcheckE at h
 split at h
 ·cases h
 rename_i h0
 split at h
 ·cases h
 rename_i h1
 split at h
 ·cases h
 rename_i h2
 split at h
 ·cases h
 rename_i h3
 have a1:¬ l.any (fun f=>!mayF f)=true:=fun e=>h1 (.inr (.inr e))
 have a2:¬ l.any (fun f=>!(decide (f.W=(l.getD 0 default).W) && decide (f.H=(l.getD 0 default).H)))=true:=fun e=>h2 (.inl e)
 have a3:caps.length=l.length:=Classical.byContradiction fun e=>h2 (.inr e)
 have a4:0<l.length:=Nat.pos_of_ne_zero fun e=>h1 (.inl e)
 have a5:l.length≤16:=Nat.le_of_not_lt fun e=>h1 (.inr (.inl e))
 refine ⟨by simpa using h0,a4,a5,fun f hf=>?_,a3,fun i hi=>?_⟩
 ·refine ⟨mayF_iff.1 ?_,?_⟩
  ·cases hm:mayF f with
   | true=>rfl
   | false=>exact absurd (List.any_eq_true.2 ⟨f,hf,by rw [hm];rfl⟩) a1
  ·refine Classical.byContradiction fun e=>a2 (List.any_eq_true.2 ⟨f,hf,?_⟩)
   simp only [Bool.not_eq_true',Bool.and_eq_false_iff,decide_eq_false_iff_not]
   exact (Decidable.not_and_iff_or_not.1 e)
 ·refine Classical.byContradiction fun e=>h3 (List.any_eq_true.2 ⟨caps.getD i 0,?_,decide_eq_true (by omega)⟩)
  rw [List.getD_eq_getElem?_getD,List.getElem?_eq_getElem (by omega)]
  exact List.getElem_mem _
theorem row1_cell {w:World} {g:Nat} {v:Value} {t:TypeId} (h:w.heap[g]?=some (.cells #[v] t (0,0))):w.cell? ⟨g,0,none⟩=some v:=by
 rw [cell_of_row _ _ _ _ _ _ h];rfl
theorem gcfg_cells {w:World} {g:Nat} {v0 v1 v2 v3 v4 v5 v6 v7:Value} {t:TypeId} (h:w.heap[g]?=some (.cells #[v0,v1,v2,v3,v4,v5,v6,v7] t (0,0))) :
  w.cell? ⟨g,0,none⟩=some v0∧w.cell? ⟨g,1,none⟩=some v1∧w.cell? ⟨g,2,none⟩=some v2∧w.cell? ⟨g,3,none⟩=some v3∧w.cell? ⟨g,4,none⟩=some v4∧w.cell? ⟨g,5,none⟩=some v5∧w.cell? ⟨g,6,none⟩=some v6∧w.cell? ⟨g,7,none⟩=some v7:=by
 refine ⟨?_,?_,?_,?_,?_,?_,?_,?_⟩ <;> (rw [cell_of_row _ _ _ _ _ _ h];rfl)
section
theorem anyF_drop {f:FrameD→Bool} {l:List FrameD} {k:Nat} (h:k<l.length):(l.drop k).any f=(f (l.getD k default) || (l.drop (k+1)).any f):=by
 rw [List.drop_eq_getElem_cons h,List.any_cons,List.getD_eq_getElem?_getD,List.getElem?_eq_getElem h];rfl
/-- a frame that may not be -/
def nmayB (f:FrameD):Bool:=!mayF f
/-- a frame of other sides -/
def nsideB (W H:Int) (f:FrameD):Bool:=!(decide (f.W=W) && decide (f.H=H))
theorem chk1_any {lo hi:Nat} {pv:Value} {f:FrameD} {w:World} (h:Ints .i64 lo hi w pv f.pix) :
  Calls Tryz.prog 78 #[.agg #[.int .i64 f.W,.int .i64 f.H,pv]] w fun e w'=>e=.returned (.bool (nmayB f))∧Only [] w w':=by
 obtain ⟨pa,pcap,rfl,-⟩:=h.open
 have hq:=Only.new w (.cells #[.int .i64 f.W,.int .i64 f.H,.slice pa f.pix.length pcap] 73)
 have HM:=lh (pmay_any f.W f.H (h.quiet hq))
 have HQ:=lh hq
 have Hb:Hid (nmayB f=!mayF f):=lh rfl
 rw [show (⟨f.W,f.H,f.pix⟩:FrameD)=f from rfl] at HM
 clear h hq
 generalize mayF f=B at *
 generalize f.pix.length=n at *
 generalize f.W=fW at *
 generalize f.H=fH at *
 go_enter Tryz.func78,Tryz.ntmps78
 go_wp2_with fail
 go_at_call 79
 refine HM.out.mono ?_
 rintro e w1 ⟨rfl,hq1⟩
 go_wp2_with fail
 go_ret
 exact ⟨ret_bool (by rw [Hb.out]),HQ.out.q hq1⟩
theorem qGChk5 {p:Prop} (h:p:=by
 refine tk 15 19 ?_
 refine tk 16 3 ?_
 refine wpAnyH_done (by kernel_rfl) ?_ _
 go_wp2_with fail
 go_ret
 exact ⟨E0.out _ (by rw [Hz.out]),by first | exact HQ.out | exact HQ.out.drew⟩):p:=h
theorem qGChk0 {p:Prop} (h:p:=by
 refine tk 0 4 ?_
 refine tk 1 5 ?_
 refine tk 2 6 ?_
 refine tk 3 7 ?_
 refine tk 4 8 ?_
 refine tk 5 9 ?_
 refine tk 6 10 ?_
 refine tk 7 11 ?_
 refine tk 8 12 ?_
 refine tk 9 13 ?_
 refine tk 10 14 ?_
 refine tk 11 15 ?_
 refine tk 12 16 ?_
 refine tk 13 17 ?_
 refine tk 14 18 ?_
 exact qGChk5):p:=h
theorem chk2_any {pv:Value} {f:FrameD} {G b off n cap:Nat} {W H:Int} {w:World} (hG:w.cell? ⟨G,0,none⟩=some (.slice (some ⟨b,off,none⟩) n cap)) (hn:0<n) (h0:w.cell? ⟨b,off,none⟩=some (.int .i64 W)) (h1:w.cell? ⟨b,off+1,none⟩=some (.int .i64 H)) (hp:∃ a m c,pv=.slice a m c) :
  Calls Tryz.prog 80 #[.agg #[.int .i64 f.W,.int .i64 f.H,pv],.pointer (some ⟨G,0,none⟩)] w fun e w'=>e=.returned (.bool (nsideB W H f))∧Only [] w w':=by
 obtain ⟨pa,pm,pc,rfl⟩:=hp
 have hq:=Only.new w (.cells #[.int .i64 f.W,.int .i64 f.H,.slice pa pm pc] 73)
 have HQ:=lh hq
 have g0:=hq.cell hG (by simp)
 have g1:=hq.cell h0 (by simp)
 have g2:=hq.cell h1 (by simp)
 obtain ⟨t0,t1,t2⟩:=frame_cells (heap_alloc_new w (.cells #[.int .i64 f.W,.int .i64 f.H,.slice pa pm pc] 73))
 have hni:(0:Int)<(n:Int):=by omega
 have Hb:Hid (nsideB W H f=!(decide (f.W=W) && decide (f.H=H))):=lh rfl
 clear hG h0 h1 hq
 generalize f.W=fW at *
 generalize f.H=fH at *
 have E0:Hid (∀ z:Bool,z=nsideB W H f→Ending.returned (.bool z)=.returned (.bool (nsideB W H f))):=lh (fun z h=>by rw [h])
 by_cases e1:W=fW
 ·by_cases e2:H=fH
  ·have Hz:Hid (nsideB W H f=false):=lh (by rw [Hb.out];rw [← e1,← e2];simp)
   subst e1;subst e2
   go_enter Tryz.func80,Tryz.ntmps80
   go_upto_region 1 with (fail)
   refine wp_region_held_drew (S:=(fun wz=>wz.cell? ⟨w.heap.size,0,none⟩=some (.int .i64 W)∧wz.cell? ⟨w.heap.size,1,none⟩=some (.int .i64 H)∧wz.cell? ⟨w.heap.size,2,none⟩=some (.slice pa pm pc)∧wz.cell? ⟨G,0,none⟩=some (.slice (some ⟨b,off,none⟩) n cap)∧wz.cell? ⟨b,off,none⟩=some (.int .i64 W)∧wz.cell? ⟨b,off+1,none⟩=some (.int .i64 H))) (by kernel_rfl) ?_ (fun hHeld=>?_)
   ·exact ⟨t0,t1,t2,g0,g1,g2⟩
   exact qGChk0
  ·have Hz:Hid (nsideB W H f=true):=lh (by rw [Hb.out];simp [Ne.symm e2])
   have q2:(fH == H)=false:=by rw [beq_eq_false_iff_ne];exact Ne.symm e2
   have q2b:(fH != H)=true:=by rw [bne,q2];rfl
   subst e1
   clear e2
   go_enter Tryz.func80,Tryz.ntmps80
   go_upto_region 1 with (fail)
   refine wp_region_held_drew (S:=(fun wz=>wz.cell? ⟨w.heap.size,0,none⟩=some (.int .i64 W)∧wz.cell? ⟨w.heap.size,1,none⟩=some (.int .i64 fH)∧wz.cell? ⟨w.heap.size,2,none⟩=some (.slice pa pm pc)∧wz.cell? ⟨G,0,none⟩=some (.slice (some ⟨b,off,none⟩) n cap)∧wz.cell? ⟨b,off,none⟩=some (.int .i64 W)∧wz.cell? ⟨b,off+1,none⟩=some (.int .i64 H))) (by kernel_rfl) ?_ (fun hHeld=>?_)
   ·exact ⟨t0,t1,t2,g0,g1,g2⟩
   exact qGChk0
 ·have Hz:Hid (nsideB W H f=true):=lh (by rw [Hb.out];simp [Ne.symm e1])
  have q1:(fW == W)=false:=by rw [beq_eq_false_iff_ne];exact Ne.symm e1
  have q1b:(fW != W)=true:=by rw [bne,q1];rfl
  clear e1
  go_enter Tryz.func80,Tryz.ntmps80
  go_upto_region 1 with (fail)
  refine wp_region_held_drew (S:=(fun wz=>wz.cell? ⟨w.heap.size,0,none⟩=some (.int .i64 fW)∧wz.cell? ⟨w.heap.size,1,none⟩=some (.int .i64 fH)∧wz.cell? ⟨w.heap.size,2,none⟩=some (.slice pa pm pc)∧wz.cell? ⟨G,0,none⟩=some (.slice (some ⟨b,off,none⟩) n cap)∧wz.cell? ⟨b,off,none⟩=some (.int .i64 W)∧wz.cell? ⟨b,off+1,none⟩=some (.int .i64 H))) (by kernel_rfl) ?_ (fun hHeld=>?_)
  ·exact ⟨t0,t1,t2,g0,g1,g2⟩
  refine tk 0 4 ?_
  refine tk 1 5 ?_
  refine tk 2 6 ?_
  refine tk 3 7 ?_
  refine tk 4 8 ?_
  refine tk 5 9 ?_
  refine tk 6 10 ?_
  refine tk 7 11 ?_
  refine tkn 8 12 ?_
  refine tkn 9 13 ?_
  refine tkn 10 14 ?_
  refine tkn 11 15 ?_
  refine tkn 12 16 ?_
  refine tkn 13 17 ?_
  refine tkn 14 18 ?_
  exact qGChk5
theorem chk3_any (x:Int) (w:World):Calls Tryz.prog 82 #[.int .i64 x] w fun e w'=>e=.returned (.bool (decide (x<8)))∧w=w':=by
 by_cases h:x<8
 all_goals
  go_enter Tryz.func82,Tryz.ntmps82
  go_wp2_with fail
  go_ret
  exact ⟨ret_bool (by simp [h]),rfl⟩
theorem qGChk1 {p:Prop} (h:p:=by
 obtain rfl:k=l.length:=by omega
 have hx:¬ (l.length:Int)<(l.length:Int):=by omega
 have Hz:Hid (l.any g=false):=lh (by rw [← Hk.out,List.drop_length];rfl)
 go_wp2_with fail
 exact HPost.out _ _ ⟨⟨-1,rfl,by rw [Hz.out];simp,by omega,by omega⟩,HQk.out⟩):p:=h
theorem qGChk3 {p:Prop} (h:p:=by
 refine Hu.out.mono ?_
 rintro e w2 ⟨rfl,hq2⟩
 have HQ2:=lh (HQk.out.q hq2)
 clear hq2
 go_wp2_with fail
 exact HPost.out _ _ ⟨⟨k,rfl,by rw [← Hk.out,Hdrop.out];simp,by omega,by have:=Hl.out;omega⟩,HQ2.out⟩):p:=h
theorem qGChk4 {p:Prop} (h:p:=by
 refine Hu.out.mono ?_
 rintro e w2 ⟨rfl,hq2⟩
 have HQ2:=lh (HQk.out.q hq2)
 clear hq2
 go_wp2_with fail
 exact ⟨⟨k+1,by omega,by go_num,hfin,HQ2⟩,by simp [intOf];omega⟩):p:=h
theorem indexP_any {lo hi:Nat} {v:Value} {l:List FrameD} {w:World} (h:FramesAt lo hi w v l) (hl:l.length≤1000000000) :
  Calls Tryz.prog 100 #[v,.func (.func 78) #[] #[]] w fun e w'=>(∃ i:Int,e=.returned (.int .i64 i)∧(0≤i↔l.any nmayB=true)∧-1≤i∧i≤1000000000)∧Only [] w w':=by
 refine hidQ fun Q HPost=>?_
 obtain ⟨a,cap,rfl,-,-,hat⟩:=h.open
 have Hat:=lh hat
 have HF:Hid (∀ (f:FrameD) (u:Value) (wx:World),Only [] w wx→Ints .i64 lo hi wx u f.pix→Calls Tryz.prog 78 #[.agg #[.int .i64 f.W,.int .i64 f.H,u]] wx fun e w'=>e=.returned (.bool (nmayB f))∧Only [] wx w'):=lh (fun f u wx o hu=>chk1_any hu)
 have Hl:=lh hl
 have hll:(l.length:Int)≤9223372036854775807:=by omega
 clear hat hl h
 generalize hg:nmayB=g at *
 clear hg
 go_enter Tryz.func100,Tryz.ntmps100
 go_wp2_with fail
 go_loopw [8] (fun i wr=>∃ k:Nat,k≤l.length∧i=.int .i64 k∧Hid ((l.drop k).any g=l.any g)∧Hid (Only [] w wr)) (fun i _=>l.length-(intOf i).toNat)
 case atStart=>exact ⟨0,by omega,rfl,lh rfl,lh (Only.refl _ _)⟩
 case round =>
  obtain ⟨k,hk,rfl,Hk,HQk⟩:=hrel
  by_cases hlt:k<l.length
  ·obtain ⟨b',off',u,rfl,-,-,hc0,hc1,hc2,hu⟩:=Hat.out k hlt
   have c0:=HQk.out.cell hc0 (by simp)
   have c1:=HQk.out.cell hc1 (by simp)
   have c2:=HQk.out.cell hc2 (by simp)
   have hx:(0:Int)≤(k:Int):=by omega
   have hx1:(k:Int)<(l.length:Int):=by omega
   have Hdrop:=lh (anyF_drop (f:=g) hlt)
   have Hu:=lh (HF.out (l.getD k default) u wr HQk.out (hu.quiet HQk.out))
   obtain ⟨ua,ucap,rfl,-⟩:=hu.open
   clear hc0 hc1 hc2 hu
   generalize l.getD k default=x at *
   generalize g x=gb at *
   generalize x.pix.length=xn at *
   generalize x.W=xW at *
   generalize x.H=xH at *
   cases gb with
   | true =>
    go_wp2_with fail
    go_at_call 78
    exact qGChk3
   | false =>
    have hfin:Hid ((l.drop (k+1)).any g=l.any g):=lh (by rw [← Hk.out,Hdrop.out];rfl)
    go_wp2_with fail
    go_at_call 78
    exact qGChk4
  ·exact qGChk1
theorem qGChk2 {p:Prop} (h:p:=by
 go_enter Tryz.func77,Tryz.ntmps77
 go_wp2_with (first | (go_at_call 100;refine HI.out.mono ?_;rintro e w1 ⟨⟨i,rfl,hi1,hi2,hi3⟩,hq1⟩) | fail)
 go_ret
 exact ⟨ret_bool (by rw [Bool.eq_iff_iff,← hi1];try simp),hq1⟩):p:=h
theorem containsP_any {lo hi:Nat} {v:Value} {l:List FrameD} {w:World} (h:FramesAt lo hi w v l) (hl:l.length≤1000000000) :
  Calls Tryz.prog 77 #[v,.func (.func 78) #[] #[]] w fun e w'=>e=.returned (.bool (l.any nmayB))∧Only [] w w':=by
 have HI:=lh (indexP_any h hl)
 clear h hl
 generalize l.any nmayB=B at *
 exact qGChk2
theorem indexQ_any {lo hi:Nat} {v:Value} {l:List FrameD} {w:World} {G b off n ca:Nat} {W H:Int} (h:FramesAt lo hi w v l) (hl:l.length≤1000000000) (hG:w.cell? ⟨G,0,none⟩=some (.slice (some ⟨b,off,none⟩) n ca)) (hn:0<n) (h0:w.cell? ⟨b,off,none⟩=some (.int .i64 W)) (h1:w.cell? ⟨b,off+1,none⟩=some (.int .i64 H)) :
  Calls Tryz.prog 100 #[v,.func (.func 80) #[] #[.pointer (some ⟨G,0,none⟩)]] w fun e w'=>(∃ i:Int,e=.returned (.int .i64 i)∧(0≤i↔l.any (nsideB W H)=true)∧-1≤i∧i≤1000000000)∧Only [] w w':=by
 refine hidQ fun Q HPost=>?_
 obtain ⟨a,cap,rfl,-,-,hat⟩:=h.open
 have Hat:=lh hat
 have HF:Hid (∀ (f:FrameD) (u:Value) (wx:World),Only [] w wx→Ints .i64 lo hi wx u f.pix→Calls Tryz.prog 80 #[.agg #[.int .i64 f.W,.int .i64 f.H,u],.pointer (some ⟨G,0,none⟩)] wx fun e w'=>e=.returned (.bool ((nsideB W H) f))∧Only [] wx w'):=lh (fun f u wx o hu=>chk2_any (o.cell hG (by simp)) hn (o.cell h0 (by simp)) (o.cell h1 (by simp)) (by obtain ⟨a,c,e,-⟩:=hu.open;exact ⟨a,_,c,e⟩))
 have Hl:=lh hl
 have hll:(l.length:Int)≤9223372036854775807:=by omega
 clear hat hl h hG hn h0 h1
 generalize hg:(nsideB W H)=g at *
 clear hg
 go_enter Tryz.func100,Tryz.ntmps100
 go_wp2_with fail
 go_loopw [8] (fun i wr=>∃ k:Nat,k≤l.length∧i=.int .i64 k∧Hid ((l.drop k).any g=l.any g)∧Hid (Only [] w wr)) (fun i _=>l.length-(intOf i).toNat)
 case atStart=>exact ⟨0,by omega,rfl,lh rfl,lh (Only.refl _ _)⟩
 case round =>
  obtain ⟨k,hk,rfl,Hk,HQk⟩:=hrel
  by_cases hlt:k<l.length
  ·obtain ⟨b',off',u,rfl,-,-,hc0,hc1,hc2,hu⟩:=Hat.out k hlt
   have c0:=HQk.out.cell hc0 (by simp)
   have c1:=HQk.out.cell hc1 (by simp)
   have c2:=HQk.out.cell hc2 (by simp)
   have hx:(0:Int)≤(k:Int):=by omega
   have hx1:(k:Int)<(l.length:Int):=by omega
   have Hdrop:=lh (anyF_drop (f:=g) hlt)
   have Hu:=lh (HF.out (l.getD k default) u wr HQk.out (hu.quiet HQk.out))
   obtain ⟨ua,ucap,rfl,-⟩:=hu.open
   clear hc0 hc1 hc2 hu
   generalize l.getD k default=x at *
   generalize g x=gb at *
   generalize x.pix.length=xn at *
   generalize x.W=xW at *
   generalize x.H=xH at *
   cases gb with
   | true =>
    go_wp2_with fail
    go_at_call 80
    exact qGChk3
   | false =>
    have hfin:Hid ((l.drop (k+1)).any g=l.any g):=lh (by rw [← Hk.out,Hdrop.out];rfl)
    go_wp2_with fail
    go_at_call 80
    exact qGChk4
  ·exact qGChk1
theorem containsQ_any {lo hi:Nat} {v:Value} {l:List FrameD} {w:World} {G b off n ca:Nat} {W H:Int} (h:FramesAt lo hi w v l) (hl:l.length≤1000000000) (hG:w.cell? ⟨G,0,none⟩=some (.slice (some ⟨b,off,none⟩) n ca)) (hn:0<n) (h0:w.cell? ⟨b,off,none⟩=some (.int .i64 W)) (h1:w.cell? ⟨b,off+1,none⟩=some (.int .i64 H)) :
  Calls Tryz.prog 77 #[v,.func (.func 80) #[] #[.pointer (some ⟨G,0,none⟩)]] w fun e w'=>e=.returned (.bool (l.any (nsideB W H)))∧Only [] w w':=by
 have HI:=lh (indexQ_any h hl hG hn h0 h1)
 clear h hl
 generalize l.any (nsideB W H)=B at *
 exact qGChk2
theorem gcheck_any {lo hi lo' hi':Nat} {v cv:Value} {l:List FrameD} {caps:List Int} {a0 a1 a2 a3 a4 a5 a6 a7:Int} {w:World} (h:FramesAt lo hi w v l) (hl:l.length≤1000000000) (hc:Ints .i64 lo' hi' w cv caps) (hcl:caps.length≤1000000000) :
  Calls Tryz.prog 59 #[.agg #[.int .i64 a0,.int .i64 a1,.int .i64 a2,.int .i64 a3,.int .i64 a4,.int .i64 a5,.int .i64 a6,.int .i64 a7],v,cv] w fun e w'=>e=.returned (codeV (gcheckE (⟨a0,a1,a2,a3,a4,a5,a6,a7⟩:Cfg) l caps))∧Only [] w w':=by
 refine hidQ fun Q HPost=>?_
 have HCk:=lh (fun W:World=>check_any (⟨a0,a1,a2,a3,a4,a5,a6,a7⟩:Cfg) W)
 unfold Cfg.v at HCk
 have HP:=lh (fun (W:World) (o:Only [] w W)=>containsP_any (h.quiet o) hl)
 have HC3:=lh (fun (W:World) (o:Only [] w W)=>containsF_any (f:=82) (g:=fun n=>decide (n<8)) (fun _ _=>rfl) chk3_any (hc.quiet o) hcl)
 have HQs:=lh (fun (W:World) (G b off n ca:Nat) (W0 H0:Int) (o:Only [] w W)=>containsQ_any (G:=G) (b:=b) (off:=off) (n:=n) (ca:=ca) (W:=W0) (H:=H0) (h.quiet o) hl)
 obtain ⟨a,cap,rfl,-,-,hat⟩:=h.open
 obtain ⟨ca,ccap,rfl,-⟩:=hc.open
 have Hat:=lh hat
 have hb2:=boxes2 w (.cells #[.int .i64 a0,.int .i64 a1,.int .i64 a2,.int .i64 a3,.int .i64 a4,.int .i64 a5,.int .i64 a6,.int .i64 a7] 60) (.cells #[.slice a l.length cap] 61)
 obtain ⟨hb1,HK1,HV1,-⟩:=hb2
 have HQ1:=lh hb1
 have hll:(l.length:Int)≤9223372036854775807:=by omega
 have hcl':(caps.length:Int)≤9223372036854775807:=by omega
 have HE:Hid (gcheckE (⟨a0,a1,a2,a3,a4,a5,a6,a7⟩:Cfg) l caps=if mayB (⟨a0,a1,a2,a3,a4,a5,a6,a7⟩:Cfg)=false then some 11 else if l.length=0∨16<l.length∨l.any nmayB=true then some 2 else if l.any (nsideB (l.getD 0 default).W (l.getD 0 default).H)=true∨caps.length≠l.length then some 14 else if caps.any (fun n=>decide (n<8))=true then some 3 else none):=lh rfl
 generalize gcheckE (⟨a0,a1,a2,a3,a4,a5,a6,a7⟩:Cfg) l caps=R at *
 generalize mayB (⟨a0,a1,a2,a3,a4,a5,a6,a7⟩:Cfg)=M at *
 clear h hc hat hb1 hl hcl
 go_enter Tryz.func59,Tryz.ntmps59
 obtain ⟨k0,k1,k2,k3,k4,k5,k6,k7⟩:=gcfg_cells HK1.out
 go_wp2_with fail
 generalize hW1:World.alloc (World.alloc w _) _=W1 at *
 clear hW1 k0 k1 k2 k3 k4 k5 k6 k7
 go_at_call 76
 refine (HCk.out _).mono ?_
 rintro e w2 ⟨rfl,hq2⟩
 have HQ2:=lh (HQ1.out.q hq2)
 have HV2:=lh (hq2.row HV1.out)
 clear hq2
 have r0:=row1_cell HV2.out
 cases M with
 | false =>
  simp only [Bool.false_eq_true,↓reduceIte,codeV]
  go_wp2_with fail
  exact HPost.out _ _ ⟨by rw [HE.out];first | done | rfl,HQ2.out⟩
 | true =>
  simp only [↓reduceIte,codeV]
  by_cases h0:l.length=0
  ·have h0i:(l.length:Int)=0:=by omega
   have H0:=lh h0
   have q0:((l.length:Int) == 0)=true:=by rw [beq_iff_eq];exact h0i
   clear h0
   clear h0i
   go_wp2_with fail
   exact HPost.out _ _ ⟨by rw [HE.out,if_neg (by decide),if_pos (.inl H0.out)];first | done | rfl,HQ2.out⟩
  ·have H0:=lh h0
   have hpos:0<l.length:=by omega
   have hposi:(0:Int)<(l.length:Int):=by omega
   have q0:((l.length:Int) == 0)=false:=by rw [beq_eq_false_iff_ne];omega
   obtain ⟨b,off,dv,rfl,-,-,hc0,hc1,-,-⟩:=Hat.out 0 hpos
   rw [Nat.zero_mul,Nat.add_zero] at hc0 hc1
   have HC0:=lh hc0
   have HC1:=lh hc1
   clear h0 hc0 hc1
   by_cases h16:16<l.length
   ·have h16i:(16:Int)<(l.length:Int):=by omega
    have H16:=lh h16
    clear h16
    go_wp2_with fail
    exact HPost.out _ _ ⟨by rw [HE.out,if_neg (by decide),if_pos (.inr (.inl H16.out))];first | done | rfl,HQ2.out⟩
   ·have h16i:¬ (16:Int)<(l.length:Int):=by omega
    have H16:=lh h16
    clear h16
    go_wp2_with fail
    go_at_call 77
    refine (HP.out _ HQ2.out).mono ?_
    rintro e w3 ⟨rfl,hq3⟩
    have HQ3:=lh (HQ2.out.q hq3)
    have HV3:=lh (hq3.row HV2.out)
    clear hq3 r0
    have r0:=row1_cell HV3.out
    have HR0:=lh r0
    cases hp:l.any nmayB with
    | true =>
     have HPp:=lh hp
     clear hp
     go_wp2_with fail
     exact HPost.out _ _ ⟨by rw [HE.out,if_neg (by decide),if_pos (.inr (.inr HPp.out))];first | done | rfl,HQ3.out⟩
    | false =>
     have HPp:=lh hp
     clear hp
     have HQs3:=lh (HQs.out w3 (w.heap.size+1) b off l.length cap (l.getD 0 default).W (l.getD 0 default).H HQ3.out r0 hpos (HQ3.out.cell HC0.out (by simp)) (HQ3.out.cell HC1.out (by simp)))
     clear HQs
     go_wp2_with fail
     go_at_call 77
     refine HQs3.out.mono ?_
     rintro e w4 ⟨rfl,hq4⟩
     have HQ4:=lh (HQ3.out.q hq4)
     have HV4:=lh (hq4.row HV3.out)
     clear hq4 r0 HR0
     have r0:=row1_cell HV4.out
     cases hs:l.any (nsideB (l.getD 0 default).W (l.getD 0 default).H) with
     | true =>
      have HSd:=lh hs
      clear hs
      go_wp2_with fail
      exact HPost.out _ _ ⟨by rw [HE.out,if_neg (by decide),if_neg (by have:=H0.out;have:=H16.out;have:=HPp.out;simp_all),if_pos (.inl HSd.out)];first | done | rfl,HQ4.out⟩
     | false =>
      have HSd:=lh hs
      clear hs
      by_cases hcn:caps.length=l.length
      ·have q1:((caps.length:Int) == (l.length:Int))=true:=by rw [beq_iff_eq];omega
       have HCn:=lh hcn
       clear hcn
       go_wp2_with fail
       go_at_call 81
       refine (HC3.out _ HQ4.out).mono ?_
       rintro e w5 ⟨rfl,hq5⟩
       have HQ5:=lh (HQ4.out.q hq5)
       clear hq5
       cases hr:caps.any (fun n=>decide (n<8)) with
       | true =>
        have HRn:=lh hr
        clear hr
        go_wp2_with fail
        exact HPost.out _ _ ⟨by rw [HE.out,if_neg (by decide),if_neg (by have:=H0.out;have:=H16.out;have:=HPp.out;simp_all),if_neg (by have:=HSd.out;have:=HCn.out;simp_all),if_pos HRn.out];first | done | rfl,HQ5.out⟩
       | false =>
        have HRn:=lh hr
        clear hr
        go_wp2_with fail
        exact HPost.out _ _ ⟨by rw [HE.out,if_neg (by decide),if_neg (by have:=H0.out;have:=H16.out;have:=HPp.out;simp_all),if_neg (by have:=HSd.out;have:=HCn.out;simp_all),if_neg (by rw [HRn.out];decide)];first | done | rfl,HQ5.out⟩
      ·have q1:((caps.length:Int) == (l.length:Int))=false:=by rw [beq_eq_false_iff_ne];omega
       have HCn:=lh hcn
       clear hcn
       go_wp2_with fail
       exact HPost.out _ _ ⟨by rw [HE.out,if_neg (by decide),if_neg (by have:=H0.out;have:=H16.out;have:=HPp.out;simp_all),if_pos (.inr HCn.out)];first | done | rfl,HQ4.out⟩
end
end Go.Proofs.YtkigikallkpbcaaGreatDoor
