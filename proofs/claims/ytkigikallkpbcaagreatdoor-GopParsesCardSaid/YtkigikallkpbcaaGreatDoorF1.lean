/- Joined texts: EFit, GRow, EPln, EFst. Conditions: each part names its own. -/
import Derived.Test.YtkigikallkpbcaaGreatDoorT1
import Derived.Test.YtkigikallkpbcaaGreatDoorWD
import Derived.Test.YtkigikallkpbcaaGreatDoorW2
import Derived.Test.YtkigikallkpbcaaGreatDoorC1
import Derived.Test.YtkigikallkpbcaaGreatDoorK2
import Derived.Test.YtkigikallkpbcaaGreatDoorS5
import Derived.Test.YtkigikallkpbcaaGreatDoorC4
import Derived.Test.YtkigikallkpbcaaGreatDoorR1
import Derived.Test.YtkigikallkpbcaaGreatDoorK7
import Derived.Test.YtkigikallkpbcaaGreatDoorS7
import Derived.Test.YtkigikallkpbcaaGreatDoorR2
namespace Go.Proofs.YtkigikallkpbcaaGreatDoor
open Go.RowKit
set_option linter.unusedVariables false
set_option linter.unusedSimpArgs false
set_option maxRecDepth 100000
set_option maxHeartbeats 16000000
/-- the first quantiser that fits -/
def fitGo (src prev:FrameD) (key:Bool) (reach most:Int):Nat→Int→Except Int (Coded×FrameD)
 | 0,_=>.ok (if key then (⟨4,[]⟩,newF src.W src.H 128) else (⟨3,[]⟩,prev))
 | n+1,qp=>match checkE src prev key qp reach with
  | some k=>.error k
  | none=>if ((codedE src prev key qp reach.toNat).data.length:Int)+8≤most then .ok (codedE src prev key qp reach.toNat,(encF src prev key qp reach.toNat).1) else fitGo src prev key reach most n (qp+1)
def fitE (src prev:FrameD) (key:Bool) (c:Cfg) (most:Int):Except Int (Coded×FrameD) :=
 if mayB c=false then .error 11 else if most<8 then .error 3 else fitGo src prev key c.reach most (c.qmax+1-c.qmin).toNat c.qmin
/-- what encode.Fit hands back -/
def FitP (src prev:FrameD) (key:Bool) (c:Cfg) (most:Int) (w:World) (e:Ending) (w':World):Prop :=
 Only [] w w'∧match fitE src prev key c most with
  | .error k=>e=.returned (.tuple #[.agg #[.int .i64 0,.slice none 0 0],.agg #[.int .i64 0,.int .i64 0,.slice none 0 0],.iface 35 (.int .i64 k)])
  | .ok x=>∃ dv fv,e=.returned (.tuple #[.agg #[.int .i64 x.1.kind,dv],.agg #[.int .i64 x.2.W,.int .i64 x.2.H,fv],.nilIface])∧Ints .u8 w.heap.size w'.heap.size w' dv x.1.data∧Ints .i64 w.heap.size w'.heap.size w' fv x.2.pix
theorem fitGo_step {src prev:FrameD} {key:Bool} {reach most:Int} {n:Nat} {q:Int} (h:checkE src prev key q reach=none) (hb:¬ ((codedE src prev key q reach.toNat).data.length:Int)+8≤most):fitGo src prev key reach most (n+1) q=fitGo src prev key reach most n (q+1):=by
 simp only [fitGo,h,if_neg hb]
theorem fitGo_ok {src prev:FrameD} {key:Bool} {reach most:Int} {n:Nat} {q:Int} (h:checkE src prev key q reach=none) (hb:((codedE src prev key q reach.toNat).data.length:Int)+8≤most):fitGo src prev key reach most (n+1) q=.ok (codedE src prev key q reach.toNat,(encF src prev key q reach.toNat).1):=by
 simp only [fitGo,h,if_pos hb]
theorem fitGo_err {src prev:FrameD} {key:Bool} {reach most:Int} {n:Nat} {q k:Int} (h:checkE src prev key q reach=some k):fitGo src prev key reach most (n+1) q=.error k:=by
 simp only [fitGo,h]
theorem cfg_cells {w:World} {g:Nat} {v0 v1 v2 v3 v4 v5 v6 v7:Value} {t:TypeId} (h:w.heap[g]?=some (.cells #[v0,v1,v2,v3,v4,v5,v6,v7] t (0,0))) :
  w.cell? ⟨g,0,none⟩=some v0∧w.cell? ⟨g,1,none⟩=some v1∧w.cell? ⟨g,2,none⟩=some v2∧w.cell? ⟨g,3,none⟩=some v3∧w.cell? ⟨g,4,none⟩=some v4∧w.cell? ⟨g,5,none⟩=some v5∧w.cell? ⟨g,6,none⟩=some v6∧w.cell? ⟨g,7,none⟩=some v7:=by
 refine ⟨?_,?_,?_,?_,?_,?_,?_,?_⟩ <;> (rw [cell_of_row _ _ _ _ _ _ h];rfl)
section
theorem qEFit0 {p:Prop} (h:p:=by
 rw [HE.out]
 exact ⟨HQ6.out.trans HO.out (by simp) (fun g hg hlt=>by simp only [List.mem_cons,List.not_mem_nil,or_false] at hg;omega),rfl⟩):p:=h
theorem efit_any {lo hi lo' hi':Nat} {sv pv:Value} {src prev:FrameD} {w:World} (key:Bool) (c:Cfg) (most:Int) (hs:Ints .i64 lo hi w sv src.pix) (hp:Ints .i64 lo' hi' w pv prev.pix) (hh:hi≤w.heap.size) (hh':hi'≤w.heap.size) :
  Calls Tryz.prog 60 #[.agg #[.int .i64 src.W,.int .i64 src.H,sv],.agg #[.int .i64 prev.W,.int .i64 prev.H,pv],.bool key,c.v,.int .i64 most] w (FitP src prev key c most w):=by
 refine hidQ fun Q HPost=>?_
 have HFr:=lh (fun (W:World) (q:Int) (o:Only [] w W)=>eframe_any key q c.reach (hs.quiet o) (hp.quiet o) (Nat.le_trans hh o.size) (Nat.le_trans hh' o.size))
 have HCl:=lh (fun (W:World) (o:Only [] w W) (h0:0<prev.pix.length) (hl:prev.pix.length≤1000000)=>clone_any (hp.quiet o) h0 hl)
 have HCfg:=lh (fun (W:World)=>check_any c W)
 have HFit:Hid (fitE src prev key c most=if mayB c=false then .error 11 else if most<8 then .error 3 else fitGo src prev key c.reach most (c.qmax+1-c.qmin).toNat c.qmin):=lh rfl
 have HMay:Hid (mayB c=true→0≤c.qmin∧c.qmin≤c.qmax∧c.qmax≤15∧0≤c.reach∧c.reach≤7):=lh (fun h=>by unfold mayB at h;rw [decide_eq_true_eq] at h;exact ⟨h.1,h.2.1,h.2.2.1,h.2.2.2.1,h.2.2.2.2.1⟩)
 obtain ⟨sa,sc,rfl,-⟩:=hs.open
 obtain ⟨pa,pc,rfl,-⟩:=hp.open
 unfold Cfg.v at HCfg ⊢
 unfold FitP at HPost
 generalize fitE src prev key c most=FE at *
 generalize mayB c=MC at *
 obtain ⟨a0,a1,a2,a3,a4,a5,a6,a7⟩:=c
 simp only at HFr HFit HMay HCfg ⊢
 have HQ5:Hid (Only [] w (((((w.alloc (.cells #[.int .i64 src.W,.int .i64 src.H,.slice sa src.pix.length sc] 73)).alloc (.cells #[.int .i64 prev.W,.int .i64 prev.H,.slice pa prev.pix.length pc] 73)).alloc (.cells #[.int .i64 a0,.int .i64 a1,.int .i64 a2,.int .i64 a3,.int .i64 a4,.int .i64 a5,.int .i64 a6,.int .i64 a7] 60)).alloc (.cells #[.int .i64 0,.slice none 0 0] 69)).alloc (.cells #[.int .i64 0,.int .i64 0,.slice none 0 0] 73))):=lh (((((Only.new w _).alloc _).alloc _).alloc _).alloc _)
 have HRs5:Hid ((((((w.alloc (.cells #[.int .i64 src.W,.int .i64 src.H,.slice sa src.pix.length sc] 73)).alloc (.cells #[.int .i64 prev.W,.int .i64 prev.H,.slice pa prev.pix.length pc] 73)).alloc (.cells #[.int .i64 a0,.int .i64 a1,.int .i64 a2,.int .i64 a3,.int .i64 a4,.int .i64 a5,.int .i64 a6,.int .i64 a7] 60)).alloc (.cells #[.int .i64 0,.slice none 0 0] 69)).alloc (.cells #[.int .i64 0,.int .i64 0,.slice none 0 0] 73)).heap[w.heap.size]?=some (.cells #[.int .i64 src.W,.int .i64 src.H,.slice sa src.pix.length sc] 73 (0,0))):=lh (((((Only.new (w.alloc _) _).alloc _).alloc _).alloc _).row (heap_alloc_new w _))
 have HRp5:Hid ((((((w.alloc (.cells #[.int .i64 src.W,.int .i64 src.H,.slice sa src.pix.length sc] 73)).alloc (.cells #[.int .i64 prev.W,.int .i64 prev.H,.slice pa prev.pix.length pc] 73)).alloc (.cells #[.int .i64 a0,.int .i64 a1,.int .i64 a2,.int .i64 a3,.int .i64 a4,.int .i64 a5,.int .i64 a6,.int .i64 a7] 60)).alloc (.cells #[.int .i64 0,.slice none 0 0] 69)).alloc (.cells #[.int .i64 0,.int .i64 0,.slice none 0 0] 73)).heap[w.heap.size+1]?=some (.cells #[.int .i64 prev.W,.int .i64 prev.H,.slice pa prev.pix.length pc] 73 (0,0))):=lh ((((Only.new ((w.alloc _).alloc _) _).alloc _).alloc _).row (heap_alloc_new' (by simp)))
 have HRk5:Hid ((((((w.alloc (.cells #[.int .i64 src.W,.int .i64 src.H,.slice sa src.pix.length sc] 73)).alloc (.cells #[.int .i64 prev.W,.int .i64 prev.H,.slice pa prev.pix.length pc] 73)).alloc (.cells #[.int .i64 a0,.int .i64 a1,.int .i64 a2,.int .i64 a3,.int .i64 a4,.int .i64 a5,.int .i64 a6,.int .i64 a7] 60)).alloc (.cells #[.int .i64 0,.slice none 0 0] 69)).alloc (.cells #[.int .i64 0,.int .i64 0,.slice none 0 0] 73)).heap[w.heap.size+1+1]?=some (.cells #[.int .i64 a0,.int .i64 a1,.int .i64 a2,.int .i64 a3,.int .i64 a4,.int .i64 a5,.int .i64 a6,.int .i64 a7] 60 (0,0))):=lh (((Only.new (((w.alloc _).alloc _).alloc _) _).alloc _).row (heap_alloc_new' (by simp)))
 have HRc5:Hid ((((((w.alloc (.cells #[.int .i64 src.W,.int .i64 src.H,.slice sa src.pix.length sc] 73)).alloc (.cells #[.int .i64 prev.W,.int .i64 prev.H,.slice pa prev.pix.length pc] 73)).alloc (.cells #[.int .i64 a0,.int .i64 a1,.int .i64 a2,.int .i64 a3,.int .i64 a4,.int .i64 a5,.int .i64 a6,.int .i64 a7] 60)).alloc (.cells #[.int .i64 0,.slice none 0 0] 69)).alloc (.cells #[.int .i64 0,.int .i64 0,.slice none 0 0] 73)).heap[w.heap.size+1+1+1]?=some (.cells #[.int .i64 0,.slice none 0 0] 69 (0,0))):=lh ((Only.new ((((w.alloc _).alloc _).alloc _).alloc _) _).row (heap_alloc_new' (by simp)))
 have HRf5:Hid ((((((w.alloc (.cells #[.int .i64 src.W,.int .i64 src.H,.slice sa src.pix.length sc] 73)).alloc (.cells #[.int .i64 prev.W,.int .i64 prev.H,.slice pa prev.pix.length pc] 73)).alloc (.cells #[.int .i64 a0,.int .i64 a1,.int .i64 a2,.int .i64 a3,.int .i64 a4,.int .i64 a5,.int .i64 a6,.int .i64 a7] 60)).alloc (.cells #[.int .i64 0,.slice none 0 0] 69)).alloc (.cells #[.int .i64 0,.int .i64 0,.slice none 0 0] 73)).heap[w.heap.size+1+1+1+1]?=some (.cells #[.int .i64 0,.int .i64 0,.slice none 0 0] 73 (0,0))):=lh (heap_alloc_new' (by simp))
 have HZ5:Hid ((((((w.alloc (.cells #[.int .i64 src.W,.int .i64 src.H,.slice sa src.pix.length sc] 73)).alloc (.cells #[.int .i64 prev.W,.int .i64 prev.H,.slice pa prev.pix.length pc] 73)).alloc (.cells #[.int .i64 a0,.int .i64 a1,.int .i64 a2,.int .i64 a3,.int .i64 a4,.int .i64 a5,.int .i64 a6,.int .i64 a7] 60)).alloc (.cells #[.int .i64 0,.slice none 0 0] 69)).alloc (.cells #[.int .i64 0,.int .i64 0,.slice none 0 0] 73)).heap.size=w.heap.size+1+1+1+1+1):=lh (by simp)
 have HHi:=lh (And.intro hh hh')
 have HUndK:=lh Tryz.underlying60
 clear hs hp hh hh'
 obtain ⟨k0,k1,k2,k3,k4,k5,k6,k7⟩:=cfg_cells HRk5.out
 go_enter Tryz.func60,Tryz.ntmps60
 go_wp2_with fail
 go_at_call 76
 refine (HCfg.out _).mono ?_
 rintro e w6 ⟨rfl,hq6⟩
 have HQ6:=lh (HQ5.out.q hq6)
 have HRs6:=lh (hq6.row HRs5.out)
 have HRp6:=lh (hq6.row HRp5.out)
 have HRk6:=lh (hq6.row HRk5.out)
 have HRc6:=lh (hq6.row HRc5.out)
 have HRf6:=lh (hq6.row HRf5.out)
 have HZ6:Hid (w.heap.size+1+1+1+1+1≤w6.heap.size):=lh (by have:=hq6.size;have:=HZ5.out;omega)
 clear hq6 HRs5 HRp5 HRk5 HRc5 HRf5 HZ5 HQ5 HCfg k0 k1 k2 k3 k4 k5 k6 k7
 cases MC with
 | false =>
  have HE:Hid (FE=.error 11):=lh (by rw [HFit.out];rfl)
  simp only [Bool.false_eq_true,if_false,codeV]
  have hne:w.heap.size+1+1+1≠w.heap.size+1+1+1+1:=by omega
  obtain ⟨t0,t1,y0,y1,-⟩:=row2 HRc6.out
  obtain ⟨hc,hf,ho⟩:=row23_set (x:=.int .i64 0) (y:=.slice none 0 0) (u:=.int .i64 0) (v:=.int .i64 0) (z:=.slice none 0 0) HRc6.out HRf6.out hne
  obtain ⟨hc2,ho2⟩:=row2_set (x:=.int .i64 0) (y:=.slice none 0 0) HRc6.out
  have hf2:=ho2.rowAt HRf6.out (by simp)
  obtain ⟨f0,f1,f2⟩:=frame_cells hf2
  have g0:=frozen_of_row _ (w.heap.size+1+1+1+1) 0 _ _ hf2
  have g1:=frozen_of_row _ (w.heap.size+1+1+1+1) 1 _ _ hf2
  have g2:=frozen_of_row _ (w.heap.size+1+1+1+1) 2 _ _ hf2
  have HC:=lh hc
  have HF:=lh hf
  have HO:=lh ho
  clear hc hf ho hc2 ho2 hf2
  go_wp2_with fail
  refine bodyPost_ret (v:=.tuple #[.agg #[.int .i64 0,.slice none 0 0],.agg #[.int .i64 0,.int .i64 0,.slice none 0 0],.iface 35 (.int .i64 11)]) (results_cct Tryz.results60 _ _ (w.heap.size+1+1+1) (w.heap.size+1+1+1+1) _ _ _ _ _ _ _ _ _ rfl rfl rfl HC.out HF.out Tryz.underlying69 rfl (by kernel_rfl) Tryz.underlying73 rfl (by kernel_rfl)) rfl (HPost.out _ _ ?_)
  exact qEFit0
 | true =>
  simp only [if_true,codeV]
  by_cases hm:most<8
  ·have HE:Hid (FE=.error 3):=lh (by rw [HFit.out,if_neg (by decide),if_pos hm])
   have hne:w.heap.size+1+1+1≠w.heap.size+1+1+1+1:=by omega
   obtain ⟨t0,t1,y0,y1,-⟩:=row2 HRc6.out
   obtain ⟨hc,hf,ho⟩:=row23_set (x:=.int .i64 0) (y:=.slice none 0 0) (u:=.int .i64 0) (v:=.int .i64 0) (z:=.slice none 0 0) HRc6.out HRf6.out hne
   obtain ⟨hc2,ho2⟩:=row2_set (x:=.int .i64 0) (y:=.slice none 0 0) HRc6.out
   have hf2:=ho2.rowAt HRf6.out (by simp)
   obtain ⟨f0,f1,f2⟩:=frame_cells hf2
   have g0:=frozen_of_row _ (w.heap.size+1+1+1+1) 0 _ _ hf2
   have g1:=frozen_of_row _ (w.heap.size+1+1+1+1) 1 _ _ hf2
   have g2:=frozen_of_row _ (w.heap.size+1+1+1+1) 2 _ _ hf2
   have HC:=lh hc
   have HF:=lh hf
   have HO:=lh ho
   clear hc hf ho hc2 ho2 hf2
   go_wp2_with fail
   refine bodyPost_ret (v:=.tuple #[.agg #[.int .i64 0,.slice none 0 0],.agg #[.int .i64 0,.int .i64 0,.slice none 0 0],.iface 35 (.int .i64 3)]) (results_cct Tryz.results60 _ _ (w.heap.size+1+1+1) (w.heap.size+1+1+1+1) _ _ _ _ _ _ _ _ _ rfl rfl rfl HC.out HF.out Tryz.underlying69 rfl (by kernel_rfl) Tryz.underlying73 rfl (by kernel_rfl)) rfl (HPost.out _ _ ?_)
   exact qEFit0
  ·have HFit2:Hid (FE=fitGo src prev key a2 most (a1+1-a0).toNat a0):=lh (by rw [HFit.out,if_neg (by decide),if_neg hm])
   have HB:Hid (0≤a0∧a0≤a1∧a1≤15∧0≤a2∧a2≤7):=lh (HMay.out rfl)
   clear HMay HFit
   obtain ⟨k0,k1,k2,k3,k4,k5,k6,k7⟩:=cfg_cells HRk6.out
   go_wp2_with fail
   clear k0 k1 k2 k3 k4 k5 k6 k7
   go_loopw [14] (fun qv wr=>∃ q:Int,qv=.int .i64 q∧Hid (a0≤q∧q≤a1+1)∧Hid (FE=fitGo src prev key a2 most (a1+1-q).toNat q)∧Hid (Only [] w6 wr)∧Hid (a0<q→FrOk src∧(key=false→matesB prev src.W src.H=true))) (fun qv _=>(16-intOf qv).toNat)
   case atStart=>exact ⟨a0,rfl,lh (by have:=HB.out;omega),HFit2,lh (Only.refl _ _),lh (fun h=>absurd h (by omega))⟩
   case round =>
    obtain ⟨q,rfl,Hq,Hgo,HQr,Hseen⟩:=hrel
    obtain ⟨k0,k1,k2,k3,k4,k5,k6,k7⟩:=cfg_cells (HQr.out.row HRk6.out)
    have HZr:Hid (w.heap.size+1+1+1+1+1≤wr.heap.size):=lh (by have:=HQr.out.size;have:=HZ6.out;omega)
    by_cases hlq:q≤a1
    ·have hq16:IntKind.i64.wrap (q+1)=q+1:=by rw [IntKind.wrap_i64];have:=Hq.out;have:=HB.out;omega
     have HFrx:=lh (HFr.out wr q (HQ6.out.q HQr.out))
     have HN:Hid ((a1+1-q).toNat=(a1-q).toNat+1∧(a1+1-(q+1)).toNat=(a1-q).toNat):=lh (by omega)
     obtain ⟨s0,s1,s2⟩:=frame_cells (HQr.out.row HRs6.out)
     obtain ⟨p0,p1,p2⟩:=frame_cells (HQr.out.row HRp6.out)
     go_wp2_with fail
     clear k0 k1 k2 k3 k4 k5 k6 k7 s0 s1 s2 p0 p1 p2
     go_at_call 83
     refine HFrx.out.mono ?_
     rintro e w7 ⟨hq7,hm7⟩
     have HQ7:=lh ((HQ6.out.q HQr.out).q hq7)
     have HQ67:=lh (HQr.out.q hq7)
     have HZ7:Hid (w.heap.size+1+1+1+1+1≤w7.heap.size∧wr.heap.size≤w7.heap.size):=lh ⟨by have:=HZ6.out;have:=HQ67.out.size;omega,hq7.size⟩
     clear hq7 HFrx
     cases hck:checkE src prev key q a2 with
     | some k =>
      rw [hck] at hm7
      obtain rfl:=hm7
      have HE:Hid (FE=.error k):=lh (by rw [Hgo.out,HN.out.1];exact fitGo_err hck)
      clear hck
      go_upto_region 10 with (fail)
      have HQn:=lh ((Only.new w7 (.cells #[.int .i64 0,.slice none 0 0] 69)).alloc (.cells #[.int .i64 0,.int .i64 0,.slice none 0 0] 73))
      generalize hW8:World.alloc (World.alloc w7 _) _=W8 at *
      clear hW8
      have HQ8:=lh (HQ7.out.q HQn.out)
      have HRc8:=lh ((HQ67.out.q HQn.out).row HRc6.out)
      have HRf8:=lh ((HQ67.out.q HQn.out).row HRf6.out)
      have hne:w.heap.size+1+1+1≠w.heap.size+1+1+1+1:=by omega
      obtain ⟨t0,t1,y0,y1,-⟩:=row2 HRc8.out
      obtain ⟨hc,hf,ho⟩:=row23_set (x:=.int .i64 0) (y:=.slice none 0 0) (u:=.int .i64 0) (v:=.int .i64 0) (z:=.slice none 0 0) HRc8.out HRf8.out hne
      obtain ⟨hc2,ho2⟩:=row2_set (x:=.int .i64 0) (y:=.slice none 0 0) HRc8.out
      have hf2:=ho2.rowAt HRf8.out (by simp)
      obtain ⟨f0,f1,f2⟩:=frame_cells hf2
      have g0:=frozen_of_row _ (w.heap.size+1+1+1+1) 0 _ _ hf2
      have g1:=frozen_of_row _ (w.heap.size+1+1+1+1) 1 _ _ hf2
      have g2:=frozen_of_row _ (w.heap.size+1+1+1+1) 2 _ _ hf2
      have HC:=lh hc
      have HF:=lh hf
      have HO:=lh ho
      clear hc hf ho hc2 ho2 hf2
      go_wp2_with fail
      refine bodyPost_ret (v:=.tuple #[.agg #[.int .i64 0,.slice none 0 0],.agg #[.int .i64 0,.int .i64 0,.slice none 0 0],.iface 35 (.int .i64 k)]) (results_cct Tryz.results60 _ _ (w.heap.size+1+1+1) (w.heap.size+1+1+1+1) _ _ _ _ _ _ _ _ _ rfl rfl rfl HC.out HF.out Tryz.underlying69 rfl (by kernel_rfl) Tryz.underlying73 rfl (by kernel_rfl)) rfl (HPost.out _ _ ?_)
      rw [HE.out]
      exact ⟨HQ8.out.trans HO.out (by simp) (fun g hg hlt=>by simp only [List.mem_cons,List.not_mem_nil,or_false] at hg;omega),rfl⟩
     | none =>
      rw [hck] at hm7
      obtain ⟨dv,fv,rfl,hid,hif⟩:=hm7
      obtain ⟨hsf,hmt,hq0,hq1,hr0,hr1⟩:=checkE_none hck
      have HOk:=lh (And.intro hsf hmt)
      have hlen:(codedE src prev key q a2.toNat).data.length≤65000:=by
       have h5:=(enc_drift (q:=q.toNat) (reach:=a2.toNat) hsf hmt (by omega) (by omega)).2
       rwa [Int.toNat_of_nonneg hq0] at h5
      have hpe:=enc_peak (q:=q.toNat) (reach:=a2.toNat) hsf (fun h=>mates_ok (hmt h)) (by omega) (by omega)
      rw [Int.toNat_of_nonneg hq0] at hpe
      have hW:=And.intro hpe.2.1 hpe.2.2.1
      have HOkk:Hid ((((codedE src prev key q a2.toNat).data.length:Int)+8≤most)→FE=.ok (codedE src prev key q a2.toNat,(encF src prev key q a2.toNat).1)):=lh (fun hb=>by rw [Hgo.out,HN.out.1];exact fitGo_ok hck hb)
      have HNo:Hid (¬ (((codedE src prev key q a2.toNat).data.length:Int)+8≤most)→FE=fitGo src prev key a2 most (a1+1-(q+1)).toNat (q+1)):=lh (fun hb=>by rw [Hgo.out,HN.out.1,HN.out.2];exact fitGo_step hck hb)
      clear hck hsf hmt hq0 hq1 hr0 hr1 hpe
      generalize codedE src prev key q a2.toNat=X at *
      generalize encF src prev key q a2.toNat=Y at *
      obtain ⟨KK,DD⟩:=X
      obtain ⟨⟨YW,YH,YP⟩,YM⟩:=Y
      simp only at hid hif hlen hW HOkk HNo ⊢
      obtain ⟨rfl,rfl⟩:=hW
      have HCost:=lh (fun (W:World) (o:Only [] w7 W)=>cost_any (k:=KK) (hid.quiet o) (by omega))
      have HD:=lh hid
      have HY:=lh hif
      obtain ⟨d4,c4,rfl,-⟩:=hid.open
      obtain ⟨f4,e4,rfl,-⟩:=hif.open
      obtain ⟨ND,hND⟩:∃ z,z=DD.length:=⟨_,rfl⟩
      obtain ⟨NP,hNP⟩:∃ z,z=YP.length:=⟨_,rfl⟩
      rw [← hND] at HCost HOkk HNo HD ⊢
      rw [← hNP] at HY ⊢
      clear hid hif hlen hND hNP
      have HQn:=lh ((Only.new w7 (.cells #[.int .i64 KK,.slice d4 ND c4] 69)).alloc (.cells #[.int .i64 src.W,.int .i64 src.H,.slice f4 NP e4] 73))
      have HVc:Hid (((w7.alloc (.cells #[.int .i64 KK,.slice d4 ND c4] 69)).alloc (.cells #[.int .i64 src.W,.int .i64 src.H,.slice f4 NP e4] 73)).heap[w7.heap.size]?=some (.cells #[.int .i64 KK,.slice d4 ND c4] 69 (0,0))):=lh ((Only.new (w7.alloc _) _).row (heap_alloc_new w7 _))
      have HVf:Hid (((w7.alloc (.cells #[.int .i64 KK,.slice d4 ND c4] 69)).alloc (.cells #[.int .i64 src.W,.int .i64 src.H,.slice f4 NP e4] 73)).heap[w7.heap.size+1]?=some (.cells #[.int .i64 src.W,.int .i64 src.H,.slice f4 NP e4] 73 (0,0))):=lh (heap_alloc_new' (by simp))
      go_upto_region 10 with (fail)
      generalize hW8:World.alloc (World.alloc w7 _) _=W8 at *
      clear hW8
      obtain ⟨VC,hVC⟩:∃ z,z=w7.heap.size:=⟨_,rfl⟩
      have HVC:=lh hVC
      rw [← hVC] at HVc HVf ⊢
      clear hVC
      obtain ⟨v0,v1,-⟩:=row2 HVc.out
      go_wp2_with fail
      clear v0 v1
      go_at_call 30
      refine (HCost.out W8 HQn.out).mono ?_
      rintro e w9 ⟨rfl,hq9⟩
      have HQ79:=lh (HQn.out.q hq9)
      have HQ9:=lh (HQ7.out.q HQ79.out)
      have hc15:w9.heap[w.heap.size+1+1+1]?=some (.cells #[.int .i64 0,.slice none 0 0] 69 (0,0)):=(HQ67.out.q HQ79.out).row HRc6.out
      have hf15:w9.heap[w.heap.size+1+1+1+1]?=some (.cells #[.int .i64 0,.int .i64 0,.slice none 0 0] 73 (0,0)):=(HQ67.out.q HQ79.out).row HRf6.out
      obtain ⟨v0,v1,-⟩:=row2 (hq9.row HVc.out)
      obtain ⟨t0,t1,t2⟩:=frame_cells (hq9.row HVf.out)
      clear hq9 HCost HQn
      by_cases hfit:(ND:Int)+8≤most
      ·have HE:=lh (HOkk.out hfit)
       go_wp2_with fail
       obtain ⟨x0,x1,y0,y1,-⟩:=row2 hc15
       obtain ⟨hc2,ho2⟩:=row2_set (x:=.int .i64 KK) (y:=.slice d4 ND c4) hc15
       have hf2:=ho2.rowAt hf15 (by simp)
       obtain ⟨f0,f1,f2⟩:=frame_cells hf2
       have g0:=frozen_of_row _ (w.heap.size+1+1+1+1) 0 _ _ hf2
       have g1:=frozen_of_row _ (w.heap.size+1+1+1+1) 1 _ _ hf2
       have g2:=frozen_of_row _ (w.heap.size+1+1+1+1) 2 _ _ hf2
       obtain ⟨hc,hf,ho⟩:=row23_set (x:=.int .i64 KK) (y:=.slice d4 ND c4) (u:=.int .i64 src.W) (v:=.int .i64 src.H) (z:=.slice f4 NP e4) hc15 hf15 (by omega)
       have HNc:Hid (VC∉[w.heap.size+1+1+1]∧VC+1∉[w.heap.size+1+1+1]∧VC∉[w.heap.size+1+1+1,w.heap.size+1+1+1+1]∧VC+1∉[w.heap.size+1+1+1,w.heap.size+1+1+1+1]):=lh (by have:=HVC.out;have:=HZ7.out.1;simp only [mSg,List.mem_cons,List.not_mem_nil,or_false];omega)
       have q0:=ho2.drew.cell v0 HNc.out.1
       have q1:=ho2.drew.cell v1 HNc.out.1
       have q2:=ho2.drew.cell t0 HNc.out.2.1
       have q3:=ho2.drew.cell t1 HNc.out.2.1
       have q4:=ho2.drew.cell t2 HNc.out.2.1
       have r0:=ho.drew.cell v0 HNc.out.2.2.1
       have r1:=ho.drew.cell v1 HNc.out.2.2.1
       have r2:=ho.drew.cell t0 HNc.out.2.2.2
       have r3:=ho.drew.cell t1 HNc.out.2.2.2
       have r4:=ho.drew.cell t2 HNc.out.2.2.2
       have HC:=lh (drew_row hc)
       have HF:=lh (drew_row hf)
       have HOx:=lh ho.drew
       clear hc hf hc2 hf2 hc15 hf15
       refine wp_region_held_drew (S:=(fun w'=>w'.cell? ⟨VC,0,none⟩=some (.int .i64 KK)∧w'.cell? ⟨VC,1,none⟩=some (.slice d4 ND c4)∧w'.cell? ⟨VC+1,0,none⟩=some (.int .i64 src.W)∧w'.cell? ⟨VC+1,1,none⟩=some (.int .i64 src.H)∧w'.cell? ⟨VC+1,2,none⟩=some (.slice f4 NP e4))) (by kernel_rfl) ?_ (fun hHeld=>?_)
       ·exact ⟨v0,v1,t0,t1,t2⟩
       refine tk 0 62 ?_
       refine tk 1 63 ?_
       refine rdy (rdn 2 (fun K hK=>?_) .nil)
       go_simp
       refine hK.out _ _ ?_ (fun hHeld=>?_)
       ·exact ⟨q0,q1,q2,q3,q4⟩
       clear hK K
       try simp only [Act.put,List.setIfInBounds_toArray,List.set_cons_zero,List.set_cons_succ]
       refine rdy (rdn 3 (fun K hK=>?_) .nil)
       go_simp
       refine hK.out _ _ ?_ (fun hHeld=>?_)
       ·exact ⟨r0,r1,r2,r3,r4⟩
       clear hK K
       try simp only [Act.put,List.setIfInBounds_toArray,List.set_cons_zero,List.set_cons_succ]
       refine tk 4 12 ?_
       refine wpAnyH_done (by kernel_rfl) ?_ _
       go_wp2_with fail
       refine bodyPost_ret (v:=.tuple #[.agg #[.int .i64 KK,.slice d4 ND c4],.agg #[.int .i64 src.W,.int .i64 src.H,.slice f4 NP e4],.nilIface]) (results_cct Tryz.results60 _ _ (w.heap.size+1+1+1) (w.heap.size+1+1+1+1) _ _ _ _ _ _ _ _ _ rfl rfl rfl HC.out HF.out Tryz.underlying69 rfl (by kernel_rfl) Tryz.underlying73 rfl (by kernel_rfl)) rfl (HPost.out _ _ ?_)
       rw [HE.out]
       have hzr:=HZr.out
       have hwz:=HQ7.out.size
       refine ⟨HQ9.out.trans HOx.out (U:=[]) (by simp) (fun g hg hlt=>by simp only [List.mem_cons,List.not_mem_nil,or_false] at hg;omega),.slice d4 ND c4,.slice f4 NP e4,rfl,?_,?_⟩
       ·have h4:=(HD.out.quiet HQ79.out).only HOx.out (fun g hg=>by simp only [List.mem_cons,List.not_mem_nil,or_false] at hg;exact .inl (by omega))
        exact h4.mono (by omega) (Nat.le_trans HQ79.out.size HOx.out.size)
       ·have h4:=(HY.out.quiet HQ79.out).only HOx.out (fun g hg=>by simp only [List.mem_cons,List.not_mem_nil,or_false] at hg;exact .inl (by omega))
        exact h4.mono (by omega) (Nat.le_trans HQ79.out.size HOx.out.size)
      ·go_wp2_with fail
       exact ⟨⟨q+1,by first | rfl | rw [hq16],lh (by have:=Hq.out;omega),lh (HNo.out hfit),lh (HQ67.out.q HQ79.out),lh (fun _=>HOk.out)⟩,by have:=HB.out;have:=Hq.out;simp only [intOf];omega⟩
    ·have hseen:=Hseen.out (by have:=HB.out;have:=Hq.out;omega)
     have HSeen:=lh hseen
     have HEnd:Hid (FE=.ok (if key then (⟨4,[]⟩,newF src.W src.H 128) else (⟨3,[]⟩,prev))):=lh (by rw [Hgo.out,show (a1+1-q).toNat=0 by omega];rfl)
     have HQ7:=lh (HQ6.out.q HQr.out)
     have HRc7:=lh (HQr.out.row HRc6.out)
     have HRf7:=lh (HQr.out.row HRf6.out)
     clear hseen
     cases key with
     | true =>
      have hsf:=HSeen.out.1
      have hn:newB src.W src.H 128=true:=newB_iff.2 ⟨⟨hsf.w0,hsf.w1,hsf.w8⟩,⟨hsf.h0,hsf.h1,hsf.h8⟩,by decide,by decide⟩
      have HNw:=lh (pnewD_any src.W src.H 128 wr hn)
      have HE:Hid (FE=.ok (⟨4,[]⟩,⟨src.W,src.H,(newF src.W src.H 128).pix⟩)):=lh HEnd.out
      obtain ⟨s0,s1,s2⟩:=frame_cells (HQr.out.row HRs6.out)
      obtain ⟨YP,hYP⟩:∃ z,z=(newF src.W src.H 128).pix:=⟨_,rfl⟩
      rw [← hYP] at HNw HE
      obtain ⟨NP,hNP⟩:∃ z,z=YP.length:=⟨_,rfl⟩
      rw [← hNP] at HNw
      clear hsf hn hYP hNP HEnd HSeen
      go_wp2_with fail
      clear s0 s1 s2 k0 k1 k2 k3 k4 k5 k6 k7
      go_at_call 84
      refine HNw.out.mono ?_
      rintro e w8 ⟨g9,cap9,rfl,ho8,hq8⟩
      have HOw:=lh ho8
      have HG:=lh (ho8.at g9 rfl)
      have HVf:Hid ((w8.alloc (.cells #[.int .i64 src.W,.int .i64 src.H,.slice (some ⟨g9,0,none⟩) NP cap9] 73)).heap[w8.heap.size]?=some (.cells #[.int .i64 src.W,.int .i64 src.H,.slice (some ⟨g9,0,none⟩) NP cap9] 73 (0,0))):=lh (heap_alloc_new w8 _)
      have HQn:=lh (Only.new w8 (.cells #[.int .i64 src.W,.int .i64 src.H,.slice (some ⟨g9,0,none⟩) NP cap9] 73))
      have HQ8:=lh hq8
      have HZ8:Hid (w.heap.size+1+1+1+1+1≤w8.heap.size):=lh (by have:=HZr.out;have:=hq8.size;omega)
      clear ho8 hq8 HNw
      go_wp2_with fail
      generalize hW9:World.alloc w8 _=w9 at *
      clear hW9
      obtain ⟨VC,hVC⟩:∃ z,z=w8.heap.size:=⟨_,rfl⟩
      have HVC:=lh hVC
      rw [← hVC] at HVf ⊢
      clear hVC
      have HQ79:=lh (HQ8.out.q HQn.out)
      have HQ9:=lh (HQ7.out.q HQ79.out)
      have hc15:w9.heap[w.heap.size+1+1+1]?=some (.cells #[.int .i64 0,.slice none 0 0] 69 (0,0)):=HQ79.out.row HRc7.out
      have hf15:w9.heap[w.heap.size+1+1+1+1]?=some (.cells #[.int .i64 0,.int .i64 0,.slice none 0 0] 73 (0,0)):=HQ79.out.row HRf7.out
      obtain ⟨t0,t1,t2⟩:=frame_cells HVf.out
      obtain ⟨x0,x1,y0,y1,-⟩:=row2 hc15
      obtain ⟨hc2,ho2⟩:=row2_set (x:=.int .i64 4) (y:=.slice none 0 0) hc15
      have hf2:=ho2.rowAt hf15 (by simp)
      obtain ⟨f0,f1,f2⟩:=frame_cells hf2
      have g0:=frozen_of_row _ (w.heap.size+1+1+1+1) 0 _ _ hf2
      have g1:=frozen_of_row _ (w.heap.size+1+1+1+1) 1 _ _ hf2
      have g2:=frozen_of_row _ (w.heap.size+1+1+1+1) 2 _ _ hf2
      obtain ⟨hc,hf,ho⟩:=row23_set (x:=.int .i64 4) (y:=.slice none 0 0) (u:=.int .i64 src.W) (v:=.int .i64 src.H) (z:=.slice (some ⟨g9,0,none⟩) NP cap9) hc15 hf15 (by omega)
      have HNc:Hid (VC∉[w.heap.size+1+1+1]∧VC∉[w.heap.size+1+1+1,w.heap.size+1+1+1+1]):=lh (by have:=HVC.out;have:=HZ8.out;simp only [mSg,List.mem_cons,List.not_mem_nil,or_false];omega)
      have q2:=ho2.drew.cell t0 HNc.out.1
      have q3:=ho2.drew.cell t1 HNc.out.1
      have q4:=ho2.drew.cell t2 HNc.out.1
      have r2:=ho.drew.cell t0 HNc.out.2
      have r3:=ho.drew.cell t1 HNc.out.2
      have r4:=ho.drew.cell t2 HNc.out.2
      have HC:=lh (drew_row hc)
      have HF:=lh (drew_row hf)
      have HOx:=lh ho.drew
      clear hc hf hc2 hf2 hc15 hf15
      refine wp_region_held_drew (S:=(fun w'=>w'.cell? ⟨VC,0,none⟩=some (.int .i64 src.W)∧w'.cell? ⟨VC,1,none⟩=some (.int .i64 src.H)∧w'.cell? ⟨VC,2,none⟩=some (.slice (some ⟨g9,0,none⟩) NP cap9))) (by kernel_rfl) ?_ (fun hHeld=>?_)
      ·exact ⟨t0,t1,t2⟩
      refine tk 0 73 ?_
      refine tk 1 74 ?_
      refine tk 2 75 ?_
      refine rdy (rdn 3 (fun K hK=>?_) .nil)
      go_simp
      refine hK.out _ _ ?_ (fun hHeld=>?_)
      ·exact ⟨q2,q3,q4⟩
      clear hK K
      try simp only [Act.put,List.setIfInBounds_toArray,List.set_cons_zero,List.set_cons_succ]
      refine rdy (rdn 4 (fun K hK=>?_) .nil)
      go_simp
      refine hK.out _ _ ?_ (fun hHeld=>?_)
      ·exact ⟨r2,r3,r4⟩
      clear hK K
      try simp only [Act.put,List.setIfInBounds_toArray,List.set_cons_zero,List.set_cons_succ]
      refine tk 5 12 ?_
      refine wpAnyH_done (by kernel_rfl) ?_ _
      go_wp2_with fail
      refine bodyPost_ret (v:=.tuple #[.agg #[.int .i64 4,.slice none 0 0],.agg #[.int .i64 src.W,.int .i64 src.H,.slice (some ⟨g9,0,none⟩) NP cap9],.nilIface]) (results_cct Tryz.results60 _ _ (w.heap.size+1+1+1) (w.heap.size+1+1+1+1) _ _ _ _ _ _ _ _ _ rfl rfl rfl HC.out HF.out Tryz.underlying69 rfl (by kernel_rfl) Tryz.underlying73 rfl (by kernel_rfl)) rfl (HPost.out _ _ ?_)
      rw [HE.out]
      have hzr:=HZr.out
      have hwz:=HQ7.out.size
      have hg9:=HG.out
      refine ⟨HQ9.out.trans HOx.out (U:=[]) (by simp) (fun g hg hlt=>by simp only [List.mem_cons,List.not_mem_nil,or_false] at hg;omega),.slice none 0 0,.slice (some ⟨g9,0,none⟩) NP cap9,rfl,Ints.nil _ _ _ _,?_⟩
      have h4:=(HOw.out.quiet HQn.out).only HOx.out (fun g hg e=>by simp only [Value.ownBlock,Option.some.injEq] at e;simp only [List.mem_cons,List.not_mem_nil,or_false] at hg;omega)
      exact h4.ints.mono (by omega) (Nat.le_refl _)
     | false =>
      have hpf:=(mates_ok (HSeen.out.2 rfl)).1
      have hl0:0<prev.pix.length:=by have h1:(prev.pix.length:Int)=prev.W*prev.H:=hpf.len;have h2:(8:Int)*8≤prev.W*prev.H:=Int.mul_le_mul hpf.w0 hpf.h0 (by omega) (by have:=hpf.w0;omega);omega
      have hl1:prev.pix.length≤1000000:=by have h1:(prev.pix.length:Int)=prev.W*prev.H:=hpf.len;have h2:prev.W*prev.H≤32*32:=Int.mul_le_mul hpf.w1 hpf.h1 (by have:=hpf.h0;omega) (by omega);omega
      have HClx:=lh (HCl.out wr HQ7.out hl0 hl1)
      have HE:Hid (FE=.ok (⟨3,[]⟩,prev)):=lh HEnd.out
      have HL0:=lh hl0
      have HRp7:=lh (HQr.out.row HRp6.out)
      obtain ⟨p0,p1,p2⟩:=frame_cells HRp7.out
      clear hpf hl0 hl1 HEnd HSeen
      go_wp2_with fail
      clear p0 p1 p2 k0 k1 k2 k3 k4 k5 k6 k7
      go_at_call 85
      refine HClx.out.mono ?_
      rintro e w8 ⟨v8,rfl,ho8,hq8⟩
      obtain ⟨g9,cap9,rfl,hg9a,hg9b⟩:=ho8.form HL0.out
      have HOw:=lh ho8
      have HG:=lh (And.intro hg9a hg9b)
      have HQ8:=lh hq8
      have HZ8:Hid (w.heap.size+1+1+1+1+1≤w8.heap.size):=lh (by have:=HZr.out;have:=hq8.size;omega)
      have hrp:=hq8.row HRp7.out
      have HRpn:=lh (heap_setCell_same _ (w.heap.size+1) 2 _ _ (.slice (some ⟨g9,0,none⟩) prev.pix.length cap9) hrp)
      have HQn:Hid (Only [w.heap.size+1] w8 (w8.setCell ⟨w.heap.size+1,2,none⟩ (.slice (some ⟨g9,0,none⟩) prev.pix.length cap9))):=lh ((Only.refl _ _).setCell (by simp) _)
      obtain ⟨p0,p1,p2⟩:=frame_cells hrp
      have u2:=frozen_of_row _ (w.heap.size+1) 2 _ _ hrp
      clear ho8 hq8 hg9a hg9b hrp HClx
      go_wp2_with fail
      generalize hW9:World.setCell w8 _ _=w9 at *
      clear hW9 p0 p1 p2 u2
      have HVf:Hid (w9.heap[w.heap.size+1]?=some (.cells #[.int .i64 prev.W,.int .i64 prev.H,.slice (some ⟨g9,0,none⟩) prev.pix.length cap9] 73 (0,0))):=HRpn
      have hc15:w9.heap[w.heap.size+1+1+1]?=some (.cells #[.int .i64 0,.slice none 0 0] 69 (0,0)):=HQn.out.rowAt (HQ8.out.row HRc7.out) (by simp;omega)
      have hf15:w9.heap[w.heap.size+1+1+1+1]?=some (.cells #[.int .i64 0,.int .i64 0,.slice none 0 0] 73 (0,0)):=HQn.out.rowAt (HQ8.out.row HRf7.out) (by simp;omega)
      have HQ9:Hid (Only [] w w9):=lh ((HQ7.out.q HQ8.out).trans HQn.out (U:=[]) (by simp) (fun g hg hlt=>by simp only [mSg] at hg;omega))
      obtain ⟨NP,hNP⟩:∃ z,z=prev.pix.length:=⟨_,rfl⟩
      rw [← hNP] at HVf HOw ⊢
      clear hNP HRpn
      obtain ⟨t0,t1,t2⟩:=frame_cells HVf.out
      obtain ⟨x0,x1,y0,y1,-⟩:=row2 hc15
      obtain ⟨hc2,ho2⟩:=row2_set (x:=.int .i64 3) (y:=.slice none 0 0) hc15
      have hf2:=ho2.rowAt hf15 (by simp)
      obtain ⟨f0,f1,f2⟩:=frame_cells hf2
      have g0:=frozen_of_row _ (w.heap.size+1+1+1+1) 0 _ _ hf2
      have g1:=frozen_of_row _ (w.heap.size+1+1+1+1) 1 _ _ hf2
      have g2:=frozen_of_row _ (w.heap.size+1+1+1+1) 2 _ _ hf2
      obtain ⟨hc,hf,ho⟩:=row23_set (x:=.int .i64 3) (y:=.slice none 0 0) (u:=.int .i64 prev.W) (v:=.int .i64 prev.H) (z:=.slice (some ⟨g9,0,none⟩) NP cap9) hc15 hf15 (by omega)
      have HNc:Hid (w.heap.size+1∉[w.heap.size+1+1+1]∧w.heap.size+1∉[w.heap.size+1+1+1,w.heap.size+1+1+1+1]):=lh (by simp only [mSg,List.mem_cons,List.not_mem_nil,or_false];omega)
      have q2:=ho2.drew.cell t0 HNc.out.1
      have q3:=ho2.drew.cell t1 HNc.out.1
      have q4:=ho2.drew.cell t2 HNc.out.1
      have r2:=ho.drew.cell t0 HNc.out.2
      have r3:=ho.drew.cell t1 HNc.out.2
      have r4:=ho.drew.cell t2 HNc.out.2
      have HC:=lh (drew_row hc)
      have HF:=lh (drew_row hf)
      have HOx:=lh ho.drew
      clear hc hf hc2 hf2 hc15 hf15
      refine wp_region_held_drew (S:=(fun w'=>w'.cell? ⟨w.heap.size+1,0,none⟩=some (.int .i64 prev.W)∧w'.cell? ⟨w.heap.size+1,1,none⟩=some (.int .i64 prev.H)∧w'.cell? ⟨w.heap.size+1,2,none⟩=some (.slice (some ⟨g9,0,none⟩) NP cap9))) (by kernel_rfl) ?_ (fun hHeld=>?_)
      ·exact ⟨t0,t1,t2⟩
      refine tk 0 80 ?_
      refine tk 1 81 ?_
      refine rdy (rdn 2 (fun K hK=>?_) .nil)
      go_simp
      refine hK.out _ _ ?_ (fun hHeld=>?_)
      ·exact ⟨q2,q3,q4⟩
      clear hK K
      try simp only [Act.put,List.setIfInBounds_toArray,List.set_cons_zero,List.set_cons_succ]
      refine rdy (rdn 3 (fun K hK=>?_) .nil)
      go_simp
      refine hK.out _ _ ?_ (fun hHeld=>?_)
      ·exact ⟨r2,r3,r4⟩
      clear hK K
      try simp only [Act.put,List.setIfInBounds_toArray,List.set_cons_zero,List.set_cons_succ]
      refine tk 4 12 ?_
      refine wpAnyH_done (by kernel_rfl) ?_ _
      go_wp2_with fail
      refine bodyPost_ret (v:=.tuple #[.agg #[.int .i64 3,.slice none 0 0],.agg #[.int .i64 prev.W,.int .i64 prev.H,.slice (some ⟨g9,0,none⟩) NP cap9],.nilIface]) (results_cct Tryz.results60 _ _ (w.heap.size+1+1+1) (w.heap.size+1+1+1+1) _ _ _ _ _ _ _ _ _ rfl rfl rfl HC.out HF.out Tryz.underlying69 rfl (by kernel_rfl) Tryz.underlying73 rfl (by kernel_rfl)) rfl (HPost.out _ _ ?_)
      rw [HE.out]
      have hzr:=HZr.out
      have hwz:=HQ7.out.size
      have hg9:=HG.out
      refine ⟨HQ9.out.trans HOx.out (U:=[]) (by simp) (fun g hg hlt=>by simp only [List.mem_cons,List.not_mem_nil,or_false] at hg;omega),.slice none 0 0,.slice (some ⟨g9,0,none⟩) NP cap9,rfl,Ints.nil _ _ _ _,?_⟩
      have h4:=(HOw.out.only HQn.out (fun g hg e=>by simp only [Value.ownBlock,Option.some.injEq] at e;rw [mSg] at hg;omega)).only HOx.out (fun g hg e=>by simp only [Value.ownBlock,Option.some.injEq] at e;simp only [List.mem_cons,List.not_mem_nil,or_false] at hg;omega)
      exact h4.ints.mono (by omega) (Nat.le_refl _)
end
theorem fr_info (a b c:Value):(Tryz.prog.info? 73).map (·.size)=some (#[a,b,c]:Array Value).size:=by show _=some 3;kernel_rfl
theorem cd_info (a b:Value):(Tryz.prog.info? 69).map (·.size)=some (#[a,b]:Array Value).size:=by show _=some 2;kernel_rfl
theorem wp_store_rowQ {w:World} {o:Oper} {a:Act} {K:Act→World→Prop} {Q:Exit→Act→World→Prop} (x y:Operand) (t:TypeId) (ho:o.op=.store t x y)
  {g:Nat} {c c':Array Value} {ty:TypeId} (hx:a.eval x=.pointer (some ⟨g,0,none⟩)) (hy:a.eval y=.agg c') (hr:w.heap[g]?=some (.cells c ty (0,0))) (hi:(Tryz.prog.info? t).map (·.size)=some c'.size) (hs:c.size=c'.size) (h1:c'.all (·.oneCell')=true)
  (h:∀ w',Only [g] w w'→w'.heap[g]?=some (.cells c' ty (0,0))→K (a.put o.dst undef) w'):o.wp Tryz.prog a w K Q:=by
 have h2:=h _ (Only.setRow (Only.refl _ _) (fun _=>by simp) _) (setRow_heap _ _ _ _ _ _ hr)
 unfold Oper.wp execOp
 simp only [ho,hx,hy,Instr.storeAt,Instr.sureAddr,Sem.run_bind,Sem.run_pure,Result.andThen_ok,run_storeVar_row w g ty t c c' hr hi hs h1]
 exact h2
/-- a frame of one sample -/
def plainF (v:Int):FrameD:=⟨8,8,List.replicate 64 v⟩
section
end
set_option linter.constructorNameAsVariable false
/-- nothing costs 8 bytes or less -/
theorem fitGo_none {src prev:FrameD} {key:Bool} {reach:Int}:∀ (n:Nat) (q:Int),(∀ i:Nat,i<n→checkE src prev key (q+i) reach=none)→fitGo src prev key reach 8 n q=.ok (if key then (⟨4,[]⟩,newF src.W src.H 128) else (⟨3,[]⟩,prev))
 | 0,_,_=>rfl
 | n+1,q,h=>by
  have h0:=h 0 (by omega)
  rw [show q+((0:Nat):Int)=q by omega] at h0
  rw [fitGo_step h0 (by unfold codedE;simp only [List.length_cons];omega)]
  exact fitGo_none n (q+1) (fun i hi=>by have:=h (i+1) (by omega);rw [show q+((i+1:Nat):Int)=q+1+(i:Int) by omega] at this;exact this)
theorem checkE_of {src prev:FrameD} {key:Bool} {q reach:Int} (h1:mayF src=true) (h2:(!key && !matesB prev src.W src.H)=false) (h3:0≤q∧q≤15) (h4:0≤reach∧reach≤7):checkE src prev key q reach=none:=by
 unfold checkE
 rw [if_neg (by rw [h1];decide),if_neg (by rw [h2];decide),if_neg (by omega)]
theorem plain_may (v:Int) (h:0≤v∧v≤255):mayF (plainF v)=true:=mayF_iff.2 ⟨(by decide:(8:Int)≤8),(by decide:(8:Int)≤32),(by decide:(8:Int) % 8=0),(by decide:(8:Int)≤8),(by decide:(8:Int)≤32),(by decide:(8:Int) % 8=0),by rfl,fun x hx=>by have:=(List.mem_replicate.1 hx).2;omega⟩
end Go.Proofs.YtkigikallkpbcaaGreatDoor
