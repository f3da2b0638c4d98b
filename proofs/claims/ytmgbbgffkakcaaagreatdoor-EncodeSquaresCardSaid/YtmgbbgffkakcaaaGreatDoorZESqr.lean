/- encode.Square: a square coded by itself. Conditions: frames that lie. -/
import Derived.Test.YtmgbbgffkakcaaaGreatDoorT1
import Derived.Test.YtmgbbgffkakcaaaGreatDoorZECho
import Derived.Test.YtmgbbgffkakcaaaGreatDoorA8
import Derived.Test.YtmgbbgffkakcaaaGreatDoorK6
namespace Go.Proofs.YtmgbbgffkakcaaaGreatDoor
open Go.RowKit
set_option linter.unusedVariables false
set_option linter.unusedSimpArgs false
set_option maxRecDepth 100000
set_option maxHeartbeats 16000000
def SqrP (w:World) (r:Except Int SqD) (e:Ending) (w':World):Prop :=
 match r with
 | .error c=>e=.returned (.tuple #[.agg (sqL 0 0 [0,0,0,0] 0 0 nilS [nilS,nilS,nilS,nilS]).toArray,.iface 36 (.int .i64 c)])∧Only [] w w'
 | .ok s=>∃ lv vs,e=.returned (.tuple #[.agg (sqL s.kind s.mode s.modes s.vx s.vy lv vs).toArray,.nilIface])∧s.modes.length=4∧SqIn w.heap.size w'.heap.size w' lv vs s.large s.small∧Only [] w w'
section
theorem qESqr0 {p:Prop} (h:p:=by
 have HAll:=lh (HQ.out.trans ho1 (U:=[]) (by simp) (fun g hg hlt=>by rw [mSg] at hg;omega))
 have HIz:=lh (sqL_info (k:=0) (mo:=0) (ms:=[0,0,0,0]) (vx:=0) (vy:=0) (lv:=nilS) (vs:=[nilS,nilS,nilS,nilS]) rfl rfl)
 have HOz:=lh (sqL_one (k:=0) (mo:=0) (ms:=[0,0,0,0]) (vx:=0) (vy:=0) (lv:=nilS) (vs:=[nilS,nilS,nilS,nilS]) rfl nils_one)
 clear ho1
 go_wp2_with (first
  | (refine wpList_store_row rfl (.tmp 16) (.tmp 70) 65 rfl rfl rfl HO.out HIz.out rfl HOz.out ?_)
  | fail)
 refine bodyPost_ret (v:=.tuple #[.agg (sqL 0 0 [0,0,0,0] 0 0 nilS [nilS,nilS,nilS,nilS]).toArray,.iface 36 (.int .i64 3)]) (results_cell_row2 Tryz.results28 _ _ (w.heap.size+1+1+1) _ _ _ _ _ rfl rfl HO1.out HUnd.out rfl HIz.out) rfl (HPost.out _ _ ⟨rfl,HAll.out⟩)):p:=h
theorem qESqr1 {p:Prop} (h:p:=by
 have HO1:Hid ((w7.setRow (w.heap.size+1+1+1) (sqL 0 0 [0,0,0,0] 0 0 nilS [nilS,nilS,nilS,nilS]).toArray).heap[w.heap.size+1+1+1]?=some (.cells (sqL 0 0 [0,0,0,0] 0 0 nilS [nilS,nilS,nilS,nilS]).toArray 65 (0,0))):=lh (setRow_heap w7 (w.heap.size+1+1+1) _ _ _ _ HO.out)
 have ho1:=Only.setRow (S:=[w.heap.size+1+1+1]) (Only.refl _ w7) (g:=w.heap.size+1+1+1) (fun _=>by simp) (sqL 0 0 [0,0,0,0] 0 0 nilS [nilS,nilS,nilS,nilS]).toArray
 have HAll:=lh (HQ.out.trans ho1 (U:=[]) (by simp) (fun g hg hlt=>by rw [mSg] at hg;omega))
 have HIz:=lh (sqL_info (k:=0) (mo:=0) (ms:=[0,0,0,0]) (vx:=0) (vy:=0) (lv:=nilS) (vs:=[nilS,nilS,nilS,nilS]) rfl rfl)
 have HOz:=lh (sqL_one (k:=0) (mo:=0) (ms:=[0,0,0,0]) (vx:=0) (vy:=0) (lv:=nilS) (vs:=[nilS,nilS,nilS,nilS]) rfl nils_one)
 clear ho1
 go_wp2_with (first
  | (refine wpList_store_row rfl (.tmp 16) (.tmp 43) 65 rfl rfl rfl HO.out HIz.out rfl HOz.out ?_)
  | fail)
 refine bodyPost_ret (v:=.tuple #[.agg (sqL 0 0 [0,0,0,0] 0 0 nilS [nilS,nilS,nilS,nilS]).toArray,.iface 36 (.int .i64 14)]) (results_cell_row2 Tryz.results28 _ _ (w.heap.size+1+1+1) _ _ _ _ _ rfl rfl HO1.out HUnd.out rfl HIz.out) rfl (HPost.out _ _ ⟨rfl,HAll.out⟩)):p:=h
theorem qESqr2 {p:Prop} (h:p:=by
 have HAll:=lh (HQ.out.trans ho1 (U:=[]) (by simp) (fun g hg hlt=>by rw [mSg] at hg;omega))
 have HIz:=lh (sqL_info (k:=0) (mo:=0) (ms:=[0,0,0,0]) (vx:=0) (vy:=0) (lv:=nilS) (vs:=[nilS,nilS,nilS,nilS]) rfl rfl)
 have HOz:=lh (sqL_one (k:=0) (mo:=0) (ms:=[0,0,0,0]) (vx:=0) (vy:=0) (lv:=nilS) (vs:=[nilS,nilS,nilS,nilS]) rfl nils_one)
 clear ho1
 go_wp2_with (first
  | (refine wpList_store_row rfl (.tmp 16) (.tmp 28) 65 rfl rfl rfl HO.out HIz.out rfl HOz.out ?_)
  | fail)
 refine bodyPost_ret (v:=.tuple #[.agg (sqL 0 0 [0,0,0,0] 0 0 nilS [nilS,nilS,nilS,nilS]).toArray,.iface 36 (.int .i64 2)]) (results_cell_row2 Tryz.results28 _ _ (w.heap.size+1+1+1) _ _ _ _ _ rfl rfl HO1.out HUnd.out rfl HIz.out) rfl (HPost.out _ _ ⟨rfl,HAll.out⟩)):p:=h
theorem qESqr3 {p:Prop} (h:p:=by
 have HO1:Hid ((w8.setRow (w.heap.size+1+1+1) (sqL 0 0 [0,0,0,0] 0 0 nilS [nilS,nilS,nilS,nilS]).toArray).heap[w.heap.size+1+1+1]?=some (.cells (sqL 0 0 [0,0,0,0] 0 0 nilS [nilS,nilS,nilS,nilS]).toArray 65 (0,0))):=lh (setRow_heap w8 (w.heap.size+1+1+1) _ _ _ _ HO.out)
 have ho1:=Only.setRow (S:=[w.heap.size+1+1+1]) (Only.refl _ w8) (g:=w.heap.size+1+1+1) (fun _=>by simp) (sqL 0 0 [0,0,0,0] 0 0 nilS [nilS,nilS,nilS,nilS]).toArray
 exact qESqr0):p:=h
theorem esq_all {lo hi lo2 hi2 lo3 hi3:Nat} {sv cv pv:Value} {src prev:FrameD} {cW cH:Int} {cp:List Int} {w:World} {key:Bool} {x y q r:Int} (is:Ints .i64 lo hi w sv src.pix) (ic:Ints .i64 lo2 hi2 w cv cp) (ip:Ints .i64 lo3 hi3 w pv prev.pix) (hhi3:hi3≤w.heap.size) :
  Calls Tryz.prog 28 #[.agg #[.int .i64 src.W,.int .i64 src.H,sv],.agg #[.int .i64 cW,.int .i64 cH,cv],.agg #[.int .i64 prev.W,.int .i64 prev.H,pv],.bool key,.int .i64 x,.int .i64 y,.int .i64 q,.int .i64 r] w (SqrP w (squareE src ⟨cW,cH,cp⟩ prev key x y q r)):=by
 refine hidQ fun Q HPost=>?_
 have IS:=lh is
 have IC:=lh ic
 have IP:=lh ip
 obtain ⟨sa,sc,rfl,-⟩:=is.open
 obtain ⟨ca,cc,rfl,-⟩:=ic.open
 obtain ⟨pa,pc,rfl,-⟩:=ip.open
 have Hhi:=lh hhi3
 clear hhi3
 clear is ic ip
 have HQ:Hid (Only [] w ((((w.alloc (.cells #[.int .i64 src.W,.int .i64 src.H,.slice sa src.pix.length sc] 24)).alloc (.cells #[.int .i64 cW,.int .i64 cH,.slice ca cp.length cc] 24)).alloc (.cells #[.int .i64 prev.W,.int .i64 prev.H,.slice pa prev.pix.length pc] 24)).alloc (.cells #[.int .i64 0,.int .i64 0,.int .i64 0,.int .i64 0,.int .i64 0,.int .i64 0,.int .i64 0,.int .i64 0,.slice none 0 0,.slice none 0 0,.slice none 0 0,.slice none 0 0,.slice none 0 0] 65))):=lh ((((Only.new w _).alloc _).alloc _).alloc _)
 have HF0:Hid (((((w.alloc (.cells #[.int .i64 src.W,.int .i64 src.H,.slice sa src.pix.length sc] 24)).alloc (.cells #[.int .i64 cW,.int .i64 cH,.slice ca cp.length cc] 24)).alloc (.cells #[.int .i64 prev.W,.int .i64 prev.H,.slice pa prev.pix.length pc] 24)).alloc (.cells #[.int .i64 0,.int .i64 0,.int .i64 0,.int .i64 0,.int .i64 0,.int .i64 0,.int .i64 0,.int .i64 0,.slice none 0 0,.slice none 0 0,.slice none 0 0,.slice none 0 0,.slice none 0 0] 65)).heap[w.heap.size]?=some (.cells #[.int .i64 src.W,.int .i64 src.H,.slice sa src.pix.length sc] 24 (0,0))):=lh ((((Only.new (w.alloc _) _).alloc _).alloc _).row (heap_alloc_new w _))
 have HF1:Hid (((((w.alloc (.cells #[.int .i64 src.W,.int .i64 src.H,.slice sa src.pix.length sc] 24)).alloc (.cells #[.int .i64 cW,.int .i64 cH,.slice ca cp.length cc] 24)).alloc (.cells #[.int .i64 prev.W,.int .i64 prev.H,.slice pa prev.pix.length pc] 24)).alloc (.cells #[.int .i64 0,.int .i64 0,.int .i64 0,.int .i64 0,.int .i64 0,.int .i64 0,.int .i64 0,.int .i64 0,.slice none 0 0,.slice none 0 0,.slice none 0 0,.slice none 0 0,.slice none 0 0] 65)).heap[w.heap.size+1]?=some (.cells #[.int .i64 cW,.int .i64 cH,.slice ca cp.length cc] 24 (0,0))):=lh (((Only.new ((w.alloc _).alloc _) _).alloc _).row (heap_alloc_new' (by simp)))
 have HF2:Hid (((((w.alloc (.cells #[.int .i64 src.W,.int .i64 src.H,.slice sa src.pix.length sc] 24)).alloc (.cells #[.int .i64 cW,.int .i64 cH,.slice ca cp.length cc] 24)).alloc (.cells #[.int .i64 prev.W,.int .i64 prev.H,.slice pa prev.pix.length pc] 24)).alloc (.cells #[.int .i64 0,.int .i64 0,.int .i64 0,.int .i64 0,.int .i64 0,.int .i64 0,.int .i64 0,.int .i64 0,.slice none 0 0,.slice none 0 0,.slice none 0 0,.slice none 0 0,.slice none 0 0] 65)).heap[w.heap.size+1+1]?=some (.cells #[.int .i64 prev.W,.int .i64 prev.H,.slice pa prev.pix.length pc] 24 (0,0))):=lh ((Only.new (((w.alloc _).alloc _).alloc _) _).row (heap_alloc_new' (by simp)))
 have HO:Hid (((((w.alloc (.cells #[.int .i64 src.W,.int .i64 src.H,.slice sa src.pix.length sc] 24)).alloc (.cells #[.int .i64 cW,.int .i64 cH,.slice ca cp.length cc] 24)).alloc (.cells #[.int .i64 prev.W,.int .i64 prev.H,.slice pa prev.pix.length pc] 24)).alloc (.cells #[.int .i64 0,.int .i64 0,.int .i64 0,.int .i64 0,.int .i64 0,.int .i64 0,.int .i64 0,.int .i64 0,.slice none 0 0,.slice none 0 0,.slice none 0 0,.slice none 0 0,.slice none 0 0] 65)).heap[w.heap.size+1+1+1]?=some (.cells (sqL 0 0 [0,0,0,0] 0 0 nilS [nilS,nilS,nilS,nilS]).toArray 65 (0,0))):=lh (heap_alloc_new' (by simp))
 have HUnd:=lh Tryz.underlying65
 obtain ⟨r0,r1,r2⟩:=frame_cells HF0.out
 go_enter Tryz.func28,Tryz.ntmps28
 go_wp2_with fail
 generalize hW4:World.alloc (World.alloc (World.alloc (World.alloc w _) _) _) _=W4 at *
 clear hW4
 go_at_call 24
 refine (pmay_any src.W src.H (IS.out.quiet HQ.out)).mono ?_
 rintro e w6 ⟨rfl,hq⟩
 replace HF0:=lh (hq.row HF0.out)
 replace HF1:=lh (hq.row HF1.out)
 replace HF2:=lh (hq.row HF2.out)
 replace HO:=lh (hq.row HO.out)
 replace HQ:=lh (HQ.out.q hq)
 clear hq
 clear r0 r1 r2
 rw [show mayF ⟨src.W,src.H,src.pix⟩=mayF src from rfl]
 cases hms:mayF src with
 | false =>
  rw [show squareE src ⟨cW,cH,cp⟩ prev key x y q r=.error 2 from by unfold squareE;rw [if_pos (by simp [hms])]] at HPost
  clear hms
  have HO1:Hid ((w6.setRow (w.heap.size+1+1+1) (sqL 0 0 [0,0,0,0] 0 0 nilS [nilS,nilS,nilS,nilS]).toArray).heap[w.heap.size+1+1+1]?=some (.cells (sqL 0 0 [0,0,0,0] 0 0 nilS [nilS,nilS,nilS,nilS]).toArray 65 (0,0))):=lh (setRow_heap w6 (w.heap.size+1+1+1) _ _ _ _ HO.out)
  have ho1:=Only.setRow (S:=[w.heap.size+1+1+1]) (Only.refl _ w6) (g:=w.heap.size+1+1+1) (fun _=>by simp) (sqL 0 0 [0,0,0,0] 0 0 nilS [nilS,nilS,nilS,nilS]).toArray
  exact qESqr2
 | true =>
  have Hms:=lh hms
  clear hms
  obtain ⟨s0,s1,s2⟩:=frame_cells HF1.out
  go_wp2_with fail
  go_at_call 24
  refine (pmay_any cW cH (IC.out.quiet HQ.out)).mono ?_
  rintro e w7 ⟨rfl,hq⟩
  replace HF0:=lh (hq.row HF0.out)
  replace HF1:=lh (hq.row HF1.out)
  replace HF2:=lh (hq.row HF2.out)
  replace HO:=lh (hq.row HO.out)
  replace HQ:=lh (HQ.out.q hq)
  clear hq
  clear s0 s1 s2
  cases hmc:mayF (⟨cW,cH,cp⟩:FrameD) with
  | false =>
   rw [show squareE src ⟨cW,cH,cp⟩ prev key x y q r=.error 2 from by unfold squareE;rw [if_pos (by simp [hmc])]] at HPost
   clear hmc
   have HO1:Hid ((w7.setRow (w.heap.size+1+1+1) (sqL 0 0 [0,0,0,0] 0 0 nilS [nilS,nilS,nilS,nilS]).toArray).heap[w.heap.size+1+1+1]?=some (.cells (sqL 0 0 [0,0,0,0] 0 0 nilS [nilS,nilS,nilS,nilS]).toArray 65 (0,0))):=lh (setRow_heap w7 (w.heap.size+1+1+1) _ _ _ _ HO.out)
   have ho1:=Only.setRow (S:=[w.heap.size+1+1+1]) (Only.refl _ w7) (g:=w.heap.size+1+1+1) (fun _=>by simp) (sqL 0 0 [0,0,0,0] 0 0 nilS [nilS,nilS,nilS,nilS]).toArray
   exact qESqr2
  | true =>
   have Hm:Hid (mayF src=true∧mayF (⟨cW,cH,cp⟩:FrameD)=true):=lh ⟨Hms.out,hmc⟩
   clear Hms hmc
   by_cases hW:cW=src.W
   ·subst hW
    by_cases hH:cH=src.H
    ·subst hH
     obtain ⟨r0,r1,r2⟩:=frame_cells HF0.out
     obtain ⟨s0,s1,s2⟩:=frame_cells HF1.out
     obtain ⟨u0,u1,u2⟩:=frame_cells HF2.out
     go_wp2_with fail
     clear r0 r1 r2 s0 s1 s2 u0 u1 u2
     go_at_call 37
     refine (echeck_any key q r (IS.out.quiet HQ.out) (IP.out.quiet HQ.out)).mono ?_
     rintro e w8 ⟨⟨u,rfl,hu⟩,hq⟩
     replace HF0:=lh (hq.row HF0.out)
     replace HF1:=lh (hq.row HF1.out)
     replace HF2:=lh (hq.row HF2.out)
     replace HO:=lh (hq.row HO.out)
     replace HQ:=lh (HQ.out.q hq)
     clear hq
     cases hck:checkE src prev key q r with
     | some c =>
      rw [hck] at hu
      have Hck:=lh hck
      clear hck
      obtain rfl:u=.iface 36 (.int .i64 c):=hu
      rw [show squareE src ⟨src.W,src.H,cp⟩ prev key x y q r=.error c from by unfold squareE;rw [if_neg (by simp [Hm.out]),if_neg (by simp),Hck.out]] at HPost
      have HO1:Hid ((w8.setRow (w.heap.size+1+1+1) (sqL 0 0 [0,0,0,0] 0 0 nilS [nilS,nilS,nilS,nilS]).toArray).heap[w.heap.size+1+1+1]?=some (.cells (sqL 0 0 [0,0,0,0] 0 0 nilS [nilS,nilS,nilS,nilS]).toArray 65 (0,0))):=lh (setRow_heap w8 (w.heap.size+1+1+1) _ _ _ _ HO.out)
      have ho1:=Only.setRow (S:=[w.heap.size+1+1+1]) (Only.refl _ w8) (g:=w.heap.size+1+1+1) (fun _=>by simp) (sqL 0 0 [0,0,0,0] 0 0 nilS [nilS,nilS,nilS,nilS]).toArray
      have HAll:=lh (HQ.out.trans ho1 (U:=[]) (by simp) (fun g hg hlt=>by rw [mSg] at hg;omega))
      have HIz:=lh (sqL_info (k:=0) (mo:=0) (ms:=[0,0,0,0]) (vx:=0) (vy:=0) (lv:=nilS) (vs:=[nilS,nilS,nilS,nilS]) rfl rfl)
      have HOz:=lh (sqL_one (k:=0) (mo:=0) (ms:=[0,0,0,0]) (vx:=0) (vy:=0) (lv:=nilS) (vs:=[nilS,nilS,nilS,nilS]) rfl nils_one)
      clear ho1
      go_wp2_with (first
       | (refine wpList_store_row rfl (.tmp 16) (.tmp 53) 65 rfl rfl rfl HO.out HIz.out rfl HOz.out ?_)
       | fail)
      refine bodyPost_ret (v:=.tuple #[.agg (sqL 0 0 [0,0,0,0] 0 0 nilS [nilS,nilS,nilS,nilS]).toArray,.iface 36 (.int .i64 c)]) (results_cell_row2 Tryz.results28 _ _ (w.heap.size+1+1+1) _ _ _ _ _ rfl rfl HO1.out HUnd.out rfl HIz.out) rfl (HPost.out _ _ ⟨rfl,HAll.out⟩)
     | none =>
      rw [hck] at hu
      have Hck:=lh hck
      clear hck
      obtain rfl:u=.nilIface:=hu
      by_cases hx8:x.tmod 8=0
      ·by_cases hy8:y.tmod 8=0
       ·obtain ⟨r0,r1,r2⟩:=frame_cells HF0.out
        have Hxy:=lh (And.intro hx8 hy8)
        go_wp2_with fail
        clear hx8 hy8 r0 r1 r2
        have hfo:=mayF_iff.1 Hm.out.1
        have Hpl:=lh (pin_any src.W src.H x y 8 (.slice sa src.pix.length sc) w8 ⟨hfo.w0,hfo.w1⟩ ⟨hfo.h0,hfo.h1⟩ ⟨by omega,by omega⟩)
        clear hfo
        go_at_call 65
        refine Hpl.out.mono ?_
        rintro e w9 ⟨rfl,hq⟩
        clear Hpl
        replace HF0:=lh (hq.row HF0.out)
        replace HF1:=lh (hq.row HF1.out)
        replace HF2:=lh (hq.row HF2.out)
        replace HO:=lh (hq.row HO.out)
        replace HQ:=lh (HQ.out.q hq)
        clear hq
        cases hli:liesD src.W src.H x y 8 with
        | false =>
         rw [show squareE src ⟨src.W,src.H,cp⟩ prev key x y q r=.error 3 from by unfold squareE;rw [if_neg (by simp [Hm.out]),if_neg (by simp),Hck.out];simp only;rw [if_pos (by simp [placeB,hli])]] at HPost
         clear hli
         have HO1:Hid ((w9.setRow (w.heap.size+1+1+1) (sqL 0 0 [0,0,0,0] 0 0 nilS [nilS,nilS,nilS,nilS]).toArray).heap[w.heap.size+1+1+1]?=some (.cells (sqL 0 0 [0,0,0,0] 0 0 nilS [nilS,nilS,nilS,nilS]).toArray 65 (0,0))):=lh (setRow_heap w9 (w.heap.size+1+1+1) _ _ _ _ HO.out)
         have ho1:=Only.setRow (S:=[w.heap.size+1+1+1]) (Only.refl _ w9) (g:=w.heap.size+1+1+1) (fun _=>by simp) (sqL 0 0 [0,0,0,0] 0 0 nilS [nilS,nilS,nilS,nilS]).toArray
         exact qESqr0
        | true =>
         rw [show squareE src ⟨src.W,src.H,cp⟩ prev key x y q r=.ok (chooseE src prev key q.toNat r.toNat ⟨src.W,src.H,cp⟩ x y) from by unfold squareE;rw [if_neg (by simp [Hm.out]),if_neg (by simp),Hck.out];simp only;rw [if_neg (by simp [placeB,hli,Hxy.out])]] at HPost
         have hkn:=askE_none Hck.out
         have hpi:(0≤x∧x+8≤src.W)∧0≤y∧y+8≤src.H:=by simp only [liesD,decide_eq_true_eq] at hli;omega
         have HCq:Hid (∀ W:World,Only [] w W→Calls Tryz.prog 40 #[.agg #[.int .i64 src.W,.int .i64 src.H,.slice sa src.pix.length sc],.agg #[.int .i64 src.W,.int .i64 src.H,.slice ca cp.length cc],.agg #[.int .i64 prev.W,.int .i64 prev.H,.slice pa prev.pix.length pc],.bool key,.int .i64 x,.int .i64 y,.int .i64 q,.int .i64 r] W fun e w'=>(∃ lv vs,e=.returned (.agg (sqL (chooseE src prev key q.toNat r.toNat ⟨src.W,src.H,cp⟩ x y).kind (chooseE src prev key q.toNat r.toNat ⟨src.W,src.H,cp⟩ x y).mode (chooseE src prev key q.toNat r.toNat ⟨src.W,src.H,cp⟩ x y).modes (chooseE src prev key q.toNat r.toNat ⟨src.W,src.H,cp⟩ x y).vx (chooseE src prev key q.toNat r.toNat ⟨src.W,src.H,cp⟩ x y).vy lv vs).toArray)∧(chooseE src prev key q.toNat r.toNat ⟨src.W,src.H,cp⟩ x y).modes.length=4∧SqIn W.heap.size w'.heap.size w' lv vs (chooseE src prev key q.toNat r.toNat ⟨src.W,src.H,cp⟩ x y).large (chooseE src prev key q.toNat r.toNat ⟨src.W,src.H,cp⟩ x y).small∧Only [] W w')):=lh (fun W o=>by
          have h:=choose_any (q:=q.toNat) (r:=r.toNat) key (mayF_iff.1 Hm.out.1) (mayF_iff.1 Hm.out.2) hkn.1 rfl rfl (IS.out.quiet o) (IC.out.quiet o) (IP.out.quiet o) x y hpi.1 hpi.2 (by omega) (by omega) (Nat.le_trans Hhi.out o.size)
          rw [show ((q.toNat:Nat):Int)=q by omega,show ((r.toNat:Nat):Int)=r by omega] at h
          exact h)
         clear hkn hpi hli
         obtain ⟨r0,r1,r2⟩:=frame_cells HF0.out
         obtain ⟨s0,s1,s2⟩:=frame_cells HF1.out
         obtain ⟨u0,u1,u2⟩:=frame_cells HF2.out
         go_wp2_with fail
         clear r0 r1 r2 s0 s1 s2 u0 u1 u2
         have HLt9:=lh (Array.getElem?_eq_some_iff.1 HO.out).1
         have HCh:=lh (HCq.out w9 HQ.out)
         obtain ⟨CH,hCH⟩:∃ z,z=(chooseE src prev key q.toNat r.toNat ⟨src.W,src.H,cp⟩ x y):=⟨_,rfl⟩
         rw [← hCH] at HCh HPost
         clear HCq hCH
         go_at_call 40
         refine HCh.out.mono ?_
         rintro e w10 ⟨lv,vs,rfl,hml,hin,hq⟩
         have HIn:=lh hin
         have HMl:=lh hml
         have HZz:=lh HQ.out.size
         replace HF0:=lh (hq.row HF0.out)
         replace HF1:=lh (hq.row HF1.out)
         replace HF2:=lh (hq.row HF2.out)
         replace HO:=lh (hq.row HO.out)
         replace HQ:=lh (HQ.out.q hq)
         clear hq
         have HI0:=lh (sqL_info (k:=CH.kind) (mo:=CH.mode) (ms:=CH.modes) (vx:=CH.vx) (vy:=CH.vy) (lv:=lv) (vs:=vs) hml hin.len)
         have HO0:=lh (sqL_one (k:=CH.kind) (mo:=CH.mode) (ms:=CH.modes) (vx:=CH.vx) (vy:=CH.vy) (lv:=lv) (vs:=vs) hin.one.1 hin.one.2)
         have HZ0:=lh (sqL_sizes (k:=0) (mo:=0) (ms:=[0,0,0,0]) (vx:=0) (vy:=0) (lv:=nilS) (vs:=[nilS,nilS,nilS,nilS]) (k':=CH.kind) (mo':=CH.mode) (ms':=CH.modes) (vx':=CH.vx) (vy':=CH.vy) (lv':=lv) (vs':=vs) rfl rfl hml hin.len)
         have HO1:Hid ((w10.setRow (w.heap.size+1+1+1) (sqL CH.kind CH.mode CH.modes CH.vx CH.vy lv vs).toArray).heap[w.heap.size+1+1+1]?=some (.cells (sqL CH.kind CH.mode CH.modes CH.vx CH.vy lv vs).toArray 65 (0,0))):=lh (setRow_heap w10 (w.heap.size+1+1+1) _ _ _ _ HO.out)
         have HSo:=lh (Only.setRow (S:=[w.heap.size+1+1+1]) (Only.refl _ w10) (g:=w.heap.size+1+1+1) (fun _=>by simp) (sqL CH.kind CH.mode CH.modes CH.vx CH.vy lv vs).toArray)
         clear hin hml
         go_wp2_with (first | (refine wpList_store_row rfl (.tmp 16) (.tmp 80) 65 rfl rfl rfl HO.out HI0.out HZ0.out HO0.out ?_) | fail)
         refine bodyPost_ret (v:=.tuple #[.agg (sqL CH.kind CH.mode CH.modes CH.vx CH.vy lv vs).toArray,.nilIface]) (results_cell_row2 Tryz.results28 _ _ (w.heap.size+1+1+1) _ _ _ _ _ rfl rfl HO1.out HUnd.out rfl HI0.out) rfl (HPost.out _ _ ⟨lv,vs,rfl,HMl.out,?_,?_⟩)
         ·have z1:=HSo.out.size
          have z2:=HZz.out
          have h3:=HIn.out.only HSo.out (fun g hg=>by rw [mSg] at hg;have:=HLt9.out;omega)
          exact ⟨h3.large.mono z2 z1,h3.len,fun i hi=>(h3.small i hi).mono z2 z1⟩
         ·exact HQ.out.trans HSo.out (U:=[]) (by simp) (fun g hg hlt=>by rw [mSg] at hg;omega)
       ·rw [show squareE src ⟨src.W,src.H,cp⟩ prev key x y q r=.error 3 from by unfold squareE;rw [if_neg (by simp [Hm.out]),if_neg (by simp),Hck.out];simp only;rw [if_pos (by simp [placeB,hy8])]] at HPost
        have hb:(y.tmod 8 == 0)=false:=by rw [beq_eq_false_iff_ne];exact hy8
        exact qESqr3
      ·rw [show squareE src ⟨src.W,src.H,cp⟩ prev key x y q r=.error 3 from by unfold squareE;rw [if_neg (by simp [Hm.out]),if_neg (by simp),Hck.out];simp only;rw [if_pos (by simp [placeB,hx8])]] at HPost
       have hb:(x.tmod 8 == 0)=false:=by rw [beq_eq_false_iff_ne];exact hx8
       exact qESqr3
    ·obtain ⟨r0,r1,r2⟩:=frame_cells HF0.out
     obtain ⟨s0,s1,s2⟩:=frame_cells HF1.out
     rw [show squareE src ⟨src.W,cH,cp⟩ prev key x y q r=.error 14 from by unfold squareE;rw [if_neg (by simp [Hm.out]),if_pos (by simp [hH])]] at HPost
     exact qESqr1
   ·obtain ⟨r0,r1,r2⟩:=frame_cells HF0.out
    obtain ⟨s0,s1,s2⟩:=frame_cells HF1.out
    rw [show squareE src ⟨cW,cH,cp⟩ prev key x y q r=.error 14 from by unfold squareE;rw [if_neg (by simp [Hm.out]),if_pos (by simp [hW])]] at HPost
    exact qESqr1
theorem esquare_any {lo hi lo2 hi2 lo3 hi3:Nat} {sv cv pv:Value} {src prev:FrameD} {cur:FrameD} {w:World} {key:Bool} {x y q r:Int} (is:Ints .i64 lo hi w sv src.pix) (ic:Ints .i64 lo2 hi2 w cv cur.pix) (ip:Ints .i64 lo3 hi3 w pv prev.pix) (hhi3:hi3≤w.heap.size) :
  Calls Tryz.prog 28 #[.agg #[.int .i64 src.W,.int .i64 src.H,sv],.agg #[.int .i64 cur.W,.int .i64 cur.H,cv],.agg #[.int .i64 prev.W,.int .i64 prev.H,pv],.bool key,.int .i64 x,.int .i64 y,.int .i64 q,.int .i64 r] w (SqrP w (squareE src cur prev key x y q r)) :=
 esq_all is ic ip hhi3
end
end Go.Proofs.YtmgbbgffkakcaaaGreatDoor
