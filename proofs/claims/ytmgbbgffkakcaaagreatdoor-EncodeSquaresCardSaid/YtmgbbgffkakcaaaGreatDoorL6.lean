/- Joined texts: EEnQ, ESame, ESqW, ESqC. Conditions: each part names its own. -/
import Derived.Test.YtmgbbgffkakcaaaGreatDoorT1
import Derived.Test.YtmgbbgffkakcaaaGreatDoorF1
import Derived.Test.YtmgbbgffkakcaaaGreatDoorF2
import Derived.Test.YtmgbbgffkakcaaaGreatDoorW7
import Derived.Test.YtmgbbgffkakcaaaGreatDoorA7
import Derived.Test.YtmgbbgffkakcaaaGreatDoorC1
import Derived.Test.YtmgbbgffkakcaaaGreatDoorZEFs2
import Derived.Test.YtmgbbgffkakcaaaGreatDoorZESqr
import Derived.Test.YtmgbbgffkakcaaaGreatDoorA9
import Derived.Test.YtmgbbgffkakcaaaGreatDoorA6
import Derived.Deep.DeepCutAuto
import Derived.Test.YtmgbbgffkakcaaaGreatDoorF3
import Derived.Test.YtmgbbgffkakcaaaGreatDoorTie
import Derived.Test.YtmgbbgffkakcaaaGreatDoorCards
import Derived.SevenTiedAt
set_option maxRecDepth 100000
set_option maxHeartbeats 16000000
namespace Go.Proofs.YtmgbbgffkakcaaaGreatDoor
open Go.RowKit
set_option linter.unusedVariables false
set_option linter.unusedSimpArgs false
theorem frames_three {W:World} {f p o:FrameD} {pv pu po:Value} {hi hi' hi2:Nat} (hp:Ints .i64 0 hi W pv f.pix) (hu:Ints .i64 0 hi' W pu p.pix) (hv:Ints .i64 0 hi2 W po o.pix) :
  FramesAt 0 (max (max hi (max hi' hi2)) (W.heap.size+1)) (W.alloc (.cells #[.int .i64 f.W,.int .i64 f.H,pv,.int .i64 p.W,.int .i64 p.H,pu,.int .i64 o.W,.int .i64 o.H,po] 24)) (.slice (some ⟨W.heap.size,0,none⟩) 3 3) [f,p,o]:=by
 have hr:=heap_alloc_new W (.cells #[.int .i64 f.W,.int .i64 f.H,pv,.int .i64 p.W,.int .i64 p.H,pu,.int .i64 o.W,.int .i64 o.H,po] 24)
 refine ⟨fun i j=>if i=0 then (if j=0 then .int .i64 f.W else if j=1 then .int .i64 f.H else pv) else if i=1 then (if j=0 then .int .i64 p.W else if j=1 then .int .i64 p.H else pu) else (if j=0 then .int .i64 o.W else if j=1 then .int .i64 o.H else po),⟨some ⟨W.heap.size,0,none⟩,3,rfl,Nat.le_refl _,by simp [maxLen],fun _=>⟨W.heap.size,0,rfl,by omega,by omega,fun i j hi hj=>?_⟩⟩,fun i hi=>?_⟩
 ·have hi0:i=0∨i=1∨i=2:=by simp at hi;omega
  rw [cell_of_row _ _ _ _ _ _ hr]
  rcases hi0 with rfl | rfl | rfl <;> rcases (by omega:j=0∨j=1∨j=2) with rfl | rfl | rfl <;> rfl
 ·have hi0:i=0∨i=1∨i=2:=by simp at hi;omega
  rcases hi0 with rfl | rfl | rfl
  ·exact ⟨rfl,rfl,(hp.quiet (Only.new W _)).mono (by omega) (by omega)⟩
  ·exact ⟨rfl,rfl,(hu.quiet (Only.new W _)).mono (by omega) (by omega)⟩
  ·exact ⟨rfl,rfl,(hv.quiet (Only.new W _)).mono (by omega) (by omega)⟩
theorem sqL_vx {k mo vx vy:Int} {ms:List Int} {lv:Value} {vs:List Value} (hm:ms.length=4):(sqL k mo ms vx vy lv vs).toArray[6]?=some (.int .i64 vx):=by
 obtain ⟨a,b,c,d,rfl⟩:=len4 hm
 rfl
theorem sqL_vy {k mo vx vy:Int} {ms:List Int} {lv:Value} {vs:List Value} (hm:ms.length=4):(sqL k mo ms vx vy lv vs).toArray[7]?=some (.int .i64 vy):=by
 obtain ⟨a,b,c,d,rfl⟩:=len4 hm
 rfl
section
theorem sqsame_any {k mo vx vy:Int} {ms:List Int} {lv lv2:Value} {vs vs2:List Value} {L:List Int} {S:List (List Int)} {lo hi lo2 hi2:Nat} {w:World} (hm:ms.length=4) (h:SqIn lo hi w lv vs L S) (g:SqIn lo2 hi2 w lv2 vs2 L S) :
  Calls Tryz.prog 30 #[.agg (sqL k mo ms vx vy lv vs).toArray,.agg (sqL k mo ms vx vy lv2 vs2).toArray] w fun e w'=>(e=.returned (.bool true)∧Only [] w w'):=by
 refine hidQ fun Q HPost=>?_
 have HQ2:Hid (Only [] w ((w.alloc (.cells (sqL k mo ms vx vy lv vs).toArray 65)).alloc (.cells (sqL k mo ms vx vy lv2 vs2).toArray 68))):=lh ((Only.new w _).alloc _)
 have HR1:Hid (((w.alloc (.cells (sqL k mo ms vx vy lv vs).toArray 65)).alloc (.cells (sqL k mo ms vx vy lv2 vs2).toArray 68)).heap[w.heap.size]?=some (.cells (sqL k mo ms vx vy lv vs).toArray 65 (0,0))):=lh ((Only.new (w.alloc _) _).row (heap_alloc_new w _))
 have HR2:Hid (((w.alloc (.cells (sqL k mo ms vx vy lv vs).toArray 65)).alloc (.cells (sqL k mo ms vx vy lv2 vs2).toArray 68)).heap[w.heap.size+1]?=some (.cells (sqL k mo ms vx vy lv2 vs2).toArray 68 (0,0))):=lh (heap_alloc_new' (by simp))
 have HH:=lh h
 have HG:=lh g
 have HMl:=lh hm
 clear h g hm
 go_enter Tryz.func30,Tryz.ntmps30
 go_wp2_with fail
 generalize hW2:World.alloc (World.alloc w _) _=W2 at *
 clear hW2
 go_loopw [5] (fun i wr=>∃ n:Nat,n≤4∧i=.int .i64 n∧Hid (Only [] W2 wr)) (fun i _=>4-(intOf i).toNat)
 case atStart=>exact ⟨0,by omega,rfl,lh (Only.refl _ _)⟩
 case round =>
  obtain ⟨n,hn,rfl,HQk⟩:=hrel
  by_cases hlt:n<4
  ·have hki:(n:Int)<4:=by omega
   have hk0:(0:Int)≤(n:Int):=by omega
   obtain ⟨x1,z1,hv1,-⟩:=(HH.out.small n hlt).open
   obtain ⟨x2,z2,hv2,-⟩:=(HG.out.small n hlt).open
   have r1:=HQk.out.row HR1.out
   have r2:=HQk.out.row HR2.out
   have e0:wr.cell? ⟨w.heap.size,2+n,none⟩=some (.int .i64 (ms.getD n 0)):=by rw [cell_of_row _ _ _ _ _ _ r1];exact sqL_mode HMl.out hlt
   have e1:wr.cell? ⟨w.heap.size+1,2+n,none⟩=some (.int .i64 (ms.getD n 0)):=by rw [cell_of_row _ _ _ _ _ _ r2];exact sqL_mode HMl.out hlt
   have e2:wr.cell? ⟨w.heap.size,9+n,none⟩=some (vs.getD n nilS):=by rw [cell_of_row _ _ _ _ _ _ r1];exact sqL_small HMl.out HH.out.len hlt
   have e3:wr.cell? ⟨w.heap.size+1,9+n,none⟩=some (vs2.getD n nilS):=by rw [cell_of_row _ _ _ _ _ _ r2];exact sqL_small HMl.out HG.out.len hlt
   have i1:=(HH.out.small n hlt).quiet (HQ2.out.q HQk.out)
   have i2:=(HG.out.small n hlt).quiet (HQ2.out.q HQk.out)
   rw [hv1] at e2 i1
   rw [hv2] at e3 i2
   have HInt:=lh (fun (W:World) (o:Only [] wr W)=>intsEq_any (i1.quiet o) (i2.quiet o))
   clear hv1 hv2 r1 r2 i1 i2
   generalize S.getD n []=SL at *
   obtain ⟨a1,ha1⟩:∃ z,z=x1:=⟨_,rfl⟩
   obtain ⟨a2,ha2⟩:∃ z,z=x2:=⟨_,rfl⟩
   subst ha1
   subst ha2
   go_upto_region 4 with (fail)
   refine wp_region_held_drew (S:=(fun w'=>w'.cell? ⟨w.heap.size,2+n,none⟩=some (.int .i64 (ms.getD n 0))∧w'.cell? ⟨w.heap.size+1,2+n,none⟩=some (.int .i64 (ms.getD n 0))∧w'.cell? ⟨w.heap.size,9+n,none⟩=some (.slice a1 SL.length z1)∧w'.cell? ⟨w.heap.size+1,9+n,none⟩=some (.slice a2 SL.length z2))) (by kernel_rfl) ?_ (fun hHeld=>?_)
   ·exact ⟨e0,e1,e2,e3⟩
   refine tk 0 10 ?_
   refine tk 1 11 ?_
   refine tk 2 12 ?_
   refine tk 3 13 ?_
   refine tk 4 14 ?_
   refine tk 5 15 ?_
   refine tk 6 16 ?_
   refine tk 7 17 ?_
   refine tk 8 18 ?_
   refine tk 9 19 ?_
   refine tk 10 20 ?_
   refine tk 11 21 ?_
   refine tk 12 22 ?_
   refine tk 13 23 ?_
   refine tk 14 24 ?_
   refine tk 15 25 ?_
   refine tk 16 26 ?_
   refine tk 17 27 ?_
   refine rdy (rdc 18 28 (fun K hK=>?_) .nil)
   go_simp
   go_at_call 55
   refine (HInt.out _ (by first | exact Only.refl _ _ | exact (Only.refl _ _).drew)).mono ?_
   rintro e wk ⟨rfl,hq⟩
   have hqk:Only [] wr wk:=by first | exact hq | exact (Only.refl _ _).drew.q hq
   rw [show eqB SL SL=true by simp [eqB]]
   refine hK.out _ _ ?_ (fun hHeld=>?_)
   ·exact ⟨hqk.cell e0 (by simp),hqk.cell e1 (by simp),hqk.cell e2 (by simp),hqk.cell e3 (by simp)⟩
   clear hK K
   try simp only [Act.put,List.setIfInBounds_toArray,List.set_cons_zero,List.set_cons_succ]
   refine tk 19 29 ?_
   refine tk 20 30 ?_
   refine wpAnyH_done (by kernel_rfl) ?_ _
   go_wp2_with fail
   refine ⟨⟨n+1,by omega,by go_num,lh (HQk.out.q (by first | exact hqk | exact hqk.drew))⟩,by simp [intOf];omega⟩
  ·obtain rfl:n=4:=by omega
   have hki:¬ ((4:Nat):Int)<4:=by omega
   have r1:=HQk.out.row HR1.out
   have r2:=HQk.out.row HR2.out
   obtain ⟨x1,z1,hv1,-⟩:=HH.out.large.open
   obtain ⟨x2,z2,hv2,-⟩:=HG.out.large.open
   have sx:=fun lw us=>(sqL_vx (k:=k) (mo:=mo) (vx:=vx) (vy:=vy) (lv:=lw) (vs:=us) HMl.out)
   have sy:=fun lw us=>(sqL_vy (k:=k) (mo:=mo) (vx:=vx) (vy:=vy) (lv:=lw) (vs:=us) HMl.out)
   have e0:wr.cell? ⟨w.heap.size,0,none⟩=some (.int .i64 k):=by rw [cell_of_row _ _ _ _ _ _ r1];rfl
   have f0:wr.cell? ⟨w.heap.size+1,0,none⟩=some (.int .i64 k):=by rw [cell_of_row _ _ _ _ _ _ r2];rfl
   have e1:wr.cell? ⟨w.heap.size,1,none⟩=some (.int .i64 mo):=by rw [cell_of_row _ _ _ _ _ _ r1];rfl
   have f1:wr.cell? ⟨w.heap.size+1,1,none⟩=some (.int .i64 mo):=by rw [cell_of_row _ _ _ _ _ _ r2];rfl
   have e6:wr.cell? ⟨w.heap.size,6,none⟩=some (.int .i64 vx):=by rw [cell_of_row _ _ _ _ _ _ r1];exact sx _ _
   have f6:wr.cell? ⟨w.heap.size+1,6,none⟩=some (.int .i64 vx):=by rw [cell_of_row _ _ _ _ _ _ r2];exact sx _ _
   have e7:wr.cell? ⟨w.heap.size,7,none⟩=some (.int .i64 vy):=by rw [cell_of_row _ _ _ _ _ _ r1];exact sy _ _
   have f7:wr.cell? ⟨w.heap.size+1,7,none⟩=some (.int .i64 vy):=by rw [cell_of_row _ _ _ _ _ _ r2];exact sy _ _
   have e8:wr.cell? ⟨w.heap.size,8,none⟩=some lv:=by rw [cell_of_row _ _ _ _ _ _ r1];exact sqL_large HMl.out
   have f8:wr.cell? ⟨w.heap.size+1,8,none⟩=some lv2:=by rw [cell_of_row _ _ _ _ _ _ r2];exact sqL_large HMl.out
   have i1:=HH.out.large.quiet (HQ2.out.q HQk.out)
   have i2:=HG.out.large.quiet (HQ2.out.q HQk.out)
   have HInt:=lh (intsEq_any i1 i2)
   clear r1 r2 i1 i2 sx sy
   subst hv1
   subst hv2
   go_wp2_with fail
   go_at_call 55
   refine HInt.out.mono ?_
   rintro e w9 ⟨rfl,hq⟩
   have HQ9:=lh ((HQ2.out.q HQk.out).q hq)
   clear hq e0 f0 e1 f1 e6 f6 e7 f7 e8 f8
   rw [show eqB L L=true by simp [eqB]]
   go_wp2_with fail
   exact HPost.out _ _ ⟨rfl,HQ9.out⟩
end
def sqOf:Except Int SqD→SqD
 | .error _=>sq0
 | .ok s=>s
def erOf:Except Int SqD→Option Int
 | .error c=>some c
 | .ok _=>none
theorem pix_three {f p o:FrameD} (h:pixB [f,p,o]=true):p.pix.length≤1000000000:=by
 simp [pixB,pixSum] at h
 omega
theorem zero_sqIn (lo hi:Nat) (w:World):SqIn lo hi w nilS [nilS,nilS,nilS,nilS] sq0.large sq0.small :=
 ⟨Ints.nil _ _ _ _,rfl,fun i hi=>by
  match i,hi with
  | 0,_=>exact Ints.nil _ _ _ _
  | 1,_=>exact Ints.nil _ _ _ _
  | 2,_=>exact Ints.nil _ _ _ _
  | 3,_=>exact Ints.nil _ _ _ _⟩
theorem squareE_ne {src cur prev:FrameD} {key:Bool} {x y q r:Int} (c:Int) (h:squareE src cur prev key x y q r=.error c):c≠0:=by
 unfold squareE at h
 split at h
 ·injection h with h;omega
 split at h
 ·injection h with h;omega
 split at h
 ·rename_i c' hc
  injection h with h
  subst h
  exact askE_ne hc
 ·split at h
  ·injection h with h;omega
  ·cases h
theorem sqOf_ml {r:Except Int SqD} {w w':World} {e:Ending} (h:SqrP w r e w'):(sqOf r).modes.length=4:=by
 cases r with
 | error c=>rfl
 | ok s=>obtain ⟨_,_,_,h1,_⟩:=h;exact h1
section
theorem sqr_told {r:Except Int SqD} {W w':World} {e:Ending} (h:SqrP W r e w'):(∃ lv vs,e=.returned (.tuple #[.agg (sqL (sqOf r).kind (sqOf r).mode (sqOf r).modes (sqOf r).vx (sqOf r).vy lv vs).toArray,codeV (erOf r)])∧SqIn W.heap.size w'.heap.size w' lv vs (sqOf r).large (sqOf r).small∧Only [] W w')∧(sqOf r).modes.length=4:=by
 refine ⟨?_,sqOf_ml h⟩
 cases r with
 | error c=>exact ⟨nilS,[nilS,nilS,nilS,nilS],h.1,zero_sqIn _ _ _,h.2⟩
 | ok s=>obtain ⟨lv,vs,h0,-,h2,h3⟩:=h;exact ⟨lv,vs,h0,h2,h3⟩
theorem ksq_told {r:Except Int SqD} {W w':World} {e:Ending} (h:KSqP W r e w'):(∃ lv vs,e=.returned (.tuple #[.agg (sqL (sqOf r).kind (sqOf r).mode (sqOf r).modes (sqOf r).vx (sqOf r).vy lv vs).toArray,.agg #[.int .i64 ((erOf r).getD 0),.slice none 0 0]])∧SqIn W.heap.size w'.heap.size w' lv vs (sqOf r).large (sqOf r).small∧Only [] W w'):=by
 cases r with
 | error c=>exact ⟨nilS,[nilS,nilS,nilS,nilS],h.1,zero_sqIn _ _ _,h.2⟩
 | ok s=>obtain ⟨lv,vs,h0,-,h2,h3⟩:=h;exact ⟨lv,vs,h0,h2,h3⟩
theorem esquares_any {sv cv pv:Value} {src cur prev:FrameD} {w:World} (hs:Ints .i64 0 w.heap.size w sv src.pix) (hc:Ints .i64 0 w.heap.size w cv cur.pix) (hp:Ints .i64 0 w.heap.size w pv prev.pix) (key:Bool) (x y qp reach:Int) (hE:ErrT w) :
  Calls Tryz.prog 8 #[.agg #[.int .i64 src.W,.int .i64 src.H,sv],.agg #[.int .i64 cur.W,.int .i64 cur.H,cv],.agg #[.int .i64 prev.W,.int .i64 prev.H,pv],.bool key,.int .i64 x,.int .i64 y,.int .i64 qp,.int .i64 reach] w fun e w'=>e=.returned (.bool true)∧Only [] w w':=by
 refine hidQ fun Q HPost=>?_
 have HFi:=lh (fun (W:World) (o:Only [] w W)=>first_any W (hE.quiet o))
 have HFw:=lh (fun (W:World) (o:Only [] w W)=>few_any (l:=[src,cur,prev]) reach (frames_three (hs.quiet o) (hc.quiet o) (hp.quiet o)) (by simp))
 have HCp:=lh (fun (W:World) (o:Only [] w W) (h:pixB [src,cur,prev]=true)=>kcopyf_any (hc.quiet o) (pix_three h))
 have HS1:Hid (∀ (W:World) (o:Only [] w W) (l1 h1:Nat) (kv:Value) (ik:Ints .i64 l1 h1 W kv cur.pix),Calls Tryz.prog 28 #[.agg #[.int .i64 src.W,.int .i64 src.H,sv],.agg #[.int .i64 cur.W,.int .i64 cur.H,kv],.agg #[.int .i64 prev.W,.int .i64 prev.H,pv],.bool key,.int .i64 x,.int .i64 y,.int .i64 qp,.int .i64 reach] W fun e w'=>(∃ lv vs,e=.returned (.tuple #[.agg (sqL (sqOf (squareE src cur prev key x y qp reach)).kind (sqOf (squareE src cur prev key x y qp reach)).mode (sqOf (squareE src cur prev key x y qp reach)).modes (sqOf (squareE src cur prev key x y qp reach)).vx (sqOf (squareE src cur prev key x y qp reach)).vy lv vs).toArray,codeV (erOf (squareE src cur prev key x y qp reach))])∧SqIn W.heap.size w'.heap.size w' lv vs (sqOf (squareE src cur prev key x y qp reach)).large (sqOf (squareE src cur prev key x y qp reach)).small∧Only [] W w')∧(sqOf (squareE src cur prev key x y qp reach)).modes.length=4):=lh (fun W o l1 h1 kv ik=>(esquare_any (hs.quiet o) ik (hp.quiet o) o.size).mono fun e w' h=>sqr_told h)
 have HS2:Hid (∀ (W:World) (o:Only [] w W),Calls Tryz.prog 29 #[.agg #[.int .i64 src.W,.int .i64 src.H,sv],.agg #[.int .i64 cur.W,.int .i64 cur.H,cv],.agg #[.int .i64 prev.W,.int .i64 prev.H,pv],.bool key,.int .i64 x,.int .i64 y,.int .i64 qp,.int .i64 reach] W fun e w'=>(∃ lv vs,e=.returned (.tuple #[.agg (sqL (sqOf (squareE src cur prev key x y qp reach)).kind (sqOf (squareE src cur prev key x y qp reach)).mode (sqOf (squareE src cur prev key x y qp reach)).modes (sqOf (squareE src cur prev key x y qp reach)).vx (sqOf (squareE src cur prev key x y qp reach)).vy lv vs).toArray,.agg #[.int .i64 ((erOf (squareE src cur prev key x y qp reach)).getD 0),.slice none 0 0]])∧SqIn W.heap.size w'.heap.size w' lv vs (sqOf (squareE src cur prev key x y qp reach)).large (sqOf (squareE src cur prev key x y qp reach)).small∧Only [] W w')):=lh (fun W o=>(ksquare_any (hs.quiet o) (hc.quiet o) (hp.quiet o) o.size o.size).mono fun e w' h=>ksq_told h)
 have HEr:Hid (∀ (W:World) (o:Only [] w W),Calls Tryz.prog 18 #[codeV (erOf (squareE src cur prev key x y qp reach)),.agg #[.int .i64 ((erOf (squareE src cur prev key x y qp reach)).getD 0),.slice none 0 0]] W fun e w'=>e=.returned (.bool true)∧Only [] W w'):=lh (fun W o=>by
  have hne:=fun c h=>squareE_ne (src:=src) (cur:=cur) (prev:=prev) (key:=key) (x:=x) (y:=y) (q:=qp) (r:=reach) c h
  generalize squareE src cur prev key x y qp reach=R at *
  cases R with
  | error c=>exact same_any (v:=.iface 36 (.int .i64 c)) (sv:=.slice none 0 0) (o:=some ⟨[],c⟩) (c:=c) (p:=[]) (w:=W) (lo:=0) (hi:=0) (lo':=0) (hi':=0) (ErrV.code 0 0 W c) (Nat.zero_le _) (hE.quiet o) (by simp) (Cells.nil _ _ _ _) (by have:=hne c rfl;simp [this]) rfl rfl
  | ok s=>exact same_any (v:=.nilIface) (sv:=.slice none 0 0) (o:=none) (c:=0) (p:=[]) (w:=W) (lo:=0) (hi:=0) (lo':=0) (hi':=0) rfl (Nat.zero_le _) (hE.quiet o) (by simp) (Cells.nil _ _ _ _) rfl rfl rfl)
 generalize sqOf (squareE src cur prev key x y qp reach)=S at *
 generalize codeV (erOf (squareE src cur prev key x y qp reach))=EV at *
 generalize (erOf (squareE src cur prev key x y qp reach)).getD 0=kc0 at *
 have HC:=lh hc
 obtain ⟨sa,sc,rfl,-⟩:=hs.open
 obtain ⟨ka,kc,rfl,-⟩:=hc.open
 obtain ⟨pa,pc,rfl,-⟩:=hp.open
 clear hs hc hp hE
 have HQ1:Hid (Only [] w (((w.alloc (.cells #[.int .i64 src.W,.int .i64 src.H,.slice sa src.pix.length sc] 24)).alloc (.cells #[.int .i64 cur.W,.int .i64 cur.H,.slice ka cur.pix.length kc] 24)).alloc (.cells #[.int .i64 prev.W,.int .i64 prev.H,.slice pa prev.pix.length pc] 24))):=lh (((Only.new w _).alloc _).alloc _)
 have HR0:Hid ((((w.alloc (.cells #[.int .i64 src.W,.int .i64 src.H,.slice sa src.pix.length sc] 24)).alloc (.cells #[.int .i64 cur.W,.int .i64 cur.H,.slice ka cur.pix.length kc] 24)).alloc (.cells #[.int .i64 prev.W,.int .i64 prev.H,.slice pa prev.pix.length pc] 24)).heap[w.heap.size]?=some (.cells #[.int .i64 src.W,.int .i64 src.H,.slice sa src.pix.length sc] 24 (0,0))):=lh (((Only.new (w.alloc _) _).alloc _).row (heap_alloc_new w _))
 have HR1:Hid ((((w.alloc (.cells #[.int .i64 src.W,.int .i64 src.H,.slice sa src.pix.length sc] 24)).alloc (.cells #[.int .i64 cur.W,.int .i64 cur.H,.slice ka cur.pix.length kc] 24)).alloc (.cells #[.int .i64 prev.W,.int .i64 prev.H,.slice pa prev.pix.length pc] 24)).heap[w.heap.size+1]?=some (.cells #[.int .i64 cur.W,.int .i64 cur.H,.slice ka cur.pix.length kc] 24 (0,0))):=lh ((Only.new ((w.alloc _).alloc _) _).row (heap_alloc_new' (by simp)))
 have HR2:Hid ((((w.alloc (.cells #[.int .i64 src.W,.int .i64 src.H,.slice sa src.pix.length sc] 24)).alloc (.cells #[.int .i64 cur.W,.int .i64 cur.H,.slice ka cur.pix.length kc] 24)).alloc (.cells #[.int .i64 prev.W,.int .i64 prev.H,.slice pa prev.pix.length pc] 24)).heap[w.heap.size+1+1]?=some (.cells #[.int .i64 prev.W,.int .i64 prev.H,.slice pa prev.pix.length pc] 24 (0,0))):=lh (heap_alloc_new' (by simp))
 have HU1:=lh Tryz.underlying65
 have HU2:=lh Tryz.underlying68
 go_enter Tryz.func8,Tryz.ntmps8
 go_wp2_with fail
 generalize hW1:World.alloc (World.alloc (World.alloc w _) _) _=W1 at *
 clear hW1
 go_at_call 11
 refine (HFi.out _ HQ1.out).mono ?_
 rintro e w2 ⟨rfl,hq2⟩
 have HQ2:=lh hq2
 clear hq2
 obtain ⟨s0,s1,s2⟩:=frame_cells (HQ2.out.row HR0.out)
 obtain ⟨p0,p1,p2⟩:=frame_cells (HQ2.out.row HR1.out)
 obtain ⟨o0,o1,o2⟩:=frame_cells (HQ2.out.row HR2.out)
 have HOn:=lh (Only.new w2 (.cells #[.int .i64 src.W,.int .i64 src.H,.slice sa src.pix.length sc,.int .i64 cur.W,.int .i64 cur.H,.slice ka cur.pix.length kc,.int .i64 prev.W,.int .i64 prev.H,.slice pa prev.pix.length pc] 24))
 have HFx:=lh (HFw.out _ (HQ1.out.q HQ2.out))
 go_wp2_with fail
 generalize hW3:World.alloc w2 _=W3 at *
 clear hW3 s0 s1 s2 p0 p1 p2 o0 o1 o2
 have HQ3:=lh (HQ2.out.q HOn.out)
 go_at_call 12
 refine HFx.out.mono ?_
 rintro e w4 ⟨⟨b,rfl,hpx⟩,hq4⟩
 have HPx:=lh hpx
 have HQ4:=lh (HQ3.out.q hq4)
 clear hq4 hpx
 cases b with
 | false =>
  go_wp2_with fail
  go_at_call 11
  refine (HFi.out _ (HQ1.out.q HQ4.out)).mono ?_
  rintro e w5 ⟨rfl,hq5⟩
  have HQ5:=lh (HQ4.out.q hq5)
  clear hq5
  go_wp2_with fail
  exact HPost.out _ _ ⟨rfl,HQ1.out.q HQ5.out⟩
 | true =>
  obtain ⟨p0,p1,p2⟩:=frame_cells (HQ4.out.row HR1.out)
  go_wp2_with fail
  clear p0 p1 p2
  go_at_call 13
  refine (HCp.out _ (HQ1.out.q HQ4.out) (HPx.out (by first | rfl | trivial))).mono ?_
  rintro e w5 ⟨kv,rfl,ho5,hq5⟩
  obtain ⟨kb,kn,rfl,-⟩:=ho5.ints.open
  have hn5:=Only.new w5 (.cells #[.int .i64 cur.W,.int .i64 cur.H,.slice kb cur.pix.length kn] 24)
  have HV5:Hid ((w5.alloc (.cells #[.int .i64 cur.W,.int .i64 cur.H,.slice kb cur.pix.length kn] 24)).heap[w5.heap.size]?=some (.cells #[.int .i64 cur.W,.int .i64 cur.H,.slice kb cur.pix.length kn] 24 (0,0))):=lh (heap_alloc_new w5 _)
  have HK5:=lh (ho5.ints.quiet hn5)
  have HQ5:=lh ((HQ4.out.q hq5).q hn5)
  clear ho5 hq5 hn5
  obtain ⟨s0,s1,s2⟩:=frame_cells (HQ5.out.row HR0.out)
  obtain ⟨k0,k1,k2⟩:=frame_cells HV5.out
  obtain ⟨o0,o1,o2⟩:=frame_cells (HQ5.out.row HR2.out)
  go_wp2_with fail
  clear s0 s1 s2 k0 k1 k2 o0 o1 o2
  generalize hW5:World.alloc w5 _=W5' at *
  clear hW5
  generalize w5.heap.size=VK at *
  go_at_call 28
  refine (HS1.out _ (HQ1.out.q HQ5.out) _ _ _ HK5.out).mono ?_
  rintro e W5 ⟨⟨lv1,vs1,rfl,hin6,hq6⟩,hml⟩
  have HMl:=lh hml
  have HZ6:Hid ((W5.alloc (.cells #[.int .i64 0,.int .i64 0,.int .i64 0,.int .i64 0,.int .i64 0,.int .i64 0,.int .i64 0,.int .i64 0,.slice none 0 0,.slice none 0 0,.slice none 0 0,.slice none 0 0,.slice none 0 0] 65)).heap[W5.heap.size]?=some (.cells (sqL 0 0 [0,0,0,0] 0 0 nilS [nilS,nilS,nilS,nilS]).toArray 65 (0,0))):=lh (heap_alloc_new W5 _)
  have HR6:Hid (((W5.alloc (.cells #[.int .i64 0,.int .i64 0,.int .i64 0,.int .i64 0,.int .i64 0,.int .i64 0,.int .i64 0,.int .i64 0,.slice none 0 0,.slice none 0 0,.slice none 0 0,.slice none 0 0,.slice none 0 0] 65)).setRow W5.heap.size (sqL S.kind S.mode S.modes S.vx S.vy lv1 vs1).toArray).heap[W5.heap.size]?=some (.cells (sqL S.kind S.mode S.modes S.vx S.vy lv1 vs1).toArray 65 (0,0))):=lh (setRow_heap (W5.alloc (.cells #[.int .i64 0,.int .i64 0,.int .i64 0,.int .i64 0,.int .i64 0,.int .i64 0,.int .i64 0,.int .i64 0,.slice none 0 0,.slice none 0 0,.slice none 0 0,.slice none 0 0,.slice none 0 0] 65)) W5.heap.size _ _ _ _ HZ6.out)
  have hn7:Only [] W5 ((W5.alloc (.cells #[.int .i64 0,.int .i64 0,.int .i64 0,.int .i64 0,.int .i64 0,.int .i64 0,.int .i64 0,.int .i64 0,.slice none 0 0,.slice none 0 0,.slice none 0 0,.slice none 0 0,.slice none 0 0] 65)).setRow W5.heap.size (sqL S.kind S.mode S.modes S.vx S.vy lv1 vs1).toArray):=(Only.new W5 _).trans (Only.setRow (S:=[W5.heap.size]) (Only.refl _ (W5.alloc (.cells #[.int .i64 0,.int .i64 0,.int .i64 0,.int .i64 0,.int .i64 0,.int .i64 0,.int .i64 0,.int .i64 0,.slice none 0 0,.slice none 0 0,.slice none 0 0,.slice none 0 0,.slice none 0 0] 65))) (g:=W5.heap.size) (fun _=>by simp) (sqL S.kind S.mode S.modes S.vx S.vy lv1 vs1).toArray) (U:=[]) (by simp) (fun g hg hlt=>by rw [mSg] at hg;omega)
  have HI6:=lh (sqL_info (k:=S.kind) (mo:=S.mode) (ms:=S.modes) (vx:=S.vx) (vy:=S.vy) (lv:=lv1) (vs:=vs1) hml hin6.len)
  have HO6:=lh (sqL_one (k:=S.kind) (mo:=S.mode) (ms:=S.modes) (vx:=S.vx) (vy:=S.vy) (lv:=lv1) (vs:=vs1) hin6.one.1 hin6.one.2)
  have HY6:=lh (sqL_sizes (k:=0) (mo:=0) (ms:=[0,0,0,0]) (vx:=0) (vy:=0) (lv:=nilS) (vs:=[nilS,nilS,nilS,nilS]) (k':=S.kind) (mo':=S.mode) (ms':=S.modes) (vx':=S.vx) (vy':=S.vy) (lv':=lv1) (vs':=vs1) rfl rfl hml hin6.len)
  have HN6:=lh (hin6.only hn7 (by simp))
  have HX7:=lh (hq6.q hn7)
  have HQ7:=lh ((HQ5.out.q hq6).q hn7)
  clear hin6 hml hq6 hn7
  go_upto_region 7 with (first
   | (refine wpList_store_row rfl (.tmp 18) (.tmp 44) 65 rfl rfl rfl HZ6.out HI6.out HY6.out HO6.out ?_)
   | fail)
  generalize hW7:World.setRow _ _ _=W7 at *
  clear hW7 HZ6
  obtain ⟨s0,s1,s2⟩:=frame_cells (HQ7.out.row HR0.out)
  obtain ⟨k0,k1,k2⟩:=frame_cells (HQ7.out.row HR1.out)
  obtain ⟨o0,o1,o2⟩:=frame_cells (HQ7.out.row HR2.out)
  go_wp2_with fail
  clear s0 s1 s2 k0 k1 k2 o0 o1 o2
  go_at_call 29
  refine (HS2.out _ (HQ1.out.q HQ7.out)).mono ?_
  rintro e w8 ⟨lv2,vs2,rfl,hin8,hq8⟩
  have HZ8:Hid (((w8.alloc (.cells #[.int .i64 0,.int .i64 0,.int .i64 0,.int .i64 0,.int .i64 0,.int .i64 0,.int .i64 0,.int .i64 0,.slice none 0 0,.slice none 0 0,.slice none 0 0,.slice none 0 0,.slice none 0 0] 68)).alloc (.cells #[.int .i64 0,.slice none 0 0] 39)).heap[w8.heap.size]?=some (.cells (sqL 0 0 [0,0,0,0] 0 0 nilS [nilS,nilS,nilS,nilS]).toArray 68 (0,0))):=lh ((Only.new _ _).row (heap_alloc_new w8 _))
  have HE8:Hid (((w8.alloc (.cells #[.int .i64 0,.int .i64 0,.int .i64 0,.int .i64 0,.int .i64 0,.int .i64 0,.int .i64 0,.int .i64 0,.slice none 0 0,.slice none 0 0,.slice none 0 0,.slice none 0 0,.slice none 0 0] 68)).alloc (.cells #[.int .i64 0,.slice none 0 0] 39)).heap[w8.heap.size+1]?=some (.cells #[.int .i64 0,.slice none 0 0] 39 (0,0))):=lh (heap_alloc_new' (by simp))
  have HR8:Hid ((((w8.alloc (.cells #[.int .i64 0,.int .i64 0,.int .i64 0,.int .i64 0,.int .i64 0,.int .i64 0,.int .i64 0,.int .i64 0,.slice none 0 0,.slice none 0 0,.slice none 0 0,.slice none 0 0,.slice none 0 0] 68)).alloc (.cells #[.int .i64 0,.slice none 0 0] 39)).setRow w8.heap.size (sqL S.kind S.mode S.modes S.vx S.vy lv2 vs2).toArray).heap[w8.heap.size]?=some (.cells (sqL S.kind S.mode S.modes S.vx S.vy lv2 vs2).toArray 68 (0,0))):=lh (setRow_heap ((w8.alloc (.cells #[.int .i64 0,.int .i64 0,.int .i64 0,.int .i64 0,.int .i64 0,.int .i64 0,.int .i64 0,.int .i64 0,.slice none 0 0,.slice none 0 0,.slice none 0 0,.slice none 0 0,.slice none 0 0] 68)).alloc (.cells #[.int .i64 0,.slice none 0 0] 39)) w8.heap.size _ _ _ _ HZ8.out)
  have ho8:=Only.setRow (S:=[w8.heap.size]) (Only.refl _ ((w8.alloc (.cells #[.int .i64 0,.int .i64 0,.int .i64 0,.int .i64 0,.int .i64 0,.int .i64 0,.int .i64 0,.int .i64 0,.slice none 0 0,.slice none 0 0,.slice none 0 0,.slice none 0 0,.slice none 0 0] 68)).alloc (.cells #[.int .i64 0,.slice none 0 0] 39))) (g:=w8.heap.size) (fun _=>by simp) (sqL S.kind S.mode S.modes S.vx S.vy lv2 vs2).toArray
  have HE9:=lh (ho8.rowAt HE8.out (by simp))
  have HEb:Hid (((((w8.alloc (.cells #[.int .i64 0,.int .i64 0,.int .i64 0,.int .i64 0,.int .i64 0,.int .i64 0,.int .i64 0,.int .i64 0,.slice none 0 0,.slice none 0 0,.slice none 0 0,.slice none 0 0,.slice none 0 0] 68)).alloc (.cells #[.int .i64 0,.slice none 0 0] 39)).setRow w8.heap.size (sqL S.kind S.mode S.modes S.vx S.vy lv2 vs2).toArray).setRow (w8.heap.size+1) #[.int .i64 kc0,.slice none 0 0]).heap[w8.heap.size+1]?=some (.cells #[.int .i64 kc0,.slice none 0 0] 39 (0,0))):=lh (setRow_heap (((w8.alloc (.cells #[.int .i64 0,.int .i64 0,.int .i64 0,.int .i64 0,.int .i64 0,.int .i64 0,.int .i64 0,.int .i64 0,.slice none 0 0,.slice none 0 0,.slice none 0 0,.slice none 0 0,.slice none 0 0] 68)).alloc (.cells #[.int .i64 0,.slice none 0 0] 39)).setRow w8.heap.size (sqL S.kind S.mode S.modes S.vx S.vy lv2 vs2).toArray) (w8.heap.size+1) _ _ _ _ HE9.out)
  have ho9:=Only.setRow (S:=[w8.heap.size+1]) (Only.refl _ (((w8.alloc (.cells #[.int .i64 0,.int .i64 0,.int .i64 0,.int .i64 0,.int .i64 0,.int .i64 0,.int .i64 0,.int .i64 0,.slice none 0 0,.slice none 0 0,.slice none 0 0,.slice none 0 0,.slice none 0 0] 68)).alloc (.cells #[.int .i64 0,.slice none 0 0] 39)).setRow w8.heap.size (sqL S.kind S.mode S.modes S.vx S.vy lv2 vs2).toArray)) (g:=w8.heap.size+1) (fun _=>by simp) #[.int .i64 kc0,.slice none 0 0]
  have HRb:=lh (ho9.rowAt HR8.out (by simp))
  have hn9:Only [] w8 ((((w8.alloc (.cells #[.int .i64 0,.int .i64 0,.int .i64 0,.int .i64 0,.int .i64 0,.int .i64 0,.int .i64 0,.int .i64 0,.slice none 0 0,.slice none 0 0,.slice none 0 0,.slice none 0 0,.slice none 0 0] 68)).alloc (.cells #[.int .i64 0,.slice none 0 0] 39)).setRow w8.heap.size (sqL S.kind S.mode S.modes S.vx S.vy lv2 vs2).toArray).setRow (w8.heap.size+1) #[.int .i64 kc0,.slice none 0 0]):=(((Only.new w8 _).alloc _).trans ho8 (U:=[]) (by simp) (fun g hg hlt=>by rw [mSg] at hg;omega)).trans ho9 (U:=[]) (by simp) (fun g hg hlt=>by rw [mSg] at hg;omega)
  have HI8:=lh (ksq_info (k:=S.kind) (mo:=S.mode) (ms:=S.modes) (vx:=S.vx) (vy:=S.vy) (lv:=lv2) (vs:=vs2) HMl.out hin8.len)
  have HO8:=lh (sqL_one (k:=S.kind) (mo:=S.mode) (ms:=S.modes) (vx:=S.vx) (vy:=S.vy) (lv:=lv2) (vs:=vs2) hin8.one.1 hin8.one.2)
  have HY8:=lh (sqL_sizes (k:=0) (mo:=0) (ms:=[0,0,0,0]) (vx:=0) (vy:=0) (lv:=nilS) (vs:=[nilS,nilS,nilS,nilS]) (k':=S.kind) (mo':=S.mode) (ms':=S.modes) (vx':=S.vx) (vy':=S.vy) (lv':=lv2) (vs':=vs2) rfl rfl HMl.out hin8.len)
  have HN8:=lh (hin8.only hn9 (by simp))
  have HXb:=lh (hq8.q hn9)
  have HQb:=lh (HQ7.out.q HXb.out)
  clear hin8 hq8 hn9 ho8 ho9
  go_upto_region 8 with (first
   | (refine wpList_store_row rfl (.tmp 20) (.tmp 56) 68 rfl rfl rfl HZ8.out HI8.out HY8.out HO8.out ?_)
   | (refine wpList_store_row rfl (.tmp 21) (.tmp 57) 39 rfl rfl rfl HE9.out (err_size _ _) rfl (by first | kernel_rfl | simp [Value.oneCell']) ?_)
   | fail)
  generalize hWB:World.setRow (World.setRow _ _ _) _ _=WB at *
  clear hWB HZ8 HE8 HR8 HE9
  have HK:=lh ((HK5.out.quiet HX7.out).quiet HXb.out)
  have HRk:=lh ((HX7.out.q HXb.out).row HV5.out)
  have HR6b:=lh (HXb.out.row HR6.out)
  have HN6b:=lh (HN6.out.only HXb.out (by simp))
  clear HK5 HX7 HV5 HR6 HN6 HXb
  go_wp2_with fail
  go_at_call 11
  refine (HFi.out _ (HQ1.out.q HQb.out)).mono ?_
  rintro e wc ⟨rfl,hqc⟩
  have HQc:=lh hqc
  have HRw1:=lh (hqc.row HR6b.out)
  have HRw2:=lh (hqc.row HRb.out)
  have HSm:=lh (sqsame_any (k:=S.kind) (mo:=S.mode) (vx:=S.vx) (vy:=S.vy) HMl.out (HN6b.out.only hqc (by simp)) (HN8.out.only hqc (by simp)))
  clear hqc
  go_wp2_with (first
   | (refine wpList_load_row_on (by rfl) (.tmp 18) 65 rfl rfl HRw1.out HU1.out rfl HI6.out ?_)
   | (refine wpList_load_row_on (by rfl) (.tmp 20) 68 rfl rfl HRw2.out HU2.out rfl HI8.out ?_)
   | fail)
  go_at_call 30
  refine HSm.out.mono ?_
  rintro e wd ⟨rfl,hqd⟩
  have HQd:=lh (HQc.out.q hqd)
  clear hqd HSm
  obtain ⟨e0,e1,-⟩:=row2 (HQd.out.row HEb.out)
  go_wp2_with fail
  clear e0 e1
  go_at_call 18
  refine (HEr.out _ (HQ1.out.q (HQb.out.q HQd.out))).mono ?_
  rintro e we ⟨rfl,hqe⟩
  have HQe:=lh (HQd.out.q hqe)
  clear hqe
  obtain ⟨k0,k1,k2⟩:=frame_cells (HQe.out.row HRk.out)
  obtain ⟨c0,c1,c2⟩:=frame_cells ((HQb.out.q HQe.out).row HR1.out)
  have HKf:=lh (kframe_any (A:=cur) (B:=cur) (HK.out.quiet HQe.out) (HC.out.quiet (HQ1.out.q (HQb.out.q HQe.out))))
  rw [show frEq cur cur=true by unfold frEq;simp [eqB]] at HKf
  go_wp2_with fail
  clear k0 k1 k2 c0 c1 c2
  go_at_call 17
  refine HKf.out.mono ?_
  rintro e wf ⟨rfl,hqf⟩
  have HQf:=lh (HQ1.out.q (HQb.out.q (HQe.out.q hqf)))
  clear hqf
  go_wp2_with fail
  exact HPost.out _ _ ⟨rfl,HQf.out⟩
theorem esquares_card {sv cv pv:Value} {src cur prev:FrameD} {w:World} (hs:Ints .i64 0 w.heap.size w sv src.pix) (_:InK .i64 src.W∧InK .i64 src.H) (hc:Ints .i64 0 w.heap.size w cv cur.pix) (_:InK .i64 cur.W∧InK .i64 cur.H) (hp:Ints .i64 0 w.heap.size w pv prev.pix) (_:InK .i64 prev.W∧InK .i64 prev.H) (key:Bool) (x y qp reach:Int) (_:w.heap.size≤w.heap.size) (hE:ErrT w) :
  Calls Tryz.prog 8 #[.agg #[.int .i64 src.W,.int .i64 src.H,sv],.agg #[.int .i64 cur.W,.int .i64 cur.H,cv],.agg #[.int .i64 prev.W,.int .i64 prev.H,pv],.bool key,.int .i64 x,.int .i64 y,.int .i64 qp,.int .i64 reach] w fun e w'=>e=.returned (.bool true)∧Only [] w w':=esquares_any hs hc hp key x y qp reach hE
end
end Go.Proofs.YtmgbbgffkakcaaaGreatDoor
/- EncodeSquares of the encoder: for any arguments the law kinlaw22.EncodeSquares answers true and leaves its arguments as they were (a square coded by itself is the document's, and the frame coded so far is left as it was). Conditions: errors.errorType is laid as the program's text lays it (the card ties it). -/
namespace Go.Proofs.YtmgbbgffkakcaaaGreatDoor
open Go.ChangeShapes Go.WideShapes Go.ChangeAt Go.RowKit
set_option linter.unusedVariables false
set_option linter.unusedSimpArgs false
theorem encodeSquares_lifted (os:Os) (started:os.Started) (H:Type) (enc:TypeId×Value→H) :
  ReturnsInHanded {} Tryz.checked os 8 .any (fun w args=>(Rows.encodeSquaresSpec.pre enc Tryz.prog Tryz.f8 [] false w args∧laidMetH Tryz.prog laid1 w)∧sizedMet enc Tryz.prog Tryz.f8 (OpenSpec.ofChange Rows.encodeSquaresSpec) false w args)
   (Rows.encodeSquaresSpec.post enc Tryz.prog Tryz.f8 false true false false):=by
 refine returnsInHanded_of_change_and (C:=Tryz.checked) (X:=fun w _=>laidMetH Tryz.prog laid1 w) (fun _ _ _ hh h=>h.of_heap hh) own_ started (by kernel_rfl) Tryz.func8
  (ChangeSpec.witness_at (enc:=enc) (C:=Tryz.checked) (os:=os) (X:=fun w _=>laidMetH Tryz.prog laid1 w) false (laidWorld os) #[.agg #[.int .i64 0,.int .i64 0,.slice none 0 0],.agg #[.int .i64 0,.int .i64 0,.slice none 0 0],.agg #[.int .i64 0,.int .i64 0,.slice none 0 0],.bool false,.int .i64 0,.int .i64 0,.int .i64 0,.int .i64 0] 8 rfl (by kernel_rfl) (by kernel_rfl) (by kernel_rfl) (by kernel_rfl) (by kernel_rfl) (laidWorld_met os _)) ?_
 intro W base args ds gs before hval0 hW _ _ hL _
 have hval:∀ (j:Nat) t v,Tryz.f8.params[j]?=some t→args[j]?=some v→Value.okWide Tryz.prog W .any base t v:=hval0
 have hW':=hW
 obtain ⟨p,q,hA0,hV,rfl,hfz,hnd⟩:=hW
 have hA:DataW.TrodAll enc Tryz.prog W 0 (fun _=>true) true Tryz.f8.params.toList args.toList ds p:=hA0
 rw [Tryz.params8] at hA hval
 obtain ⟨v0,vs0,d0,ds0,p0,q0,hargs,rfl,rfl,h0,r0⟩:=trodAll_cons hA
 obtain ⟨v1,vs1,d1,ds1,p1,q1,rfl,rfl,rfl,h1,r1⟩:=trodAll_cons r0
 obtain ⟨v2,vs2,d2,ds2,p2,q2,rfl,rfl,rfl,h2,r2⟩:=trodAll_cons r1
 obtain ⟨v3,vs3,d3,ds3,p3,q3,rfl,rfl,rfl,h3,r3⟩:=trodAll_cons r2
 obtain ⟨v4,vs4,d4,ds4,p4,q4,rfl,rfl,rfl,h4,r4⟩:=trodAll_cons r3
 obtain ⟨v5,vs5,d5,ds5,p5,q5,rfl,rfl,rfl,h5,r5⟩:=trodAll_cons r4
 obtain ⟨v6,vs6,d6,ds6,p6,q6,rfl,rfl,rfl,h6,r6⟩:=trodAll_cons r5
 obtain ⟨v7,vs7,d7,ds7,p7,q7,rfl,rfl,rfl,h7,r7⟩:=trodAll_cons r6
 obtain ⟨rfl,rfl,rfl⟩:=trodAll_nil r7
 obtain rfl:args=#[v0,v1,v2,v3,v4,v5,v6,v7]:=by cases args;simp_all
 obtain ⟨rfl,rfl⟩:=trodVars_none hV
 have k0:=h0
 have lt0:∀ x∈p0,x.block<W.heap.size:=by obtain ⟨m,hm⟩:=k0;exact DataW.trod_lt m _ _ _ hm
 obtain ⟨f0,pv0,rfl,hk0,hd0⟩:=frame_in (hval 0 24 v0 rfl rfl) h0
 have k1:=h1
 have lt1:∀ x∈p1,x.block<W.heap.size:=by obtain ⟨m,hm⟩:=k1;exact DataW.trod_lt m _ _ _ hm
 obtain ⟨f1,pv1,rfl,hk1,hd1⟩:=frame_in (hval 1 24 v1 rfl rfl) h1
 have k2:=h2
 have lt2:∀ x∈p2,x.block<W.heap.size:=by obtain ⟨m,hm⟩:=k2;exact DataW.trod_lt m _ _ _ hm
 obtain ⟨f2,pv2,rfl,hk2,hd2⟩:=frame_in (hval 2 24 v2 rfl rfl) h2
 obtain ⟨n3,rfl,rfl,rfl⟩:=open_bool Tryz.underlying4 (hval 3 4 v3 rfl rfl) h3
 obtain ⟨n4,rfl,rfl,rfl,w4⟩:=open_int Tryz.underlying3 (hval 4 3 v4 rfl rfl) h4
 obtain ⟨n5,rfl,rfl,rfl,w5⟩:=open_int Tryz.underlying3 (hval 5 3 v5 rfl rfl) h5
 obtain ⟨n6,rfl,rfl,rfl,w6⟩:=open_int Tryz.underlying3 (hval 6 3 v6 rfl rfl) h6
 obtain ⟨n7,rfl,rfl,rfl,w7⟩:=open_int Tryz.underlying3 (hval 7 3 v7 rfl rfl) h7
 clear hA0 hval0
 simp only [List.append_nil] at hW'
 refine (esquares_card hd0 hk0 hd1 hk1 hd2 hk2 n3 n4 n5 n6 n7 (Nat.le_refl _) (errT_of_laid hL)).mono fun e W' ⟨he,hq⟩=>?_
 subst he
 have bel:=hq.quiet
 exact ⟨_,rfl,_,_,_,[],_,[],hW',trodAll_mk1 (shut_bool Tryz.underlying4 _),(trodAll_cons_mk (Below.trod laidOut_ (by kernel_rfl) (of_decide_eq_true (by kernel_rfl)) k0 bel lt0) (trodAll_cons_mk (Below.trod laidOut_ (by kernel_rfl) (of_decide_eq_true (by kernel_rfl)) k1 bel lt1) (trodAll_cons_mk (Below.trod laidOut_ (by kernel_rfl) (of_decide_eq_true (by kernel_rfl)) k2 bel lt2) (trodAll_cons_mk (shut_bool Tryz.underlying4 _) (trodAll_cons_mk (shut_int Tryz.underlying3 w4) (trodAll_cons_mk (shut_int Tryz.underlying3 w5) (trodAll_cons_mk (shut_int Tryz.underlying3 w6) (trodAll_cons_mk (shut_int Tryz.underlying3 w7) trodAll_mk0)))))))),rfl,bel.frame _,fun h=>by cases h⟩
theorem encodeSquares_row:Rows.EncodeSquaresSaid :=
 OpenClaim.holds_of_wide 8 Tryz.f8 rfl rfl rfl rfl rfl rfl rfl ⟨rfl,rfl,rfl,rfl,rfl⟩ rfl rfl rfl rfl rfl (by kernel_rfl) Tryz.func8 (by kernel_rfl)
  (of_decide_eq_true (by kernel_rfl)) (by unfold Func.isWrapper;first | (rw [if_pos (by decide +kernel)];kernel_rfl) | (rw [if_neg (by decide +kernel)];exact ⟨rfl,rfl⟩))
  (fun os started H enc _=>encodeSquares_lifted os started H enc)
theorem encodeSquares_holds:Rows.EncodeSquaresCardSaid :=
 Claim7.holds_tied_plain_at .later [] [.handle] true _ true
  encodeSquares_row (fun _ h=>by cases h) (by kernel_rfl) (fun _ h=>by cases h) encodeSquares_row_tie rfl ⟨rfl,rfl⟩ (by kernel_rfl) rfl
  (fun f fn hf hfn=>by
   obtain rfl:f=8:=Option.some.inj ((show Tryz.prog.funcNamed "kinescope/kinlaw22.EncodeSquares"=some 8 by kernel_rfl).symm.trans hf) |>.symm
   obtain rfl:fn=Tryz.f8:=(Option.some.inj (Tryz.func8.symm.trans hfn)).symm
   exact ⟨by kernel_rfl,fun j t ht=>by
    rw [Tryz.params8] at ht
    have hm:t∈[24,24,24,4,3,3,3,3]:=by simpa using Array.mem_of_getElem? ht
    have hall:([24,24,24,4,3,3,3,3].all fun u=>!Tryz.prog.wantsStandIn u)=true:=by kernel_rfl
    exact (show Tryz.prog.wantsStandIn t=false by simpa using List.all_eq_true.1 hall t hm)⟩)
  (by kernel_rfl)
end Go.Proofs.YtmgbbgffkakcaaaGreatDoor
