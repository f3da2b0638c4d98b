/- Joined texts: ECho, EFrm. Conditions: each part names its own. -/
import Derived.Test.YtkigikallkpbcaaGreatDoorT1
import Derived.Test.YtkigikallkpbcaaGreatDoorW7
import Derived.Test.YtkigikallkpbcaaGreatDoorW8
import Derived.Test.YtkigikallkpbcaaGreatDoorW9
import Derived.Test.YtkigikallkpbcaaGreatDoorS4
import Derived.Test.YtkigikallkpbcaaGreatDoorR1
import Derived.Test.YtkigikallkpbcaaGreatDoorS5
namespace Go.Proofs.YtkigikallkpbcaaGreatDoor
open Go.RowKit
set_option linter.unusedVariables false
set_option linter.unusedSimpArgs false
set_option maxRecDepth 100000
set_option maxHeartbeats 16000000
theorem all_nz (l:List Int):(!l.any nzB)=l.all (· == 0):=by
 unfold nzB
 induction l with
 | nil=>rfl
 | cons a l ih=>rw [List.any_cons,List.all_cons,Bool.not_or,ih];congr 1;simp [bne]
theorem restE_eq (cur:FrameD) (b:List Int) (x y q:Int) (rr:SqD×Int):restE cur b x y q rr=(betterE (betterE rr ⟨2,(bestAt cur b x y 8).1,[0,0,0,0],0,0,oneL cur b x y 8 q,[[],[],[],[]]⟩ (4*(bestAt cur b x y 8).2+8)) ⟨3,0,(fourE cur b x y q).1,0,0,[],(fourE cur b x y q).2.1⟩ (fourE cur b x y q).2.2).1:=rfl
section
theorem qECho0 {p:Prop} (h:p:=by
 have z1:=HSo.out.size
 have z2:=HZ5.out
 exact ⟨h3.large.mono (by omega) z1,h3.len,fun i hi=>(h3.small i hi).mono (by omega) z1⟩):p:=h
theorem choose_any {q r lo hi lo2 hi2 lo3 hi3:Nat} {sv cv pv:Value} {src cur prev:FrameD} {w:World} (key:Bool) (hs:FrOk src) (hc:FrOk cur) (hp:key=false→FrOk prev∧prev.W=src.W∧prev.H=src.H) (hW:cur.W=src.W) (hH:cur.H=src.H) (is:Ints .i64 lo hi w sv src.pix) (ic:Ints .i64 lo2 hi2 w cv cur.pix) (ip:Ints .i64 lo3 hi3 w pv prev.pix) (x y:Int) (hx:0≤x∧x+8≤src.W) (hy:0≤y∧y+8≤src.H) (hq:q≤15) (hr:r≤7) (hhi:hi3≤w.heap.size) :
  Calls Tryz.prog 106 #[.agg #[.int .i64 src.W,.int .i64 src.H,sv],.agg #[.int .i64 cur.W,.int .i64 cur.H,cv],.agg #[.int .i64 prev.W,.int .i64 prev.H,pv],.bool key,.int .i64 x,.int .i64 y,.int .i64 q,.int .i64 r] w fun e w'=>(∃ lv vs,e=.returned (.agg (sqL (chooseE src prev key q r cur x y).kind (chooseE src prev key q r cur x y).mode (chooseE src prev key q r cur x y).modes (chooseE src prev key q r cur x y).vx (chooseE src prev key q r cur x y).vy lv vs).toArray)∧(chooseE src prev key q r cur x y).modes.length=4∧SqIn w.heap.size w'.heap.size w' lv vs (chooseE src prev key q r cur x y).large (chooseE src prev key q r cur x y).small∧Only [] w w'):=by
 refine hidQ fun Q HPost=>?_
 have HGet:=lh (fun (W:World) (o:Only [] w W)=>pget_any hs (is.quiet o) x y hx hy)
 have hbl:=getSq_len src x y 8
 have sb:=getSq_in hs.sam x y 8
 have HBl:Hid ((getSq src x y 8).length=64):=lh hbl
 have hs1:=hs.w1
 have hs2:=hs.h1
 have HBlk:=lh (fun (hk:key=false) (W:World) (o:Only [] w W) (vx vy:Int) (h1:-15≤vx∧vx≤15) (h2:-15≤vy∧vy≤15)=>mblock_any (hp hk).1 (ip.quiet o) x y vx vy (by omega) (by omega) h1 h2)
 have HBkl:=lh (fun (vx vy:Int)=>blockD_len prev x y 8 vx vy)
 have HLev:=lh (fun (hk:key=false) (W:World) (l1 h1 l2 h2:Nat) (u v:Value) (vx vy:Int) (i1:Ints .i64 l1 h1 W u (getSq src x y 8)) (i2:Ints .i64 l2 h2 W v (blockD prev x y 8 vx vy))=>declevels_any (n:=8) (.inr rfl) i1 i2 (by rw [hbl]) (by rw [blockD_len]) sb (blockD_in (hp hk).1.sam x y 8 vx vy) q hq)
 have HLl:=lh (fun (hk:key=false) (vx vy:Int)=>(levelsE_ok (n:=8) (q:=q) (.inr rfl) hbl (blockD_len prev x y 8 vx vy) sb (blockD_in (hp hk).1.sam x y 8 vx vy) hq).1)
 have HZer:=lh (fun (W:World) (l1 h1:Nat) (v:Value) (l:List Int) (i1:Ints .i64 l1 h1 W v l) (hl:l.length≤1000)=>zero_any i1 (by omega))
 have HSea:=lh (fun (hk:key=false) (W:World) (o:Only [] w W) (l1 h1:Nat) (u:Value) (i1:Ints .i64 l1 h1 W u (getSq src x y 8)) (g:h1≤W.heap.size)=>msearch_any (r:=r) (hp hk).1 (ip.quiet o) i1 hbl sb x y (by have:=(hp hk).2.1;omega) (by have:=(hp hk).2.2;omega) hr (by have:=o.size;omega) g)
 have HSok:=lh (searchE_ok prev (getSq src x y 8) x y hr)
 have HCost:=lh (fun (hk:key=false) (W:World) (l1 h1 l2 h2:Nat) (u v:Value) (vx vy:Int) (g1:-15≤vx∧vx≤15) (g2:-15≤vy∧vy≤15) (i1:Ints .i64 l1 h1 W u (blockD prev x y 8 vx vy)) (i2:Ints .i64 l2 h2 W v (getSq src x y 8))=>mcost_any i1 i2 (by rw [blockD_len]) hbl (blockD_in (hp hk).1.sam x y 8 vx vy) sb vx vy g1 g2)
 have HOne:=lh (fun (W:World) (o:Only [] w W) (l1 h1:Nat) (u:Value) (i1:Ints .i64 l1 h1 W u (getSq src x y 8))=>mone_any (n:=8) (q:=q) (.inr rfl) hc (ic.quiet o) i1 hbl sb x y hx.1 (by omega) hy.1 (by omega) hq)
 have HOl:=lh (oneL_ok (n:=8) (q:=q) (.inr rfl) hc.sam hbl sb x y hq).1
 have hba:=bestAt_in hc.sam sb x y (n:=8) (.inr rfl) hbl
 have HFou:=lh (fun (W:World) (o:Only [] w W) (l1 h1:Nat) (u:Value) (i1:Ints .i64 l1 h1 W u (getSq src x y 8))=>mfour_any (q:=q) hc (ic.quiet o) i1 hbl sb x y hx.1 (by omega) hy.1 (by omega) hq)
 have HCh:Hid (chooseE src prev key q r cur x y=if key then restE cur (getSq src x y 8) x y q (sq0,-1) else if sameE prev (getSq src x y 8) x y q then sq0 else restE cur (getSq src x y 8) x y q (movedE prev (getSq src x y 8) x y q r)):=lh rfl
 have HSame:Hid (sameE prev (getSq src x y 8) x y q=(levelsE (getSq src x y 8) (blockD prev x y 8 0 0) q).all (· == 0)):=lh rfl
 have HMov:Hid (movedE prev (getSq src x y 8) x y q r=(⟨1,0,[0,0,0,0],(searchE prev (getSq src x y 8) x y r).vx,(searchE prev (getSq src x y 8) x y r).vy,levelsE (getSq src x y 8) (blockD prev x y 8 (searchE prev (getSq src x y 8) x y r).vx (searchE prev (getSq src x y 8) x y r).vy) q,[[],[],[],[]]⟩,costE (blockD prev x y 8 (searchE prev (getSq src x y 8) x y r).vx (searchE prev (getSq src x y 8) x y r).vy) (getSq src x y 8) (searchE prev (getSq src x y 8) x y r).vx (searchE prev (getSq src x y 8) x y r).vy)):=lh rfl
 obtain ⟨sa,sc,rfl,-⟩:=is.open
 obtain ⟨ca,cc,rfl,-⟩:=ic.open
 obtain ⟨pa,pc,rfl,-⟩:=ip.open
 obtain ⟨CH,hCH⟩:∃ z,z=chooseE src prev key q r cur x y:=⟨_,rfl⟩
 rw [← hCH] at HCh HPost
 generalize getSq src x y 8=b at *
 have hkn:key=false∨key=true:=by cases key <;> simp
 clear is ic ip hs hc hp hx hy hq hr hbl sb hCH hs1 hs2 hW hH
 have HQ4:Hid (Only [] w ((((w.alloc (.cells #[.int .i64 src.W,.int .i64 src.H,.slice sa src.pix.length sc] 73)).alloc (.cells #[.int .i64 cur.W,.int .i64 cur.H,.slice ca cur.pix.length cc] 73)).alloc (.cells #[.int .i64 prev.W,.int .i64 prev.H,.slice pa prev.pix.length pc] 73)).alloc (.cells #[.int .i64 0,.int .i64 0,.int .i64 0,.int .i64 0,.int .i64 0,.int .i64 0,.int .i64 0,.int .i64 0,.slice none 0 0,.slice none 0 0,.slice none 0 0,.slice none 0 0,.slice none 0 0] 158))):=lh ((((Only.new w _).alloc _).alloc _).alloc _)
 have HRs:Hid (((((w.alloc (.cells #[.int .i64 src.W,.int .i64 src.H,.slice sa src.pix.length sc] 73)).alloc (.cells #[.int .i64 cur.W,.int .i64 cur.H,.slice ca cur.pix.length cc] 73)).alloc (.cells #[.int .i64 prev.W,.int .i64 prev.H,.slice pa prev.pix.length pc] 73)).alloc (.cells #[.int .i64 0,.int .i64 0,.int .i64 0,.int .i64 0,.int .i64 0,.int .i64 0,.int .i64 0,.int .i64 0,.slice none 0 0,.slice none 0 0,.slice none 0 0,.slice none 0 0,.slice none 0 0] 158)).heap[w.heap.size]?=some (.cells #[.int .i64 src.W,.int .i64 src.H,.slice sa src.pix.length sc] 73 (0,0))):=lh ((((Only.new (w.alloc _) _).alloc _).alloc _).row (heap_alloc_new w _))
 have HRc:Hid (((((w.alloc (.cells #[.int .i64 src.W,.int .i64 src.H,.slice sa src.pix.length sc] 73)).alloc (.cells #[.int .i64 cur.W,.int .i64 cur.H,.slice ca cur.pix.length cc] 73)).alloc (.cells #[.int .i64 prev.W,.int .i64 prev.H,.slice pa prev.pix.length pc] 73)).alloc (.cells #[.int .i64 0,.int .i64 0,.int .i64 0,.int .i64 0,.int .i64 0,.int .i64 0,.int .i64 0,.int .i64 0,.slice none 0 0,.slice none 0 0,.slice none 0 0,.slice none 0 0,.slice none 0 0] 158)).heap[w.heap.size+1]?=some (.cells #[.int .i64 cur.W,.int .i64 cur.H,.slice ca cur.pix.length cc] 73 (0,0))):=lh (((Only.new ((w.alloc _).alloc _) _).alloc _).row (heap_alloc_new' (by simp)))
 have HRp:Hid (((((w.alloc (.cells #[.int .i64 src.W,.int .i64 src.H,.slice sa src.pix.length sc] 73)).alloc (.cells #[.int .i64 cur.W,.int .i64 cur.H,.slice ca cur.pix.length cc] 73)).alloc (.cells #[.int .i64 prev.W,.int .i64 prev.H,.slice pa prev.pix.length pc] 73)).alloc (.cells #[.int .i64 0,.int .i64 0,.int .i64 0,.int .i64 0,.int .i64 0,.int .i64 0,.int .i64 0,.int .i64 0,.slice none 0 0,.slice none 0 0,.slice none 0 0,.slice none 0 0,.slice none 0 0] 158)).heap[w.heap.size+1+1]?=some (.cells #[.int .i64 prev.W,.int .i64 prev.H,.slice pa prev.pix.length pc] 73 (0,0))):=lh ((Only.new (((w.alloc _).alloc _).alloc _) _).row (heap_alloc_new' (by simp)))
 have HRt:Hid (SqRow (w.heap.size+1+1+1) ((((w.alloc (.cells #[.int .i64 src.W,.int .i64 src.H,.slice sa src.pix.length sc] 73)).alloc (.cells #[.int .i64 cur.W,.int .i64 cur.H,.slice ca cur.pix.length cc] 73)).alloc (.cells #[.int .i64 prev.W,.int .i64 prev.H,.slice pa prev.pix.length pc] 73)).alloc (.cells #[.int .i64 0,.int .i64 0,.int .i64 0,.int .i64 0,.int .i64 0,.int .i64 0,.int .i64 0,.int .i64 0,.slice none 0 0,.slice none 0 0,.slice none 0 0,.slice none 0 0,.slice none 0 0] 158)) 0 0 [0,0,0,0] 0 0 nilS [nilS,nilS,nilS,nilS]):=lh (heap_alloc_new' (by simp))
 have HZ4:Hid (((((w.alloc (.cells #[.int .i64 src.W,.int .i64 src.H,.slice sa src.pix.length sc] 73)).alloc (.cells #[.int .i64 cur.W,.int .i64 cur.H,.slice ca cur.pix.length cc] 73)).alloc (.cells #[.int .i64 prev.W,.int .i64 prev.H,.slice pa prev.pix.length pc] 73)).alloc (.cells #[.int .i64 0,.int .i64 0,.int .i64 0,.int .i64 0,.int .i64 0,.int .i64 0,.int .i64 0,.int .i64 0,.slice none 0 0,.slice none 0 0,.slice none 0 0,.slice none 0 0,.slice none 0 0] 158)).heap.size=w.heap.size+1+1+1+1):=lh (by simp)
 obtain ⟨a0,a1,a2⟩:=frame_cells HRs.out
 go_enter Tryz.func106,Tryz.ntmps106
 go_wp2_with fail
 generalize hW4:World.alloc (World.alloc (World.alloc (World.alloc w _) _) _) _=W4 at *
 clear hW4 a0 a1 a2
 go_at_call 127
 refine (HGet.out W4 HQ4.out).mono ?_
 rintro e w5 ⟨bv,rfl,hb5,hq5⟩
 obtain ⟨gb,bc,rfl,hgb,hgb'⟩:=hb5.form (by rw [HBl.out];omega)
 rw [HBl.out] at hb5 ⊢
 have HB5:=lh hb5.ints
 have HQ5:=lh hq5
 have HRt5:=lh (hq5.row HRt.out)
 clear hb5 hq5 hgb hgb' HGet
 have HS0:=lh (heap_alloc_new w5 (.cells (sqL 0 0 [0,0,0,0] 0 0 nilS [nilS,nilS,nilS,nilS]).toArray 158))
 have HIz:=lh (sqL_info (k:=0) (mo:=0) (ms:=[0,0,0,0]) (vx:=0) (vy:=0) (lv:=nilS) (vs:=[nilS,nilS,nilS,nilS]) rfl rfl)
 have HOz:=lh (sqL_one (k:=0) (mo:=0) (ms:=[0,0,0,0]) (vx:=0) (vy:=0) (lv:=nilS) rfl nils_one)
 have HUnd:=lh Tryz.underlying158
 have hr6:((w5.alloc (.cells #[.int .i64 0,.int .i64 0,.int .i64 0,.int .i64 0,.int .i64 0,.int .i64 0,.int .i64 0,.int .i64 0,.slice none 0 0,.slice none 0 0,.slice none 0 0,.slice none 0 0,.slice none 0 0] 158)).alloc (.cells #[.int .i64 0] 3)).heap[w5.heap.size+1]?=some (.cells #[.int .i64 0] 3 (0,0)):=heap_alloc_new' (by simp)
 have hs6:SqRow w5.heap.size ((w5.alloc (.cells #[.int .i64 0,.int .i64 0,.int .i64 0,.int .i64 0,.int .i64 0,.int .i64 0,.int .i64 0,.int .i64 0,.slice none 0 0,.slice none 0 0,.slice none 0 0,.slice none 0 0,.slice none 0 0] 158)).alloc (.cells #[.int .i64 0] 3)) 0 0 [0,0,0,0] 0 0 nilS [nilS,nilS,nilS,nilS]:=(Only.new _ _).row HS0.out
 have ho7:=Only.setRow (S:=[w5.heap.size]) (Only.refl _ ((w5.alloc (.cells #[.int .i64 0,.int .i64 0,.int .i64 0,.int .i64 0,.int .i64 0,.int .i64 0,.int .i64 0,.int .i64 0,.slice none 0 0,.slice none 0 0,.slice none 0 0,.slice none 0 0,.slice none 0 0] 158)).alloc (.cells #[.int .i64 0] 3))) (g:=w5.heap.size) (fun _=>by simp) #[.int .i64 0,.int .i64 0,.int .i64 0,.int .i64 0,.int .i64 0,.int .i64 0,.int .i64 0,.int .i64 0,.slice none 0 0,.slice none 0 0,.slice none 0 0,.slice none 0 0,.slice none 0 0]
 have hs7:SqRow w5.heap.size (((w5.alloc (.cells #[.int .i64 0,.int .i64 0,.int .i64 0,.int .i64 0,.int .i64 0,.int .i64 0,.int .i64 0,.int .i64 0,.slice none 0 0,.slice none 0 0,.slice none 0 0,.slice none 0 0,.slice none 0 0] 158)).alloc (.cells #[.int .i64 0] 3)).setRow w5.heap.size #[.int .i64 0,.int .i64 0,.int .i64 0,.int .i64 0,.int .i64 0,.int .i64 0,.int .i64 0,.int .i64 0,.slice none 0 0,.slice none 0 0,.slice none 0 0,.slice none 0 0,.slice none 0 0]) 0 0 [0,0,0,0] 0 0 nilS [nilS,nilS,nilS,nilS]:=setRow_heap ((w5.alloc (.cells #[.int .i64 0,.int .i64 0,.int .i64 0,.int .i64 0,.int .i64 0,.int .i64 0,.int .i64 0,.int .i64 0,.slice none 0 0,.slice none 0 0,.slice none 0 0,.slice none 0 0,.slice none 0 0] 158)).alloc (.cells #[.int .i64 0] 3)) w5.heap.size _ #[.int .i64 0,.int .i64 0,.int .i64 0,.int .i64 0,.int .i64 0,.int .i64 0,.int .i64 0,.int .i64 0,.slice none 0 0,.slice none 0 0,.slice none 0 0,.slice none 0 0,.slice none 0 0] _ _ hs6
 have hr7:=ho7.rowAt hr6 (by simp)
 have cL:(((w5.alloc (.cells #[.int .i64 0,.int .i64 0,.int .i64 0,.int .i64 0,.int .i64 0,.int .i64 0,.int .i64 0,.int .i64 0,.slice none 0 0,.slice none 0 0,.slice none 0 0,.slice none 0 0,.slice none 0 0] 158)).alloc (.cells #[.int .i64 0] 3)).setRow w5.heap.size #[.int .i64 0,.int .i64 0,.int .i64 0,.int .i64 0,.int .i64 0,.int .i64 0,.int .i64 0,.int .i64 0,.slice none 0 0,.slice none 0 0,.slice none 0 0,.slice none 0 0,.slice none 0 0]).cell? ⟨w5.heap.size+1,0,none⟩=some (.int .i64 0):=by rw [cell_of_row _ _ _ _ _ _ hr7];rfl
 have fL:=frozen_of_row _ (w5.heap.size+1) 0 _ _ hr7
 have hr8:=heap_setCell_same _ (w5.heap.size+1) 0 _ _ (.int .i64 (-1)) hr7
 have ho8:Only [w5.heap.size+1] (((w5.alloc (.cells #[.int .i64 0,.int .i64 0,.int .i64 0,.int .i64 0,.int .i64 0,.int .i64 0,.int .i64 0,.int .i64 0,.slice none 0 0,.slice none 0 0,.slice none 0 0,.slice none 0 0,.slice none 0 0] 158)).alloc (.cells #[.int .i64 0] 3)).setRow w5.heap.size #[.int .i64 0,.int .i64 0,.int .i64 0,.int .i64 0,.int .i64 0,.int .i64 0,.int .i64 0,.int .i64 0,.slice none 0 0,.slice none 0 0,.slice none 0 0,.slice none 0 0,.slice none 0 0]) ((((w5.alloc (.cells #[.int .i64 0,.int .i64 0,.int .i64 0,.int .i64 0,.int .i64 0,.int .i64 0,.int .i64 0,.int .i64 0,.slice none 0 0,.slice none 0 0,.slice none 0 0,.slice none 0 0,.slice none 0 0] 158)).alloc (.cells #[.int .i64 0] 3)).setRow w5.heap.size #[.int .i64 0,.int .i64 0,.int .i64 0,.int .i64 0,.int .i64 0,.int .i64 0,.int .i64 0,.int .i64 0,.slice none 0 0,.slice none 0 0,.slice none 0 0,.slice none 0 0,.slice none 0 0]).setCell ⟨w5.heap.size+1,0,none⟩ (.int .i64 (-1))):=(Only.refl _ _).setCell (by simp) _
 have HB0:Hid (BestAt w5.heap.size (w5.heap.size+1) (w5.heap.size+1+1) ((((w5.alloc (.cells #[.int .i64 0,.int .i64 0,.int .i64 0,.int .i64 0,.int .i64 0,.int .i64 0,.int .i64 0,.int .i64 0,.slice none 0 0,.slice none 0 0,.slice none 0 0,.slice none 0 0,.slice none 0 0] 158)).alloc (.cells #[.int .i64 0] 3)).setRow w5.heap.size #[.int .i64 0,.int .i64 0,.int .i64 0,.int .i64 0,.int .i64 0,.int .i64 0,.int .i64 0,.int .i64 0,.slice none 0 0,.slice none 0 0,.slice none 0 0,.slice none 0 0,.slice none 0 0]).setCell ⟨w5.heap.size+1,0,none⟩ (.int .i64 (-1))) (sq0,-1)):=lh ⟨hr8,⟨nilS,[nilS,nilS,nilS,nilS],ho8.rowAt hs7 (by simp),⟨Ints.nil _ _ _ _,rfl,fun i hi=>by
  match i,hi with
  | 0,_=>exact Ints.nil _ _ _ _
  | 1,_=>exact Ints.nil _ _ _ _
  | 2,_=>exact Ints.nil _ _ _ _
  | 3,_=>exact Ints.nil _ _ _ _⟩⟩,rfl,⟨by omega,by omega,by omega⟩⟩
 have HQ8:Hid (Only [] w5 ((((w5.alloc (.cells #[.int .i64 0,.int .i64 0,.int .i64 0,.int .i64 0,.int .i64 0,.int .i64 0,.int .i64 0,.int .i64 0,.slice none 0 0,.slice none 0 0,.slice none 0 0,.slice none 0 0,.slice none 0 0] 158)).alloc (.cells #[.int .i64 0] 3)).setRow w5.heap.size #[.int .i64 0,.int .i64 0,.int .i64 0,.int .i64 0,.int .i64 0,.int .i64 0,.int .i64 0,.int .i64 0,.slice none 0 0,.slice none 0 0,.slice none 0 0,.slice none 0 0,.slice none 0 0]).setCell ⟨w5.heap.size+1,0,none⟩ (.int .i64 (-1)))):=lh ((((Only.new w5 _).alloc _).trans ho7 (U:=[]) (by simp) (fun g hg hlt=>by rw [mSg] at hg;omega)).trans ho8 (U:=[]) (by simp) (fun g hg hlt=>by rw [mSg] at hg;omega))
 have HZ8:Hid ((((((w5.alloc (.cells #[.int .i64 0,.int .i64 0,.int .i64 0,.int .i64 0,.int .i64 0,.int .i64 0,.int .i64 0,.int .i64 0,.slice none 0 0,.slice none 0 0,.slice none 0 0,.slice none 0 0,.slice none 0 0] 158)).alloc (.cells #[.int .i64 0] 3)).setRow w5.heap.size #[.int .i64 0,.int .i64 0,.int .i64 0,.int .i64 0,.int .i64 0,.int .i64 0,.int .i64 0,.int .i64 0,.slice none 0 0,.slice none 0 0,.slice none 0 0,.slice none 0 0,.slice none 0 0]).setCell ⟨w5.heap.size+1,0,none⟩ (.int .i64 (-1)))).heap.size=w5.heap.size+1+1):=lh (by simp [World.setCell,World.setRow])
 clear hr6 hs6 ho7 hs7 hr7 hr8 ho8
 go_upto_if 36 with (first
  | (refine wpList_store_row rfl (.tmp 18) (.tmp 33) 158 rfl rfl rfl ((Only.new _ _).row HS0.out) HIz.out rfl HOz.out ?_)
  | fail)
 clear cL fL HS0
 generalize hW8:World.setCell (World.setRow _ _ _) _ _=W8 at *
 clear hW8
 have HB8:Hid (Ints .i64 w5.heap.size w5.heap.size w5 .nilIface []→True):=lh (fun _=>trivial)
 have HBv:=lh (HB5.out.quiet HQ8.out)
 have HQw:=lh ((HQ4.out.q HQ5.out).q HQ8.out)
 have HZ5:Hid (w.heap.size+1+1+1+1≤w5.heap.size):=lh (by have:=HQ5.out.size;have:=HZ4.out;omega)
 obtain ⟨BQ,hBQ⟩:∃ z,z=w5.heap.size:=⟨_,rfl⟩
 rw [← hBQ] at HB0 HBv HZ8 HZ5 ⊢
 have HRs8:=lh ((HQ5.out.q HQ8.out).row HRs.out)
 have HRc8:=lh ((HQ5.out.q HQ8.out).row HRc.out)
 have HRp8:=lh ((HQ5.out.q HQ8.out).row HRp.out)
 have HRt8:=lh ((HQ5.out.q HQ8.out).row HRt.out)
 clear HB5 HQ5 HQ8 HRs HRc HRp HRt HRt5 HZ4 hBQ HB8
 go_cut [] (fun wx=>∃ (rr:SqD×Int),Hid (BestAt BQ (BQ+1) (BQ+1+1) wx rr)∧Hid (CH=restE cur b x y q rr)∧Hid (Only [BQ+1,BQ] W8 wx))
 case first =>
  rcases hkn with rfl | rfl
  ·have HCf:Hid (CH=if sameE prev b x y q then sq0 else restE cur b x y q (movedE prev b x y q r)):=lh (by rw [HCh.out];simp)
   rw [HSame.out,← all_nz] at HCf
   obtain ⟨p0,p1,p2⟩:=frame_cells HRp8.out
   go_wp2_with fail
   go_at_call 117
   refine (HBlk.out (by first | rfl | trivial) W8 HQw.out 0 0 (by omega) (by omega)).mono ?_
   rintro e w9 ⟨v9,rfl,ho9,hq9⟩
   obtain ⟨g9,c9,rfl,-,-⟩:=ho9.form (by rw [HBkl.out];omega)
   rw [HBkl.out] at ho9 ⊢
   have HO9:=lh ho9
   have HQ9:=lh hq9
   clear ho9 hq9 p0 p1 p2
   go_wp2_with fail
   go_at_call 130
   refine (HLev.out (by first | rfl | trivial) w9 _ _ _ _ _ _ 0 0 (HBv.out.quiet HQ9.out) HO9.out.ints).mono ?_
   rintro e w10 ⟨v10,rfl,ho10,hq10⟩
   have hl0:=HLl.out (by first | rfl | trivial) 0 0
   obtain ⟨L0,hL0⟩:∃ z,z=levelsE b (blockD prev x y 8 0 0) q:=⟨_,rfl⟩
   rw [← hL0] at ho10 hl0 HCf
   obtain ⟨g10,c10,rfl,-,-⟩:=ho10.form (by omega)
   rw [hl0] at ho10 ⊢
   have HO10:=lh ho10
   have HQ10:=lh (HQ9.out.q hq10)
   have Hl0:=lh hl0
   clear ho10 hq10 hl0 hL0
   go_wp2_with fail
   have hzer:=HZer.out w10 _ _ _ L0 HO10.out.ints (by rw [Hl0.out];omega)
   rw [show (8*8:Nat)=64 from rfl] at *
   go_at_call 129
   refine hzer.mono ?_
   rintro e w11 ⟨rfl,hq11⟩
   have HQ11:=lh (HQ10.out.q hq11)
   clear hq11 hzer
   cases hz:(!L0.any nzB) with
   | true =>
    have hch:CH=sq0:=by rw [HCf.out,hz];rfl
    rw [hch] at HPost
    obtain ⟨lv0,vs0,hrow0,hin0⟩:=(HB0.out.quiet HQ11.out).best
    have HRow0:=lh hrow0
    have HIn0:=lh hin0
    have HI0:=lh (sqL_info (k:=0) (mo:=0) (ms:=[0,0,0,0]) (vx:=0) (vy:=0) (lv:=lv0) (vs:=vs0) rfl hin0.len)
    have HO0:=lh (sqL_one (k:=0) (mo:=0) (ms:=[0,0,0,0]) (vx:=0) (vy:=0) (lv:=lv0) (vs:=vs0) hin0.one.1 hin0.one.2)
    have HZ0:=lh (sqL_sizes (k:=0) (mo:=0) (ms:=[0,0,0,0]) (vx:=0) (vy:=0) (lv:=nilS) (vs:=[nilS,nilS,nilS,nilS]) (k':=0) (mo':=0) (ms':=[0,0,0,0]) (vx':=0) (vy':=0) (lv':=lv0) (vs':=vs0) rfl rfl rfl hin0.len)
    have HT11:=lh (HQ11.out.row HRt8.out)
    have HFn:=lh (show SqRow (w.heap.size+1+1+1) (w11.setRow (w.heap.size+1+1+1) (sqL 0 0 [0,0,0,0] 0 0 lv0 vs0).toArray) 0 0 [0,0,0,0] 0 0 lv0 vs0 from setRow_heap w11 (w.heap.size+1+1+1) _ _ _ _ HT11.out)
    have HSo:=lh (Only.setRow (S:=[w.heap.size+1+1+1]) (Only.refl _ w11) (g:=w.heap.size+1+1+1) (fun _=>by simp) (sqL 0 0 [0,0,0,0] 0 0 lv0 vs0).toArray)
    clear hrow0 hin0 hz hch
    go_wp2_with (first
     | (refine wpList_load_row rfl (.tmp 18) 158 rfl rfl HRow0.out HUnd.out rfl HI0.out ?_)
     | (refine wpList_store_row rfl (.tmp 16) (.tmp 46) 158 rfl rfl rfl HT11.out HI0.out HZ0.out HO0.out ?_)
     | fail)
    refine bodyPost_ret (v:=.agg (sqL 0 0 [0,0,0,0] 0 0 lv0 vs0).toArray) (results_cell_row Tryz.results106 _ _ (w.heap.size+1+1+1) _ _ _ _ rfl HFn.out HUnd.out rfl HI0.out) rfl (HPost.out _ _ ⟨lv0,vs0,rfl,rfl,?_,?_⟩)
    ·have h3:=HIn0.out.only HSo.out (fun g hg=>by rw [mSg] at hg;have:=HZ5.out;have:=HZ8.out;exact .inl (by omega))
     exact qECho0
    ·exact (HQw.out.q HQ11.out).trans HSo.out (U:=[]) (by simp) (fun g hg hlt=>by rw [mSg] at hg;omega)
   | false =>
    have hch:CH=restE cur b x y q (movedE prev b x y q r):=by rw [HCf.out,hz];simp
    have HC2:=lh hch
    clear hch hz HCf
    have HSe:=lh (HSea.out (by first | rfl | trivial) w11 (HQw.out.q HQ11.out) _ _ _ (HBv.out.quiet HQ11.out) (by have:=HQ11.out.size;have:=HZ8.out;omega))
    generalize searchE prev b x y r=SS at *
    obtain ⟨SX,SY,SC⟩:=SS
    obtain ⟨o1,o2,o3,o4⟩:=HSok.out
    simp only at o1 o2 o3 o4 HSe HMov
    obtain ⟨p0,p1,p2⟩:=frame_cells (HQ11.out.row HRp8.out)
    go_wp2_with fail
    go_at_call 131
    refine HSe.out.mono ?_
    rintro e w12 ⟨rfl,hq12⟩
    have HQ12:=lh (HQ11.out.q hq12)
    clear hq12 HSe p0 p1 p2
    have HQn:=lh (Only.new w12 (.cells #[.int .i64 SX,.int .i64 SY] 155))
    have HRv:=lh (heap_alloc_new w12 (.cells #[.int .i64 SX,.int .i64 SY] 155))
    obtain ⟨p0,p1,p2⟩:=frame_cells ((HQ12.out.q HQn.out).row HRp8.out)
    obtain ⟨v0,v1,-⟩:=row2 HRv.out
    go_wp2_with fail
    generalize hW13:World.alloc w12 _=W13 at *
    clear hW13 p0 p1 p2 v0 v1
    have HQ13:=lh (HQ12.out.q HQn.out)
    have HVb:Hid (W8.heap.size≤w12.heap.size):=lh HQ12.out.size
    generalize w12.heap.size=VB at *
    clear HQn
    go_at_call 117
    refine (HBlk.out (by first | rfl | trivial) W13 (HQw.out.q HQ13.out) SX SY ⟨o1,o2⟩ ⟨o3,o4⟩).mono ?_
    rintro e w14 ⟨v14,rfl,ho14,hq14⟩
    obtain ⟨g14,c14,rfl,-,-⟩:=ho14.form (by rw [HBkl.out];omega)
    rw [HBkl.out] at ho14 ⊢
    try rw [show (8*8:Nat)=64 from rfl] at ho14 ⊢
    have HI14:=lh ho14.ints
    have HQ14:=lh (HQ13.out.q hq14)
    have HRv14:=lh (hq14.row HRv.out)
    clear ho14 hq14 HRv
    obtain ⟨v0,v1,-⟩:=row2 HRv14.out
    go_wp2_with fail
    go_at_call 132
    refine (HCost.out (by first | rfl | trivial) w14 _ _ _ _ _ _ SX SY ⟨o1,o2⟩ ⟨o3,o4⟩ HI14.out (HBv.out.quiet HQ14.out)).mono ?_
    rintro e w15 ⟨rfl,hq15⟩
    have HQ15:=lh (HQ14.out.q hq15)
    have HI15:=lh (HI14.out.quiet hq15)
    have HRv15:=lh (hq15.row HRv14.out)
    clear hq15 HRv14 HI14 v0 v1
    obtain ⟨v0,v1,-⟩:=row2 HRv15.out
    have HLm:=lh (HLl.out (by first | rfl | trivial) SX SY)
    generalize hcm:costE (blockD prev x y 8 SX SY) b SX SY=CM at *
    go_wp2_with fail
    have HVn:Hid (VB∉[BQ+1,BQ]):=lh (by have:=HVb.out;have:=HZ8.out;simp only [List.mem_cons,List.not_mem_nil,or_false];omega)
    refine wp_region_held_drew (S:=(fun w'=>w'.cell? ⟨VB,0,none⟩=some (.int .i64 SX)∧w'.cell? ⟨VB,1,none⟩=some (.int .i64 SY))) (by kernel_rfl) ?_ (fun hHeld=>?_)
    ·exact ⟨v0,v1⟩
    refine tk 0 68 ?_
    refine tk 1 69 ?_
    refine tk 2 70 ?_
    refine tk 3 71 ?_
    refine tk 4 72 ?_
    refine tk 7 75 ?_
    refine rdy (rdc 5 73 (fun K hK=>?_) .nil)
    go_simp
    go_at_call 130
    refine (HLev.out (by first | rfl | trivial) _ _ _ _ _ _ _ SX SY (HBv.out.quiet HQ15.out.drew) (HI15.out.quiet (Only.refl [] _).drew)).mono ?_
    rintro e w16 ⟨v16,rfl,ho16,hq16⟩
    obtain ⟨g16,c16,rfl,-,-⟩:=ho16.form (by rw [HLm.out];omega)
    rw [HLm.out] at ho16 ⊢
    try rw [show (8*8:Nat)=64 from rfl] at ho16 ⊢
    have hd16:=(Only.refl [] w15).drew.q hq16
    have HO16:=lh ho16
    have HQ16:=lh (HQ15.out.q hd16)
    clear ho16 hq16
    refine hK.out _ _ ?_ (fun hHeld=>?_)
    ·exact ⟨hd16.cell v0 (by simp),hd16.cell v1 (by simp)⟩
    clear hK K
    try simp only [Act.put,List.setIfInBounds_toArray,List.set_cons_zero,List.set_cons_succ]
    refine tk 6 74 ?_
    refine rdy (rdc 8 76 (fun K hK=>?_) .nil)
    go_simp
    have hin16:SqIn (BQ+1+1) w16.heap.size w16 (.slice (some ⟨g16,0,none⟩) 64 c16) [nilS,nilS,nilS,nilS] (levelsE b (blockD prev x y 8 SX SY) q) [[],[],[],[]]:=⟨HO16.out.ints.mono (by have:=HQ15.out.size;have:=HZ8.out;simp only [show w15.drew.heap.size=w15.heap.size from rfl];omega) (Nat.le_refl _),rfl,fun i hi=>by
     match i,hi with
     | 0,_=>exact Ints.nil _ _ _ _
     | 1,_=>exact Ints.nil _ _ _ _
     | 2,_=>exact Ints.nil _ _ _ _
     | 3,_=>exact Ints.nil _ _ _ _⟩
    have htk:=mtakeB_any (s:=⟨1,0,[0,0,0,0],SX,SY,levelsE b (blockD prev x y 8 SX SY) q,[[],[],[],[]]⟩) (c:=CM) (HB0.out.quiet HQ16.out) rfl hin16
    go_at_call 128
    refine htk.mono ?_
    rintro e w17 ⟨rfl,hb17,hq17⟩
    have HB17:=lh hb17
    have HT17:=lh hq17
    have e0:=hq17.cell (hd16.cell v0 (by simp)) HVn.out
    have e1:=hq17.cell (hd16.cell v1 (by simp)) HVn.out
    clear hb17 hq17 htk hin16
    refine hK.out _ _ ?_ (fun hHeld=>?_)
    ·exact ⟨e0,e1⟩
    clear hK K
    try simp only [Act.put,List.setIfInBounds_toArray,List.set_cons_zero,List.set_cons_succ]
    refine wpAnyH_done (by kernel_rfl) ?_ _
    go_wp2_with fail
    go_meet
    refine ⟨movedE prev b x y q r,lh ?_,HC2,lh ((HQ16.out.mono (U:=[BQ+1,BQ]) (by simp)).trans HT17.out (fun _ h _=>h) (fun _ h _=>h))⟩
    rw [HMov.out]
    exact HB17.out
  ·go_wp2_with fail
   go_meet
   exact ⟨(sq0,-1),HB0,lh (by rw [HCh.out];simp),lh (Only.refl _ _)⟩
 case rest =>
  obtain ⟨rr,HBc,HCc,HQc⟩:=hcut
  obtain ⟨W9,hW9⟩:∃ z,z=wc:=⟨_,rfl⟩
  subst hW9
  rw [restE_eq] at HCc
  have HQ9:Hid (Only [] w W9):=lh (HQw.out.trans HQc.out (U:=[]) (by simp) (fun g hg hlt=>by have:=HZ5.out;simp only [List.mem_cons,List.not_mem_nil,or_false] at hg;omega))
  have HI9:=lh (HBv.out.only HQc.out (fun g hg=>by simp only [List.mem_cons,List.not_mem_nil,or_false] at hg;omega))
  have HK:Hid (w.heap.size+1∉[BQ+1,BQ]∧w.heap.size+1+1+1∉[BQ+1,BQ]):=lh (by have:=HZ5.out;simp only [List.mem_cons,List.not_mem_nil,or_false];omega)
  have HRc9:=lh (HQc.out.rowAt HRc8.out HK.out.1)
  have HRt9:=lh (HQc.out.rowAt HRt8.out HK.out.2)
  have hz9:=HQc.out.size
  have HZ9:Hid (BQ+1+1≤W9.heap.size):=lh (by have:=HZ8.out;omega)
  clear hz9 HQc HRc8 HRt8 HQw HB0 HBv HRs8 HRp8 HMov HSame HBlk HLev HLl HZer HSea HSok HCost HCh HBkl
  have HOn:=lh (HOne.out W9 HQ9.out _ _ _ HI9.out)
  obtain ⟨bs0,bs1⟩:=hba
  obtain ⟨BA,hBA⟩:∃ z,z=bestAt cur b x y 8:=⟨_,rfl⟩
  rw [← hBA] at HOn HCc bs0 bs1
  obtain ⟨bm,bs⟩:=BA
  simp only at HOn HCc bs0 bs1
  generalize oneL cur b x y 8 q=L at *
  have e1:IntKind.i64.wrap (4*bs)=4*bs:=by rw [IntKind.wrap_i64];omega
  have e2:IntKind.i64.wrap (4*bs+8)=4*bs+8:=by rw [IntKind.wrap_i64];omega
  obtain ⟨c0,c1,c2⟩:=frame_cells HRc9.out
  clear hBA HOne
  go_wp2_with fail
  go_at_call 133
  refine HOn.out.mono ?_
  rintro e w10 ⟨v10,rfl,ho10,hq10⟩
  obtain ⟨g10,c10,rfl,-,-⟩:=ho10.form (by rw [HOl.out];omega)
  rw [HOl.out] at ho10 ⊢
  try rw [show (8*8:Nat)=64 from rfl] at ho10 ⊢
  have HO10:=lh ho10
  have HQ10:=lh hq10
  clear ho10 hq10 HOn c0 c1 c2
  go_wp2_with fail
  have hin10:SqIn (BQ+1+1) w10.heap.size w10 (.slice (some ⟨g10,0,none⟩) 64 c10) [nilS,nilS,nilS,nilS] L [[],[],[],[]]:=⟨HO10.out.ints.mono HZ9.out (Nat.le_refl _),rfl,fun i hi=>by
   match i,hi with
   | 0,_=>exact Ints.nil _ _ _ _
   | 1,_=>exact Ints.nil _ _ _ _
   | 2,_=>exact Ints.nil _ _ _ _
   | 3,_=>exact Ints.nil _ _ _ _⟩
  have htk:=mtakeB_any (s:=⟨2,bm,[0,0,0,0],0,0,L,[[],[],[],[]]⟩) (c:=4*bs+8) (HBc.out.quiet HQ10.out) rfl hin10
  go_at_call 128
  refine htk.mono ?_
  rintro e w11 ⟨rfl,hb11,hq11⟩
  have HB11:=lh hb11
  have HQ11:Hid (Only [BQ+1,BQ] W9 w11):=lh ((HQ10.out.mono (U:=[BQ+1,BQ]) (by simp)).trans hq11 (fun _ h _=>h) (fun _ h _=>h))
  clear hb11 hq11 htk hin10 HO10 HQ10 HBc e1 e2
  have HQw11:Hid (Only [] w w11):=lh (HQ9.out.trans HQ11.out (U:=[]) (by simp) (fun g hg hlt=>by have:=HZ5.out;simp only [List.mem_cons,List.not_mem_nil,or_false] at hg;omega))
  have HI11:=lh (HI9.out.only HQ11.out (fun g hg=>by simp only [List.mem_cons,List.not_mem_nil,or_false] at hg;omega))
  obtain ⟨c0,c1,c2⟩:=frame_cells (HQ11.out.rowAt HRc9.out HK.out.1)
  have HFo:=lh (HFou.out w11 HQw11.out _ _ _ HI11.out)
  generalize fourE cur b x y q=FE at *
  obtain ⟨ms,ls,cost⟩:=FE
  simp only at HFo HCc
  clear HFou
  go_wp2_with fail
  go_at_call 134
  refine HFo.out.mono ?_
  rintro e w12 ⟨vs,rfl,hml,hin12,hq12⟩
  have HMl:=lh hml
  have HIn12:=lh hin12
  have HQ12:=lh hq12
  clear hml hin12 hq12 c0 c1 c2 HFo
  go_wp2_with fail
  have hin13:SqIn (BQ+1+1) w12.heap.size w12 nilS vs [] ls:=⟨HIn12.out.large.mono (by have:=HZ9.out;have:=HQ11.out.size;omega) (Nat.le_refl _),HIn12.out.len,fun i hi=>(HIn12.out.small i hi).mono (by have:=HZ9.out;have:=HQ11.out.size;omega) (Nat.le_refl _)⟩
  have htk:=mtakeB_any (s:=⟨3,0,ms,0,0,[],ls⟩) (c:=cost) (HB11.out.quiet HQ12.out) HMl.out hin13
  go_at_call 128
  refine htk.mono ?_
  rintro e w13 ⟨rfl,hb13,hq13⟩
  have hqa:Only [BQ+1,BQ] W9 w13:=(HQ11.out.trans HQ12.out (U:=[BQ+1,BQ]) (fun _ h _=>h) (by simp)).trans hq13 (fun _ h _=>h) (fun _ h _=>h)
  have HQa:=lh hqa
  have HB13:=lh hb13
  clear hb13 hq13 htk hin13 hqa HB11 HQ12 HIn12
  generalize betterE (betterE rr _ _) _ _=RR at *
  obtain ⟨lvF,vsF,hrF,hinF⟩:=HB13.out.best
  have HmF:=lh HB13.out.ml
  have HRF:=lh hrF
  have HIF:=lh hinF
  obtain ⟨SF,cF⟩:=RR
  simp only at HCc
  rw [HCc.out] at HPost
  have HI0:=lh (sqL_info (k:=SF.kind) (mo:=SF.mode) (vx:=SF.vx) (vy:=SF.vy) (lv:=lvF) HmF.out hinF.len)
  have HO0:=lh (sqL_one (k:=SF.kind) (mo:=SF.mode) (ms:=SF.modes) (vx:=SF.vx) (vy:=SF.vy) (lv:=lvF) (vs:=vsF) hinF.one.1 hinF.one.2)
  have HZ0:=lh (sqL_sizes (k:=0) (mo:=0) (ms:=[0,0,0,0]) (vx:=0) (vy:=0) (lv:=nilS) (vs:=[nilS,nilS,nilS,nilS]) (k':=SF.kind) (mo':=SF.mode) (ms':=SF.modes) (vx':=SF.vx) (vy':=SF.vy) (lv':=lvF) (vs':=vsF) rfl rfl HmF.out hinF.len)
  have HT13:=lh (HQa.out.rowAt HRt9.out HK.out.2)
  have HFn:=lh (show SqRow (w.heap.size+1+1+1) (w13.setRow (w.heap.size+1+1+1) (sqL SF.kind SF.mode SF.modes SF.vx SF.vy lvF vsF).toArray) SF.kind SF.mode SF.modes SF.vx SF.vy lvF vsF from setRow_heap w13 (w.heap.size+1+1+1) _ _ _ _ HT13.out)
  have HSo:=lh (Only.setRow (S:=[w.heap.size+1+1+1]) (Only.refl _ w13) (g:=w.heap.size+1+1+1) (fun _=>by simp) (sqL SF.kind SF.mode SF.modes SF.vx SF.vy lvF vsF).toArray)
  clear hrF hinF HB13
  go_wp2_with (first
   | (refine wpList_load_row rfl (.tmp 18) 158 rfl rfl HRF.out HUnd.out rfl HI0.out ?_)
   | (refine wpList_store_row rfl (.tmp 16) (.tmp 105) 158 rfl rfl rfl HT13.out HI0.out HZ0.out HO0.out ?_)
   | fail)
  refine bodyPost_ret (v:=.agg (sqL SF.kind SF.mode SF.modes SF.vx SF.vy lvF vsF).toArray) (results_cell_row Tryz.results106 _ _ (w.heap.size+1+1+1) _ _ _ _ rfl HFn.out HUnd.out rfl HI0.out) rfl (HPost.out _ _ ⟨lvF,vsF,rfl,HmF.out,?_,?_⟩)
  ·have h3:=HIF.out.only HSo.out (fun g hg=>by rw [mSg] at hg;have:=HZ5.out;exact .inl (by omega))
   exact qECho0
  ·exact (HQ9.out.trans HQa.out (U:=[]) (by simp) (fun g hg hlt=>by have:=HZ5.out;simp only [List.mem_cons,List.not_mem_nil,or_false] at hg;omega)).trans HSo.out (U:=[]) (by simp) (fun g hg hlt=>by rw [mSg] at hg;omega)
end
/-- what encode.Frame hands back -/
def EncP (src prev:FrameD) (key:Bool) (qp reach:Int) (w:World) (e:Ending) (w':World):Prop :=
 Only [] w w'∧match checkE src prev key qp reach with
  | some k=>e=.returned (.tuple #[.agg #[.int .i64 0,.slice none 0 0],.agg #[.int .i64 0,.int .i64 0,.slice none 0 0],.iface 35 (.int .i64 k)])
  | none=>∃ dv fv,e=.returned (.tuple #[.agg #[.int .i64 (codedE src prev key qp reach.toNat).kind,dv],.agg #[.int .i64 src.W,.int .i64 src.H,fv],.nilIface])∧Ints .u8 w.heap.size w'.heap.size w' dv (codedE src prev key qp reach.toNat).data∧Ints .i64 w.heap.size w'.heap.size w' fv (encF src prev key qp reach.toNat).1.pix
theorem checkE_none {src prev:FrameD} {key:Bool} {qp reach:Int} (h:checkE src prev key qp reach=none):FrOk src∧(key=false→matesB prev src.W src.H=true)∧0≤qp∧qp≤15∧0≤reach∧reach≤7:=by
 unfold checkE at h
 split at h
 ·cases h
 rename_i h1
 split at h
 ·cases h
 rename_i h2
 split at h
 ·cases h
 rename_i h3
 refine ⟨mayF_iff.1 (by simpa using h1),fun hk=>?_,by omega,by omega,by omega,by omega⟩
 rw [hk] at h2
 simpa using h2
theorem mates_ok {p:FrameD} {W H:Int} (h:matesB p W H=true):FrOk p∧p.W=W∧p.H=H:=by
 unfold matesB at h
 rw [Bool.and_eq_true,Bool.and_eq_true,mayF_iff,decide_eq_true_eq,decide_eq_true_eq] at h
 exact ⟨h.1.1,h.1.2,h.2⟩
theorem place_nat (a c d:Nat):(d*a+c)*8=(8*a)*d+8*c:=by
 have e:8*a*d=8*(d*a):=by rw [Nat.mul_assoc,Nat.mul_comm a d]
 omega
theorem place_int (a c d:Nat):((d*a+c:Nat):Int)*8=(((8*a)*d+8*c:Nat):Int):=by
 rw [← place_nat,Int.natCast_mul];rfl
/-- where the i-th square lies -/
theorem place_x {a c d:Nat} (h:c<a):(((d*a+c:Nat):Int)*8) % ((8*a:Nat):Int)=((8*c:Nat):Int):=by
 rw [place_int,← Int.natCast_emod,Nat.mul_add_mod,Nat.mod_eq_of_lt (by omega)]
theorem place_y {a c d:Nat} (h:c<a):(((d*a+c:Nat):Int)*8) / ((8*a:Nat):Int)=(d:Int):=by
 rw [place_int,← Int.natCast_ediv,Nat.add_comm,Nat.add_mul_div_left _ _ (by omega),Nat.div_eq_of_lt (by omega),Nat.zero_add]
/-- a square of the frame that is built, its place told by its row and its column -/
theorem encGo_step {key:Bool} {prev f:FrameD} {qp:Int} {ch:FrameD→Int→Int→SqD} {m:Wrt} {a c d k:Nat} (hW:f.W=((8*a:Nat):Int)) (hc:c<a):encGo key prev qp ch (k+1) (d*a+c) f m =
  encGo key prev qp ch k (d*a+c+1) (laySq f prev (8*(c:Int)) (8*(d:Int)) qp (ch f (8*(c:Int)) (8*(d:Int)))) (squareG wrC key (askOf (ch f (8*(c:Int)) (8*(d:Int)))) m).2:=by
 rw [encGo,hW,place_x hc,place_y hc,show (d:Int)*8=8*(d:Int) from Int.mul_comm _ _,show ((8*c:Nat):Int)=8*(c:Int) by omega]
theorem pcWrite_out {base R E:Nat} {F S:List Nat} {w w':World} {m:Wrt} (h:(pcWrite base R E).At F w m) (o:Only S w w') (hS:∀ g∈S,g∉F):(pcWrite base R E).At F w' m:=by
 obtain ⟨ov,rfl,hw⟩:=h
 exact ⟨ov,rfl,hw.only o hS⟩
theorem pcWrite_ge {base R E:Nat} {F:List Nat} {w:World} {m:Wrt} (h:(pcWrite base R E).At F w m):∀ g∈F,base≤g:=by
 obtain ⟨ov,rfl,hw⟩:=h
 exact fun g hg=>(hw.lt g hg).1
theorem row23_set {w:World} {gc gf:Nat} {a b c d e x y u v z:Value} {t t':TypeId} (hc:w.heap[gc]?=some (.cells #[a,b] t (0,0))) (hf:w.heap[gf]?=some (.cells #[c,d,e] t' (0,0))) (hne:gc≠gf) :
  (((((w.setCell ⟨gc,0,none⟩ x).setCell ⟨gc,1,none⟩ y).setCell ⟨gf,0,none⟩ u).setCell ⟨gf,1,none⟩ v).setCell ⟨gf,2,none⟩ z).heap[gc]?=some (.cells #[x,y] t (0,0)) ∧
  (((((w.setCell ⟨gc,0,none⟩ x).setCell ⟨gc,1,none⟩ y).setCell ⟨gf,0,none⟩ u).setCell ⟨gf,1,none⟩ v).setCell ⟨gf,2,none⟩ z).heap[gf]?=some (.cells #[u,v,z] t' (0,0)) ∧
  Only [gc,gf] w (((((w.setCell ⟨gc,0,none⟩ x).setCell ⟨gc,1,none⟩ y).setCell ⟨gf,0,none⟩ u).setCell ⟨gf,1,none⟩ v).setCell ⟨gf,2,none⟩ z):=by
 obtain ⟨h1,o1⟩:=row2_set (x:=x) (y:=y) hc
 have h2:=o1.rowAt hf (by simp;exact Ne.symm hne)
 have h3:=heap_setCell_same _ gf 0 _ _ u h2
 have h4:=heap_setCell_same _ gf 1 _ _ v h3
 have h5:=heap_setCell_same _ gf 2 _ _ z h4
 have o2:Only [gf] ((w.setCell ⟨gc,0,none⟩ x).setCell ⟨gc,1,none⟩ y) (((((w.setCell ⟨gc,0,none⟩ x).setCell ⟨gc,1,none⟩ y).setCell ⟨gf,0,none⟩ u).setCell ⟨gf,1,none⟩ v).setCell ⟨gf,2,none⟩ z):=(((Only.refl _ _).setCell (by simp) _).setCell (by simp) _).setCell (by simp) _
 exact ⟨o2.rowAt h1 (by simp;exact hne),h5,o1.trans o2 (fun g h _=>by rw [mSg] at h;subst h;simp) (fun g h _=>by rw [mSg] at h;subst h;simp)⟩
theorem results_cct {P:Program} {fn:Func} {p q r:Tmp} {ty ty':TypeId} (h:fn.results=#[.cell p ty,.cell q ty',.tmp r]) (tmps:Array Value) (w:World) (g g':Nat) (t t':TypeId) (cs cs':Array Value) (fr fr':Nat×Nat) (d d':TypeDesc) (v:Value)
  (hp:tmps.getD p undef=.pointer (some ⟨g,0,none⟩)) (hq:tmps.getD q undef=.pointer (some ⟨g',0,none⟩)) (hr:tmps.getD r undef=v) (hg:w.heap[g]?=some (.cells cs t fr)) (hg':w.heap[g']?=some (.cells cs' t' fr'))
  (hu:P.underlying ty=some d) (hd:(match d with | .struct _ | .array _ _=>true | _=>false)=true) (hi:(P.info? ty).map (·.size)=some cs.size)
  (hu':P.underlying ty'=some d') (hd':(match d' with | .struct _ | .array _ _=>true | _=>false)=true) (hi':(P.info? ty').map (·.size)=some cs'.size) :
  (results fn tmps).run P w=.ok (.tuple #[.agg cs,.agg cs',v]) w:=by
 have hp':tmps[p]?.getD undef=.pointer (some ⟨g,0,none⟩):=by simpa using hp
 have hq':tmps[q]?.getD undef=.pointer (some ⟨g',0,none⟩):=by simpa using hq
 have hr':tmps[r]?.getD undef=v:=by simpa using hr
 simp [results,h,hp',hq',hr',asAddr,run_loadVar_row w g t ty cs fr d hg hu hd hi,run_loadVar_row w g' t' ty' cs' fr' d' hg' hu' hd' hi']
theorem drew_row {w:World} {g:Nat} {x} (h:w.heap[g]?=x):w.drew.heap[g]?=x:=h
section
theorem eframe_any {lo hi lo' hi':Nat} {sv pv:Value} {src prev:FrameD} {w:World} (key:Bool) (qp reach:Int) (hs:Ints .i64 lo hi w sv src.pix) (hp:Ints .i64 lo' hi' w pv prev.pix) (hh:hi≤w.heap.size) (hh':hi'≤w.heap.size) :
  Calls Tryz.prog 83 #[.agg #[.int .i64 src.W,.int .i64 src.H,sv],.agg #[.int .i64 prev.W,.int .i64 prev.H,pv],.bool key,.int .i64 qp,.int .i64 reach] w (EncP src prev key qp reach w):=by
 refine hidQ fun Q HPost=>?_
 have HCk:=lh (fun (W:World) (o:Only [] w W)=>echeck_any key qp reach (hs.quiet o) (hp.quiet o))
 have HS:=lh hs
 have HP:=lh hp
 obtain ⟨sa,sc,rfl,-⟩:=hs.open
 obtain ⟨pa,pc,rfl,-⟩:=hp.open
 have HQ4:Hid (Only [] w ((((w.alloc (.cells #[.int .i64 src.W,.int .i64 src.H,.slice sa src.pix.length sc] 73)).alloc (.cells #[.int .i64 prev.W,.int .i64 prev.H,.slice pa prev.pix.length pc] 73)).alloc (.cells #[.int .i64 0,.slice none 0 0] 69)).alloc (.cells #[.int .i64 0,.int .i64 0,.slice none 0 0] 73))):=lh ((((Only.new w _).alloc _).alloc _).alloc _)
 have HRs:Hid (((((w.alloc (.cells #[.int .i64 src.W,.int .i64 src.H,.slice sa src.pix.length sc] 73)).alloc (.cells #[.int .i64 prev.W,.int .i64 prev.H,.slice pa prev.pix.length pc] 73)).alloc (.cells #[.int .i64 0,.slice none 0 0] 69)).alloc (.cells #[.int .i64 0,.int .i64 0,.slice none 0 0] 73)).heap[w.heap.size]?=some (.cells #[.int .i64 src.W,.int .i64 src.H,.slice sa src.pix.length sc] 73 (0,0))):=lh ((((Only.new (w.alloc _) _).alloc _).alloc _).row (heap_alloc_new w _))
 have HRp:Hid (((((w.alloc (.cells #[.int .i64 src.W,.int .i64 src.H,.slice sa src.pix.length sc] 73)).alloc (.cells #[.int .i64 prev.W,.int .i64 prev.H,.slice pa prev.pix.length pc] 73)).alloc (.cells #[.int .i64 0,.slice none 0 0] 69)).alloc (.cells #[.int .i64 0,.int .i64 0,.slice none 0 0] 73)).heap[w.heap.size+1]?=some (.cells #[.int .i64 prev.W,.int .i64 prev.H,.slice pa prev.pix.length pc] 73 (0,0))):=lh (((Only.new ((w.alloc _).alloc _) _).alloc _).row (heap_alloc_new' (by simp)))
 have HRc:Hid (((((w.alloc (.cells #[.int .i64 src.W,.int .i64 src.H,.slice sa src.pix.length sc] 73)).alloc (.cells #[.int .i64 prev.W,.int .i64 prev.H,.slice pa prev.pix.length pc] 73)).alloc (.cells #[.int .i64 0,.slice none 0 0] 69)).alloc (.cells #[.int .i64 0,.int .i64 0,.slice none 0 0] 73)).heap[w.heap.size+1+1]?=some (.cells #[.int .i64 0,.slice none 0 0] 69 (0,0))):=lh ((Only.new (((w.alloc _).alloc _).alloc _) _).row (heap_alloc_new' (by simp)))
 have HRf:Hid (((((w.alloc (.cells #[.int .i64 src.W,.int .i64 src.H,.slice sa src.pix.length sc] 73)).alloc (.cells #[.int .i64 prev.W,.int .i64 prev.H,.slice pa prev.pix.length pc] 73)).alloc (.cells #[.int .i64 0,.slice none 0 0] 69)).alloc (.cells #[.int .i64 0,.int .i64 0,.slice none 0 0] 73)).heap[w.heap.size+1+1+1]?=some (.cells #[.int .i64 0,.int .i64 0,.slice none 0 0] 73 (0,0))):=lh (heap_alloc_new' (by simp))
 have HZ4:Hid (((((w.alloc (.cells #[.int .i64 src.W,.int .i64 src.H,.slice sa src.pix.length sc] 73)).alloc (.cells #[.int .i64 prev.W,.int .i64 prev.H,.slice pa prev.pix.length pc] 73)).alloc (.cells #[.int .i64 0,.slice none 0 0] 69)).alloc (.cells #[.int .i64 0,.int .i64 0,.slice none 0 0] 73)).heap.size=w.heap.size+1+1+1+1):=lh (by simp)
 have HHi:=lh (And.intro hh hh')
 obtain ⟨a0,a1,a2⟩:=frame_cells HRs.out
 obtain ⟨b0,b1,b2⟩:=frame_cells HRp.out
 clear hs hp hh hh'
 go_enter Tryz.func83,Tryz.ntmps83
 go_wp2_with fail
 generalize hW4:World.alloc (World.alloc (World.alloc (World.alloc w _) _) _) _=W4 at *
 clear hW4 a0 a1 a2 b0 b1 b2
 go_at_call 104
 refine (HCk.out W4 HQ4.out).mono ?_
 rintro e w5 ⟨⟨u,rfl,hu⟩,hq5⟩
 have HQ5:=lh (HQ4.out.q hq5)
 have HRs5:=lh (hq5.row HRs.out)
 have HRp5:=lh (hq5.row HRp.out)
 have HRc5:=lh (hq5.row HRc.out)
 have HRf5:=lh (hq5.row HRf.out)
 have HZ5:Hid (w.heap.size+1+1+1+1≤w5.heap.size):=lh (by have:=hq5.size;have:=HZ4.out;omega)
 clear hq5 HRs HRp HRc HRf HZ4 HCk HQ4
 cases hck:checkE src prev key qp reach with
 | some k =>
  rw [hck] at hu
  have hu':u=.iface 35 (.int .i64 k):=hu
  subst hu'
  have HCK:=lh hck
  clear hck hu
  -- <E
  obtain ⟨t0,t1,y0,y1,-⟩:=row2 HRc5.out
  have hne:w.heap.size+1+1≠w.heap.size+1+1+1:=by omega
  obtain ⟨hc,hf,ho⟩:=row23_set (x:=.int .i64 0) (y:=.slice none 0 0) (u:=.int .i64 0) (v:=.int .i64 0) (z:=.slice none 0 0) HRc5.out HRf5.out hne
  obtain ⟨hc2,ho2⟩:=row2_set (x:=.int .i64 0) (y:=.slice none 0 0) HRc5.out
  have hf2:=ho2.rowAt HRf5.out (by simp)
  obtain ⟨f0,f1,f2⟩:=frame_cells hf2
  have g0:=frozen_of_row _ (w.heap.size+1+1+1) 0 _ _ hf2
  have g1:=frozen_of_row _ (w.heap.size+1+1+1) 1 _ _ hf2
  have g2:=frozen_of_row _ (w.heap.size+1+1+1) 2 _ _ hf2
  have HC:=lh hc
  have HF:=lh hf
  have HO:=lh ho
  clear hc hf ho hc2 ho2 hf2
  go_wp2_with fail
  refine bodyPost_ret (v:=.tuple #[.agg #[.int .i64 0,.slice none 0 0],.agg #[.int .i64 0,.int .i64 0,.slice none 0 0],.iface 35 (.int .i64 k)]) (results_cct Tryz.results83 _ _ (w.heap.size+1+1) (w.heap.size+1+1+1) _ _ _ _ _ _ _ _ _ rfl rfl rfl HC.out HF.out Tryz.underlying69 rfl (by kernel_rfl) Tryz.underlying73 rfl (by kernel_rfl)) rfl (HPost.out _ _ ?_)
  unfold EncP
  rw [HCK.out]
  exact ⟨HQ5.out.trans HO.out (by simp) (fun g hg hlt=>by simp only [List.mem_cons,List.not_mem_nil,or_false] at hg;omega),rfl⟩
 | none =>
  have hu':u=.nilIface:=by rw [hck] at hu;exact hu
  subst hu'
  obtain ⟨hsf,hmt,hq0,hq1,hr0,hr1⟩:=checkE_none hck
  obtain ⟨q,rfl⟩:=Int.eq_ofNat_of_zero_le hq0
  obtain ⟨r,rfl⟩:=Int.eq_ofNat_of_zero_le hr0
  have hq:q≤15:=by omega
  have hr:r≤7:=by omega
  have Hq15:=lh hq
  have HPost2:Hid (∀ e w',Only [] w w'→(∃ dv fv,e=.returned (.tuple #[.agg #[.int .i64 (codedE src prev key q r).kind,dv],.agg #[.int .i64 src.W,.int .i64 src.H,fv],.nilIface])∧Ints .u8 w.heap.size w'.heap.size w' dv (codedE src prev key q r).data∧Ints .i64 w.heap.size w'.heap.size w' fv (encF src prev key q r).1.pix)→Q e w'):=lh (fun e w' o h=>HPost.out _ _ (by unfold EncP;rw [hck];exact ⟨o,by rw [Int.toNat_natCast];exact h⟩))
  have hdr:=(enc_drift (q:=q) (reach:=r) hsf hmt hq hr).2
  have hpk:key=false→FrOk prev∧prev.W=src.W∧prev.H=src.H:=fun h=>mates_ok (hmt h)
  have hn:newB src.W src.H 128=true:=newB_iff.2 ⟨⟨hsf.w0,hsf.w1,hsf.w8⟩,⟨hsf.h0,hsf.h1,hsf.h8⟩,by decide,by decide⟩
  obtain ⟨aa,haa⟩:∃ a:Nat,src.W=((8*a:Nat):Int):=⟨(src.W / 8).toNat,by have:=hsf.w0;have:=hsf.w8;omega⟩
  obtain ⟨bb,hbb⟩:∃ b:Nat,src.H=((8*b:Nat):Int):=⟨(src.H / 8).toNat,by have:=hsf.h0;have:=hsf.h8;omega⟩
  have htot:(src.W*src.H / 64).toNat=bb*aa:=by
   have e:src.W*src.H=((64*(bb*aa):Nat):Int):=by
    rw [haa,hbb,← Int.natCast_mul,show (8*aa*(8*bb):Nat)=64*(bb*aa) by rw [Nat.mul_mul_mul_comm,Nat.mul_comm aa bb]]
   rw [e]
   generalize bb*aa=T
   omega
  have HEnc:Hid (encF src prev key q r=encGo key prev q (chooseE src prev key q r) (bb*aa) 0 (newF src.W src.H 128) wrtNew):=lh (by unfold encF;rw [htot])
  have HCod:Hid (codedE src prev key q r=⟨if key then 1 else 2,(q:Int) :: endW (encF src prev key q r).2⟩):=lh rfl
  have HDl:Hid ((endW (encF src prev key q r).2).length<65536):=lh (by have h2:(endW (encF src prev key q r).2).length+1≤65000:=hdr;omega)
  have ha4:aa≤4∧1≤aa:=by have:=hsf.w1;have:=hsf.w0;omega
  have hb4:bb≤4∧1≤bb:=by have:=hsf.h1;have:=hsf.h0;omega
  have hch:=fun (P:List Int) (hP:FrOk ⟨src.W,src.H,P⟩) (x y:Int)=>choose_wr (src:=src) (prev:=prev) (cur:=⟨src.W,src.H,P⟩) (key:=key) (q:=q) (reach:=r) hsf.sam hP.sam (fun h=>(hpk h).1.sam) hq hr x y
  have HCh:=lh (fun (W:World) (P:List Int) (l1 h1 l2 h2 l3 h3:Nat) (v1 v2 v3:Value) (x y:Int) (hP:FrOk ⟨src.W,src.H,P⟩) (i1:Ints .i64 l1 h1 W v1 src.pix) (i2:Ints .i64 l2 h2 W v2 P) (i3:Ints .i64 l3 h3 W v3 prev.pix) (hx:0≤x∧x+8≤src.W) (hy:0≤y∧y+8≤src.H) (hh:h3≤W.heap.size)=>choose_any (q:=q) (r:=r) (src:=src) (cur:=⟨src.W,src.H,P⟩) (prev:=prev) key hsf hP hpk rfl rfl i1 i2 i3 x y hx hy hq hr hh)
  have HWr:=lh hch
  have HLy:=lh (fun (W:World) (P:List Int) (base g cap l1 h1 lo hi:Nat) (pv:Value) (s:SqD) (lv:Value) (vs:List Value) (x y:Int) (hP:FrOk ⟨src.W,src.H,P⟩) (h:LayIn base g cap l1 h1 lo hi W ⟨src.W,src.H,P⟩ prev pv s lv vs) (hw:SqWr key s) (hml:s.modes.length=4) (hx:0≤x) (hxn:x+8≤src.W) (hy:0≤y) (hyn:y+8≤src.H)=>lay_m_any (q:=q) (mo:=s.mode) (f:=⟨src.W,src.H,P⟩) hP h (fun hk=>(hpk (by cases key with | false=>rfl | true=>have:=hw.key_ rfl;omega)).1) ⟨hw.kind,hw.mode,hw.large,hw.vec,hw.small⟩ (fun _=>rfl) hml hq hx hxn hy hyn)
  have HLo:=lh (fun (P:List Int) (hP:FrOk ⟨src.W,src.H,P⟩) (s:SqD) (hw:SqWr key s) (x y:Int) (hx:0≤x) (hxn:x+8≤src.W) (hy:0≤y) (hyn:y+8≤src.H)=>(⟨laySq_may (prev:=prev) hP (fun hk=>(hpk (by cases key with | false=>rfl | true=>have:=hw.key_ rfl;omega)).1.sam) hx hxn hy hyn ⟨hw.kind,hw.mode,hw.large,hw.vec,hw.small⟩ (q:Int),laySq_W ⟨src.W,src.H,P⟩ prev x y q s⟩:FrOk (laySq ⟨src.W,src.H,P⟩ prev x y q s)∧(laySq ⟨src.W,src.H,P⟩ prev x y q s).W=src.W∧(laySq ⟨src.W,src.H,P⟩ prev x y q s).H=src.H))
  have HNw:=lh (pnewD_any src.W src.H 128 w5 hn)
  have HF0:=lh (newF_ok hn)
  have HF1:Hid (newF src.W src.H 128=⟨src.W,src.H,(newF src.W src.H 128).pix⟩):=lh rfl
  have HLen:=lh (fun (P:List Int) (hP:FrOk ⟨src.W,src.H,P⟩)=>(by have h1:(P.length:Int)=src.W*src.H:=hP.len;have h2:((newF src.W src.H 128).pix.length:Int)=src.W*src.H:=(newF_ok hn).len;omega:P.length=(newF src.W src.H 128).pix.length))
  have HHa:=lh (And.intro haa hbb)
  obtain ⟨s0,s1,s2⟩:=frame_cells HRs5.out
  rw [HF1.out] at HF0
  clear hck hu hq0 hq1 hr0 hr1 hmt hdr hsf hpk hn htot hch HPost hq hr haa hbb
  generalize (newF src.W src.H 128).pix=P0 at *
  generalize P0.length=NL at *
  go_wp2_with fail
  go_at_call 84
  refine HNw.out.mono ?_
  rintro e w6 ⟨g0,cap0,rfl,ho6,hq6⟩
  have HO6:=lh ho6
  have HQ6:=lh hq6
  have HG0:=lh (ho6.at g0 rfl)
  clear ho6 hq6 HNw s0 s1 s2
  have HNew:=lh (heap_alloc_new w6 (.cells #[.int .i64 src.W,.int .i64 src.H,.slice (some ⟨g0,0,none⟩) NL cap0] 73))
  have HQn:=lh (Only.new w6 (.cells #[.int .i64 src.W,.int .i64 src.H,.slice (some ⟨g0,0,none⟩) NL cap0] 73))
  have HZn:Hid (w6.heap.size<(w6.alloc (.cells #[.int .i64 src.W,.int .i64 src.H,.slice (some ⟨g0,0,none⟩) NL cap0] 73)).heap.size):=lh (by simp)
  go_wp2_with fail
  generalize hW7:World.alloc w6 _=W7 at *
  clear hW7
  go_at_call 105
  refine (wnew_any W7).mono ?_
  rintro e w8 ⟨R,E,rfl,hwr,hq8⟩
  have hat8:(pcWrite W7.heap.size R E).At (wrB R E (.slice none 0 0)) w8 wrtNew:=⟨_,rfl,hwr⟩
  have HA8:=lh hat8
  have hfl:=hwr.lt
  obtain ⟨FT,hFT⟩:∃ z,z=wrB R E (.slice none 0 0):=⟨_,rfl⟩
  rw [← hFT] at HA8 hfl
  have HFl:=lh hfl
  obtain ⟨B7,hB7⟩:∃ z,z=W7.heap.size:=⟨_,rfl⟩
  obtain ⟨B6,hB6⟩:∃ z,z=w6.heap.size:=⟨_,rfl⟩
  rw [← hB7] at HA8 HFl HZn
  rw [← hB6] at HZn HNew HG0 ⊢
  have HZ:Hid (w.heap.size+1+1+1+1≤w5.heap.size∧w5.heap.size≤g0∧g0<B6∧B6<B7∧B7≤w8.heap.size):=lh ⟨HZ5.out,HG0.out.1,HG0.out.2,HZn.out,by rw [hB7];exact hq8.size⟩
  have HQ58:=lh ((HQ6.out.q HQn.out).q hq8)
  have HQ8w:=lh (HQ5.out.q HQ58.out)
  have HRs8:=lh (HQ58.out.row HRs5.out)
  have HRp8:=lh (HQ58.out.row HRp5.out)
  have HRc8:=lh (HQ58.out.row HRc5.out)
  have HRf8:=lh (HQ58.out.row HRf5.out)
  have HRt8:=lh (hq8.row HNew.out)
  have HO8:=lh (((HO6.out.quiet HQn.out).quiet hq8).lower (base':=w.heap.size) (HQ5.out.size))
  have HS8:=lh (HS.out.quiet HQ8w.out)
  have HP8:=lh (HP.out.quiet HQ8w.out)
  clear hat8 hwr hq8 hfl hFT hB7 hB6 HQ6 HQn HQ58 HQ5 HRs5 HRp5 HRc5 HRf5 HNew HO6 HG0 HZn HZ5 HS HP
  have HK:Hid (∀ g,g<B7→g≠g0→g∉g0 :: FT):=lh (fun g hg hne hm=>by
   rcases List.mem_cons.1 hm with h | h
   ·exact hne h
   ·have:=(HFl.out g h).1;omega)
  go_wp2_with fail
  go_loopw [17,18] (fun yv _ wr=>∃ (d:Nat) (P:List Int) (Fk:List Nat) (mk:Wrt),d≤bb∧yv=.int .i64 (8*(d:Int))∧Hid (FrOk ⟨src.W,src.H,P⟩)∧Hid (Own .i64 3 w.heap.size wr (.slice (some ⟨g0,0,none⟩) NL cap0) P)∧Hid ((pcWrite B7 R E).At Fk wr mk)∧Hid (WOk (4+2788*(d*aa)) mk)∧Hid (encGo key prev q (chooseE src prev key q r) (bb*aa-d*aa) (d*aa) ⟨src.W,src.H,P⟩ mk=encF src prev key q r)∧Hid (Went (g0 :: FT) w8 (g0 :: Fk) wr)) (fun yv _ _=>(32-intOf yv).toNat)
  case atStart=>exact ⟨0,P0,FT,wrtNew,by omega,rfl,HF0,HO8,HA8,lh ⟨wrtNew_ok,by show 4≤_;omega⟩,lh (by rw [Nat.zero_mul,Nat.sub_zero,HEnc.out,HF1.out]),lh (Went.refl _ _)⟩
  case round =>
   obtain ⟨d,P,Fk,mk,hd,rfl,HPk,HOk,HAk,HWk,Hgo,HGk⟩:=hrel
   obtain ⟨t0,t1,t2⟩:=frame_cells (HGk.out.1.rowAt HRt8.out (HK.out B6 (by have:=HZ.out;omega) (by have:=HZ.out;omega)))
   by_cases hlt:d<bb
   ·have hyi:(8*(d:Int))<src.H:=by have:=HHa.out.2;omega
    have hda:d*aa+aa≤bb*aa:=by have:=Nat.mul_le_mul_right aa hlt;rw [Nat.succ_mul] at this;exact this
    go_wp2_with fail
    clear t0 t1 t2
    go_loopw [18] (fun xv wr=>∃ (c:Nat) (P:List Int) (Fk:List Nat) (mk:Wrt),c≤aa∧xv=.int .i64 (8*(c:Int))∧Hid (FrOk ⟨src.W,src.H,P⟩)∧Hid (Own .i64 3 w.heap.size wr (.slice (some ⟨g0,0,none⟩) NL cap0) P)∧Hid ((pcWrite B7 R E).At Fk wr mk)∧Hid (WOk (4+2788*(d*aa+c)) mk)∧Hid (encGo key prev q (chooseE src prev key q r) (bb*aa-(d*aa+c)) (d*aa+c) ⟨src.W,src.H,P⟩ mk=encF src prev key q r)∧Hid (Went (g0 :: FT) w8 (g0 :: Fk) wr)) (fun xv _=>(32-intOf xv).toNat)
    case atStart=>exact ⟨0,P,Fk,mk,by omega,rfl,HPk,HOk,HAk,HWk,Hgo,HGk⟩
    case round =>
     clear HPk HOk HAk HWk Hgo HGk
     obtain ⟨c,P,Fk,mk,hc,rfl,HPk,HOk,HAk,HWk,Hgo,HGk⟩:=hrel
     have HRt9:=lh (HGk.out.1.rowAt HRt8.out (HK.out B6 (by have:=HZ.out;omega) (by have:=HZ.out;omega)))
     obtain ⟨t0,t1,t2⟩:=frame_cells HRt9.out
     by_cases hlc:c<aa
     ·have hxi:(8*(c:Int))<src.W:=by have:=HHa.out.1;omega
      have hxe:(8*(c:Int))+8≤src.W:=by have:=HHa.out.1;omega
      have hye:(8*(d:Int))+8≤src.H:=by have:=HHa.out.2;omega
      have hx0:(0:Int)≤(8*(c:Int)):=by omega
      have hy0:(0:Int)≤(8*(d:Int)):=by omega
      have hxn:IntKind.i64.wrap ((8*(c:Int))+8)=(8*((c+1:Nat):Int)):=by rw [IntKind.wrap_i64];omega
      have HStep:Hid (encGo key prev q (chooseE src prev key q r) (bb*aa-(d*aa+c)) (d*aa+c) ⟨src.W,src.H,P⟩ mk=encGo key prev q (chooseE src prev key q r) (bb*aa-(d*aa+(c+1))) (d*aa+(c+1)) (laySq ⟨src.W,src.H,P⟩ prev (8*(c:Int)) (8*(d:Int)) q (chooseE src prev key q r ⟨src.W,src.H,P⟩ (8*(c:Int)) (8*(d:Int)))) (squareG wrC key (askOf (chooseE src prev key q r ⟨src.W,src.H,P⟩ (8*(c:Int)) (8*(d:Int)))) mk).2):=lh (by
       obtain ⟨k,hk⟩:∃ k,bb*aa-(d*aa+c)=k+1:=⟨bb*aa-(d*aa+c)-1,by omega⟩
       rw [hk,show bb*aa-(d*aa+(c+1))=k by omega,← Nat.add_assoc]
       exact encGo_step (f:=⟨src.W,src.H,P⟩) HHa.out.1 hlc)
      have HMeas:Hid ((32-intOf (.int .i64 (8*((c+1:Nat):Int)))).toNat<(32-intOf (.int .i64 (8*(c:Int)))).toNat):=lh (by have:=ha4.1;simp only [intOf];omega)
      obtain ⟨X,hX⟩:∃ z,z=(8*(c:Int)):=⟨_,rfl⟩
      obtain ⟨Y,hY⟩:∃ z,z=(8*(d:Int)):=⟨_,rfl⟩
      rw [← hX,← hY] at HStep
      rw [← hX] at hxe hx0 hxn hxi HMeas ⊢
      rw [← hY] at hye hy0 hyi ⊢
      clear hX hY
      have hwr:=HWr.out P HPk.out X Y
      have hlo:=HLo.out P HPk.out (chooseE src prev key q r ⟨src.W,src.H,P⟩ X Y) hwr X Y hx0 hxe hy0 hye
      have hsz:=HGk.out.1.size
      have hkey:∀ g∈g0 :: FT,w5.heap.size≤g:=fun g hg=>by
       have hz:=HZ.out
       rcases List.mem_cons.1 hg with rfl | hg
       ·exact hz.2.1
       ·have:=(HFl.out g hg).1;omega
      have hsw:w.heap.size+4≤w5.heap.size:=by have:=HZ.out.1;omega
      have HS9:=lh (HS8.out.only HGk.out.1 (fun g hg=>.inr (by have:=hkey g hg;have:=HHi.out;omega)))
      have HP9:=lh (HP8.out.only HGk.out.1 (fun g hg=>.inr (by have:=hkey g hg;have:=HHi.out;omega)))
      have HRs9:=lh (HGk.out.1.rowAt HRs8.out (fun hm=>by have:=hkey _ hm;omega))
      have HRp9:=lh (HGk.out.1.rowAt HRp8.out (fun hm=>by have:=hkey _ hm;omega))
      have hch:=HCh.out wr P _ _ _ _ _ _ _ _ _ X Y HPk.out HS9.out HOk.out.ints HP9.out ⟨hx0,hxe⟩ ⟨hy0,hye⟩ (by have:=HHi.out;have:=HZ.out;omega)
      obtain ⟨SQq,hSQ⟩:∃ z,z=chooseE src prev key q r ⟨src.W,src.H,P⟩ X Y:=⟨_,rfl⟩
      rw [← hSQ] at hch hwr hlo HStep
      have HChx:=lh hch
      have HWrx:=lh hwr
      have HLox:=lh hlo
      have Hsz:=lh hsz
      have Hsw:=lh hsw
      clear hSQ hch hwr hlo hsz hkey hsw
      obtain ⟨s0,s1,s2⟩:=frame_cells HRs9.out
      obtain ⟨p0,p1,p2⟩:=frame_cells HRp9.out
      go_wp2_with fail
      clear t0 t1 t2 s0 s1 s2 p0 p1 p2
      go_at_call 106
      refine HChx.out.mono ?_
      rintro e w9 ⟨lv,vs,rfl,hml,hin,hq9⟩
      have HMl:=lh hml
      have HIn:=lh hin
      have HQ9:=lh hq9
      have HI:=lh (sqL_info (k:=(SQq.kind:Int)) (mo:=(SQq.mode:Int)) (vx:=SQq.vx) (vy:=SQq.vy) (lv:=lv) hml hin.len)
      have HOc:=lh (sqL_one (k:=(SQq.kind:Int)) (mo:=(SQq.mode:Int)) (ms:=SQq.modes) (vx:=SQq.vx) (vy:=SQq.vy) (lv:=lv) (vs:=vs) hin.one.1 hin.one.2)
      have HSz:=lh (sqL_sizes (k:=0) (mo:=0) (ms:=[0,0,0,0]) (vx:=0) (vy:=0) (lv:=nilS) (vs:=[nilS,nilS,nilS,nilS]) (k':=(SQq.kind:Int)) (mo':=(SQq.mode:Int)) (ms':=SQq.modes) (vx':=SQq.vx) (vy':=SQq.vy) (lv':=lv) (vs':=vs) rfl rfl hml hin.len)
      have HUnd:=lh Tryz.underlying158
      clear hml hin hq9 HChx
      obtain ⟨CA,hCA⟩:∃ z,z=(sqL (SQq.kind:Int) (SQq.mode:Int) SQq.modes SQq.vx SQq.vy lv vs).toArray:=⟨_,rfl⟩
      have HCA:=lh hCA
      rw [← hCA] at HI HOc HSz ⊢
      clear hCA
      have HZr:=lh (heap_alloc_new w9 (.cells (sqL 0 0 [0,0,0,0] 0 0 nilS [nilS,nilS,nilS,nilS]).toArray 158))
      have HNr:=lh (setRow_heap (w9.alloc (.cells (sqL 0 0 [0,0,0,0] 0 0 nilS [nilS,nilS,nilS,nilS]).toArray 158)) w9.heap.size _ CA _ _ HZr.out)
      have HNo:Hid (Only [] w9 ((w9.alloc (.cells (sqL 0 0 [0,0,0,0] 0 0 nilS [nilS,nilS,nilS,nilS]).toArray 158)).setRow w9.heap.size CA)):=lh (((Only.new w9 _).trans (Only.setRow (S:=[w9.heap.size]) (Only.refl _ _) (g:=w9.heap.size) (fun _=>by simp) CA) (U:=[]) (by simp) (fun g hg hlt=>by rw [mSg] at hg;omega)))
      have HNz:Hid (w9.heap.size<((w9.alloc (.cells (sqL 0 0 [0,0,0,0] 0 0 nilS [nilS,nilS,nilS,nilS]).toArray 158)).setRow w9.heap.size CA).heap.size):=lh (by rw [size_setRow];simp)
      go_wp2_with (first
       | (refine wpList_store_row rfl (.tmp 19) (.tmp 63) 158 rfl rfl rfl HZr.out HI.out HSz.out HOc.out ?_)
       | (refine wpList_load_row rfl (.tmp 19) 158 rfl rfl HNr.out HUnd.out rfl HI.out ?_)
       | fail)
      have hw10:(w9.alloc (.cells #[.int .i64 0,.int .i64 0,.int .i64 0,.int .i64 0,.int .i64 0,.int .i64 0,.int .i64 0,.int .i64 0,.slice none 0 0,.slice none 0 0,.slice none 0 0,.slice none 0 0,.slice none 0 0] 158)).setRow w9.heap.size CA=(w9.alloc (.cells (sqL 0 0 [0,0,0,0] 0 0 nilS [nilS,nilS,nilS,nilS]).toArray 158)).setRow w9.heap.size CA:=rfl
      rw [hw10]
      clear hw10 HZr
      generalize World.setRow (World.alloc w9 _) _ _=W10 at *
      obtain ⟨BQ,hBQ⟩:∃ z,z=w9.heap.size:=⟨_,rfl⟩
      have HBQ:=lh hBQ
      rw [← hBQ] at HNr HNz ⊢
      clear hBQ
      have HA10:=lh (pcWrite_out HAk.out (HQ9.out.q HNo.out) (by simp))
      have hin10:SqIn wr.heap.size BQ W10 lv vs SQq.large SQq.small:=by rw [HBQ.out];exact HIn.out.only HNo.out (by simp)
      have hFl:∀ x∈Fk,x<wr.heap.size:=fun x hx=>(pcWrite B7 R E).lt HAk.out x hx
      have hFb:=pcWrite_ge HAk.out
      have h16:bb*aa≤4*4:=Nat.mul_le_mul hb4.1 ha4.1
      have hsq:=wsquare_any HA10.out HWrx.out hin10 HMl.out (fun x hx=>.inl (hFl x hx)) (by have:=HNz.out;omega) HWk.out (by omega)
      rw [← HCA.out] at hsq
      have HSqx:=lh hsq
      have HIn10:=lh hin10
      have HFl2:=lh hFl
      have HFb:=lh hFb
      have H16:=lh h16
      clear hsq hin10 hFl hFb h16
      go_at_call 88
      refine HSqx.out.mono ?_
      rintro e w11 ⟨⟨ev,rfl⟩,F11,ha11,hg11⟩
      have HA11:=lh ha11
      have HG11:=lh hg11
      have hz:=HZ.out
      have hBF:BQ∉Fk:=fun h=>by have:=HFl2.out _ h;have:=HQ9.out.size;have:=HBQ.out;omega
      have HN11:=lh (hg11.1.rowAt HNr.out hBF)
      have HRt11:=lh (hg11.1.rowAt ((HQ9.out.q HNo.out).row HRt9.out) (fun h=>by have:=HFb.out _ h;omega))
      have HRp11:=lh (hg11.1.rowAt ((HQ9.out.q HNo.out).row HRp9.out) (fun h=>by have:=HFb.out _ h;have:=Hsw.out;omega))
      have HP11:=lh ((HP9.out.quiet (HQ9.out.q HNo.out)).only hg11.1 (fun g hg=>.inr (by have:=HFb.out _ hg;have:=HHi.out;have:=Hsw.out;omega)))
      have HO11:=lh ((HOk.out.quiet (HQ9.out.q HNo.out)).only hg11.1 (fun g hg e=>by simp only [Value.ownBlock,Option.some.injEq] at e;have:=HFb.out _ hg;omega))
      have HIn11:=lh (HIn10.out.only hg11.1 (fun g hg=>.inl (HFl2.out g hg)))
      have hPl:=HLen.out P HPk.out
      have hly:=HLy.out w11 P w.heap.size g0 cap0 _ _ wr.heap.size BQ _ SQq lv vs X Y HPk.out ⟨by rw [hPl];exact HO11.out,HP11.out,HIn11.out,.inl (by have:=Hsz.out;omega)⟩ HWrx.out HMl.out hx0 hxe hy0 hye
      rw [hPl,← HCA.out] at hly
      have HLyx:=lh hly
      obtain ⟨t0,t1,t2⟩:=frame_cells HRt11.out
      obtain ⟨p0,p1,p2⟩:=frame_cells HRp11.out
      clear ha11 hg11 hBF hPl hly hz
      go_wp2_with (first
       | (refine wpList_load_row rfl (.tmp 19) 158 rfl rfl HN11.out HUnd.out rfl HI.out ?_)
       | fail)
      clear t0 t1 t2 p0 p1 p2
      go_at_call 89
      refine HLyx.out.mono ?_
      rintro e w12 ⟨rfl,ho12,hq12⟩
      have HO12:=lh ho12
      have HQ12:=lh hq12
      clear ho12 hq12 HLyx
      go_wp2_with fail
      have hz:=HZ.out
      have heta:(⟨src.W,src.H,(laySq ⟨src.W,src.H,P⟩ prev X Y q SQq).pix⟩:FrameD)=laySq ⟨src.W,src.H,P⟩ prev X Y q SQq:=by
       have e1:=HLox.out.2.1
       have e2:=HLox.out.2.2
       generalize laySq ⟨src.W,src.H,P⟩ prev X Y q SQq=L at *
       rw [← e1,← e2]
      have hall:Went (g0 :: Fk) wr (g0 :: F11) w12:=by
       have h1:Went Fk wr F11 w11:=Went.ahead (HQ9.out.q HNo.out) HG11.out
       refine h1.cons.trans ⟨HQ12.out.mono (fun g hg _=>by rw [mSg] at hg;subst hg;exact List.mem_cons_self ..),fun g hg=>.inl hg⟩
      refine ⟨⟨c+1,(laySq ⟨src.W,src.H,P⟩ prev X Y q SQq).pix,F11,_,by omega,by first | rfl | go_num | (congr 1;omega),lh (by rw [heta];exact HLox.out.1),HO12,lh (pcWrite_out HA11.out HQ12.out (fun g hg hm=>by rw [mSg] at hg;subst hg;have:=pcWrite_ge HA11.out _ hm;omega)),lh ((wok_square key (askOf SQq) HWk.out).le (by omega)),lh (by rw [heta,← HStep.out];exact Hgo.out),lh (HGk.out.trans hall)⟩,?_⟩
      have:=HMeas.out
      simpa [hxn] using this
     ·obtain rfl:c=aa:=by omega
      have hxi:¬ (8*(c:Int))<src.W:=by have:=HHa.out.1;omega
      have hnx:d*c+c=(d+1)*c:=(Nat.succ_mul d c).symm
      have hyn:IntKind.i64.wrap ((8*(d:Int))+8)=(8*((d+1:Nat):Int)):=by rw [IntKind.wrap_i64];omega
      rw [hnx] at HWk Hgo
      clear hnx
      obtain ⟨Y,hY⟩:∃ z,z=(8*(d:Int)):=⟨_,rfl⟩
      have HY:=lh hY
      rw [← hY] at hyn ⊢
      obtain ⟨X,hX⟩:∃ z,z=(8*(c:Int)):=⟨_,rfl⟩
      rw [← hX] at hxi ⊢
      clear hY hX
      go_wp2_with fail
      exact ⟨⟨d+1,P,Fk,mk,by omega,by first | rfl | rw [hyn],HPk,HOk,HAk,HWk,Hgo,HGk⟩,by have:=HY.out;simp only [intOf];omega⟩
   ·obtain rfl:d=bb:=by omega
    have hyi:¬ (8*(d:Int))<src.H:=by have:=HHa.out.2;omega
    have HFin:Hid (encF src prev key q r=(⟨src.W,src.H,P⟩,mk)):=lh (by rw [← Hgo.out,Nat.sub_self];rfl)
    clear t0 t1 t2
    have HEd:=lh (wend_any HAk.out (by
     have h1:=HWk.out.2
     have h2:d*aa≤4*4:=Nat.mul_le_mul hb4.1 ha4.1
     omega))
    have HDl2:=lh HDl.out
    rw [HFin.out] at HDl2
    have HGkk:Hid (∀ g∈g0 :: FT,w5.heap.size≤g):=lh (fun g hg=>by
     have hz:=HZ.out
     rcases List.mem_cons.1 hg with rfl | hg
     ·exact hz.2.1
     ·have:=(HFl.out g hg).1;omega)
    have HRt9:=lh (HGk.out.1.rowAt HRt8.out (HK.out B6 (by have:=HZ.out;omega) (by have:=HZ.out;omega)))
    have HRc9:=lh (HGk.out.1.rowAt HRc8.out (fun hm=>by have:=HGkk.out _ hm;have:=HZ.out;omega))
    have HRf9:=lh (HGk.out.1.rowAt HRf8.out (fun hm=>by have:=HGkk.out _ hm;have:=HZ.out;omega))
    have HQk:=lh (HQ8w.out.trans HGk.out.1 (U:=[]) (by simp) (fun g hg hlt=>by have:=HGkk.out g hg;have:=HZ.out;omega))
    clear HRs8 HRp8 HRc8 HRf8 HRt8 HS8 HP8 HO8 HA8 HGkk HK HCh HLy HLo HWr HEnc
    have t:=frame_cells HRt9.out
    obtain ⟨t0,t1,t2⟩:=t
    go_upto_if 76 with (fail)
    go_cut [20] (fun s20 wx=>s20=.int .i64 (if key then 1 else 2)∧wr=wx)
    case first =>
     cases key with
     | true =>
      go_wp2_with fail
      go_meet
      exact ⟨rfl,rfl⟩
     | false =>
      go_wp2_with fail
      go_meet
      exact ⟨rfl,rfl⟩
    case rest =>
     obtain ⟨rfl,hwc⟩:=hcut
     subst hwc
     obtain ⟨KK,hKK⟩:∃ z:Int,z=if key then 1 else 2:=⟨_,rfl⟩
     rw [← hKK]
     have hk12:KK=1∨KK=2:=by rw [hKK];cases key <;> simp
     have HKK:=lh hKK
     clear hKK t0 t1 t2
     go_wp2_with fail
     go_at_call 108
     refine HEd.out.mono ?_
     rintro e w13 ⟨v13,rfl,hi13,hq13⟩
     obtain ⟨d3,c3,rfl,-⟩:=hi13.open
     have HI13:=lh hi13
     have HQ13:=lh hq13
     obtain ⟨N3,hN3⟩:∃ z,z=(endW mk).length:=⟨_,rfl⟩
     have HPk2:=lh (pack_any (k:=KK) (q:=(q:Int)) HI13.out HDl2.out hk12 ⟨by omega,by have:=Hq15.out;omega⟩)
     rw [← hN3] at HPk2 ⊢
     clear hi13 hq13 hN3 HEd hk12
     go_wp2_with fail
     go_at_call 107
     refine HPk2.out.mono ?_
     rintro e w14 ⟨v14,rfl,hi14,hq14⟩
     obtain ⟨d4,c4,rfl,-⟩:=hi14.open
     have HI14:=lh hi14
     have HQ14:=lh (HQ13.out.q hq14)
     have HZ13:=lh HQ13.out.size
     clear hi14 hq14 HPk2
     obtain ⟨N4,hN4⟩:∃ z,z=((q:Int) :: endW mk).length:=⟨_,rfl⟩
     have HN4:=lh hN4
     rw [← hN4] at HI14 ⊢
     clear hN4
     have HVn:=lh (heap_alloc_new w14 (.cells #[.int .i64 KK,.slice d4 N4 c4] 69))
     have HQn:=lh (Only.new w14 (.cells #[.int .i64 KK,.slice d4 N4 c4] 69))
     go_wp2_with fail
     generalize hW15:World.alloc w14 _=W15 at *
     clear hW15
     have hz14:=HQ14.out.size
     have hzk:=HGk.out.1.size
     have hz:=HZ.out
     obtain ⟨V21,hV⟩:∃ z,z=w14.heap.size:=⟨_,rfl⟩
     rw [← hV] at HVn ⊢
     have HQ15:=lh (HQ14.out.q HQn.out)
     have hc15:W15.heap[w.heap.size+1+1]?=some (.cells #[.int .i64 0,.slice none 0 0] 69 (0,0)):=HQ15.out.row HRc9.out
     have hf15:W15.heap[w.heap.size+1+1+1]?=some (.cells #[.int .i64 0,.int .i64 0,.slice none 0 0] 73 (0,0)):=HQ15.out.row HRf9.out
     obtain ⟨v0,v1,-⟩:=row2 HVn.out
     obtain ⟨t0,t1,t2⟩:=frame_cells (HQ15.out.row HRt9.out)
     obtain ⟨x0,x1,y0,y1,-⟩:=row2 hc15
     obtain ⟨hc2,ho2⟩:=row2_set (x:=.int .i64 KK) (y:=.slice d4 N4 c4) hc15
     have hf2:=ho2.rowAt hf15 (by simp)
     obtain ⟨f0,f1,f2⟩:=frame_cells hf2
     have k0:=frozen_of_row _ (w.heap.size+1+1+1) 0 _ _ hf2
     have k1:=frozen_of_row _ (w.heap.size+1+1+1) 1 _ _ hf2
     have k2:=frozen_of_row _ (w.heap.size+1+1+1) 2 _ _ hf2
     obtain ⟨hc,hf,ho⟩:=row23_set (x:=.int .i64 KK) (y:=.slice d4 N4 c4) (u:=.int .i64 src.W) (v:=.int .i64 src.H) (z:=.slice (some ⟨g0,0,none⟩) NL cap0) hc15 hf15 (by omega)
     have HNc:Hid (V21∉[w.heap.size+1+1]∧B6∉[w.heap.size+1+1]∧V21∉[w.heap.size+1+1,w.heap.size+1+1+1]∧B6∉[w.heap.size+1+1,w.heap.size+1+1+1]):=lh (by simp only [mSg,List.mem_cons,List.not_mem_nil,or_false];omega)
     have q0:=ho2.drew.cell v0 HNc.out.1
     have q1:=ho2.drew.cell v1 HNc.out.1
     have q2:=ho2.drew.cell t0 HNc.out.2.1
     have q3:=ho2.drew.cell t1 HNc.out.2.1
     have q4:=ho2.drew.cell t2 HNc.out.2.1
     have r0:=ho.drew.cell v0 HNc.out.2.2.1
     have r1:=ho.drew.cell v1 HNc.out.2.2.1
     have r2:=ho.drew.cell t0 HNc.out.2.2.2
     have r3:=ho.drew.cell t1 HNc.out.2.2.2
     have r4:=ho.drew.cell t2 HNc.out.2.2.2
     have HC:=lh (drew_row hc)
     have HF:=lh (drew_row hf)
     have HOx:=lh ho.drew
     have HHz:=lh (And.intro hz14 (And.intro hzk hz))
     clear hc hf hc2 hf2 hc15 hf15 hz14 hzk hz hV
     refine wp_region_held_drew (S:=(fun w'=>w'.cell? ⟨V21,0,none⟩=some (.int .i64 KK)∧w'.cell? ⟨V21,1,none⟩=some (.slice d4 N4 c4)∧w'.cell? ⟨B6,0,none⟩=some (.int .i64 src.W)∧w'.cell? ⟨B6,1,none⟩=some (.int .i64 src.H)∧w'.cell? ⟨B6,2,none⟩=some (.slice (some ⟨g0,0,none⟩) NL cap0))) (by kernel_rfl) ?_ (fun hHeld=>?_)
     ·exact ⟨v0,v1,t0,t1,t2⟩
     refine tk 0 91 ?_
     refine tk 1 92 ?_
     refine rdy (rdn 2 (fun K hK=>?_) .nil)
     go_simp
     refine hK.out _ _ ?_ (fun hHeld=>?_)
     ·exact ⟨q0,q1,q2,q3,q4⟩
     clear hK K
     try simp only [Act.put,List.setIfInBounds_toArray,List.set_cons_zero,List.set_cons_succ]
     refine rdy (rdn 3 (fun K hK=>?_) .nil)
     go_simp
     refine hK.out _ _ ?_ (fun hHeld=>?_)
     ·exact ⟨r0,r1,r2,r3,r4⟩
     clear hK K
     try simp only [Act.put,List.setIfInBounds_toArray,List.set_cons_zero,List.set_cons_succ]
     refine tk 4 12 ?_
     refine wpAnyH_done (by kernel_rfl) ?_ _
     go_wp2_with fail
     have hz14:=HHz.out
     refine bodyPost_ret (v:=.tuple #[.agg #[.int .i64 KK,.slice d4 N4 c4],.agg #[.int .i64 src.W,.int .i64 src.H,.slice (some ⟨g0,0,none⟩) NL cap0],.nilIface]) (results_cct Tryz.results83 _ _ (w.heap.size+1+1) (w.heap.size+1+1+1) _ _ _ _ _ _ _ _ _ rfl rfl rfl HC.out HF.out Tryz.underlying69 rfl (by kernel_rfl) Tryz.underlying73 rfl (by kernel_rfl)) rfl (HPost2.out _ _ ?_ ⟨.slice d4 N4 c4,.slice (some ⟨g0,0,none⟩) NL cap0,?_,?_,?_⟩)
     ·exact ((HQk.out.q HQ15.out).trans HOx.out (U:=[]) (by simp) (fun g hg hlt=>by simp only [List.mem_cons,List.not_mem_nil,or_false] at hg;omega))
     ·rw [HCod.out,← HKK.out]
     ·rw [HCod.out]
      show Ints .u8 _ _ _ _ ((q:Int) :: endW (encF src prev key q r).2)
      rw [HFin.out]
      have h4:=(HI14.out.quiet HQn.out).only HOx.out (fun g hg=>by simp only [List.mem_cons,List.not_mem_nil,or_false] at hg;have:=HZ13.out;exact .inl (by omega))
      exact h4.mono (by have:=HZ13.out;omega) (Nat.le_trans HQn.out.size HOx.out.size)
     ·rw [HFin.out]
      have h5:=(HOk.out.quiet HQ15.out).only HOx.out (fun g hg e=>by simp only [Value.ownBlock,Option.some.injEq] at e;simp only [List.mem_cons,List.not_mem_nil,or_false] at hg;omega)
      exact h5.ints
end
end Go.Proofs.YtkigikallkpbcaaGreatDoor
