/- encode.choose: how a square is coded. Conditions: frames that may be, of alike sides, a place in them, a quantiser and a reach that may be. -/
import Derived.Test.YtmgbbgffkakcaaaGreatDoorT1
import Derived.Test.YtmgbbgffkakcaaaGreatDoorW7
namespace Go.Proofs.YtmgbbgffkakcaaaGreatDoor
open Go.RowKit
set_option linter.unusedVariables false
set_option linter.unusedSimpArgs false
set_option maxRecDepth 100000
set_option maxHeartbeats 16000000
theorem all_nz (l:List Int):(!l.any nzB)=l.all (· == 0):=by
 unfold nzB
 induction l with
 | nil=>rfl
 | cons a l ih=>rw [List.any_cons,List.all_cons,Bool.not_or,ih];congr 1;simp [bne]
theorem restE_eq (cur:FrameD) (b:List Int) (x y q:Int) (rr:SqD×Int):restE cur b x y q rr=(betterE (betterE rr ⟨2,(bestAt cur b x y 8).1,[0,0,0,0],0,0,oneL cur b x y 8 q,[[],[],[],[]]⟩ (4*(bestAt cur b x y 8).2+8)) ⟨3,0,(fourE cur b x y q).1,0,0,[],(fourE cur b x y q).2.1⟩ (fourE cur b x y q).2.2).1:=rfl
section
theorem qECho0 {p:Prop} (h:p:=by
 have z1:=HSo.out.size
 have z2:=HZ5.out
 exact ⟨h3.large.mono (by omega) z1,h3.len,fun i hi=>(h3.small i hi).mono (by omega) z1⟩):p:=h
theorem choose_any {q r lo hi lo2 hi2 lo3 hi3:Nat} {sv cv pv:Value} {src cur prev:FrameD} {w:World} (key:Bool) (hs:FrOk src) (hc:FrOk cur) (hp:key=false→FrOk prev∧prev.W=src.W∧prev.H=src.H) (hW:cur.W=src.W) (hH:cur.H=src.H) (is:Ints .i64 lo hi w sv src.pix) (ic:Ints .i64 lo2 hi2 w cv cur.pix) (ip:Ints .i64 lo3 hi3 w pv prev.pix) (x y:Int) (hx:0≤x∧x+8≤src.W) (hy:0≤y∧y+8≤src.H) (hq:q≤15) (hr:r≤7) (hhi:hi3≤w.heap.size) :
  Calls Tryz.prog 40 #[.agg #[.int .i64 src.W,.int .i64 src.H,sv],.agg #[.int .i64 cur.W,.int .i64 cur.H,cv],.agg #[.int .i64 prev.W,.int .i64 prev.H,pv],.bool key,.int .i64 x,.int .i64 y,.int .i64 q,.int .i64 r] w fun e w'=>(∃ lv vs,e=.returned (.agg (sqL (chooseE src prev key q r cur x y).kind (chooseE src prev key q r cur x y).mode (chooseE src prev key q r cur x y).modes (chooseE src prev key q r cur x y).vx (chooseE src prev key q r cur x y).vy lv vs).toArray)∧(chooseE src prev key q r cur x y).modes.length=4∧SqIn w.heap.size w'.heap.size w' lv vs (chooseE src prev key q r cur x y).large (chooseE src prev key q r cur x y).small∧Only [] w w'):=by
 refine hidQ fun Q HPost=>?_
 have HGet:=lh (fun (W:World) (o:Only [] w W)=>pget_any hs (is.quiet o) x y hx hy)
 have hbl:=getSq_len src x y 8
 have sb:=getSq_in hs.sam x y 8
 have HBl:Hid ((getSq src x y 8).length=64):=lh hbl
 have hs1:=hs.w1
 have hs2:=hs.h1
 have HBlk:=lh (fun (hk:key=false) (W:World) (o:Only [] w W) (vx vy:Int) (h1:-15≤vx∧vx≤15) (h2:-15≤vy∧vy≤15)=>mblock_any (hp hk).1 (ip.quiet o) x y vx vy (by omega) (by omega) h1 h2)
 have HBkl:=lh (fun (vx vy:Int)=>blockD_len prev x y 8 vx vy)
 have HLev:=lh (fun (hk:key=false) (W:World) (l1 h1 l2 h2:Nat) (u v:Value) (vx vy:Int) (i1:Ints .i64 l1 h1 W u (getSq src x y 8)) (i2:Ints .i64 l2 h2 W v (blockD prev x y 8 vx vy))=>declevels_any (n:=8) (.inr rfl) i1 i2 (by rw [hbl]) (by rw [blockD_len]) sb (blockD_in (hp hk).1.sam x y 8 vx vy) q hq)
 have HLl:=lh (fun (hk:key=false) (vx vy:Int)=>(levelsE_ok (n:=8) (q:=q) (.inr rfl) hbl (blockD_len prev x y 8 vx vy) sb (blockD_in (hp hk).1.sam x y 8 vx vy) hq).1)
 have HZer:=lh (fun (W:World) (l1 h1:Nat) (v:Value) (l:List Int) (i1:Ints .i64 l1 h1 W v l) (hl:l.length≤1000)=>zero_any i1 (by omega))
 have HSea:=lh (fun (hk:key=false) (W:World) (o:Only [] w W) (l1 h1:Nat) (u:Value) (i1:Ints .i64 l1 h1 W u (getSq src x y 8)) (g:h1≤W.heap.size)=>msearch_any (r:=r) (hp hk).1 (ip.quiet o) i1 hbl sb x y (by have:=(hp hk).2.1;omega) (by have:=(hp hk).2.2;omega) hr (by have:=o.size;omega) g)
 have HSok:=lh (searchE_ok prev (getSq src x y 8) x y hr)
 have HCost:=lh (fun (hk:key=false) (W:World) (l1 h1 l2 h2:Nat) (u v:Value) (vx vy:Int) (g1:-15≤vx∧vx≤15) (g2:-15≤vy∧vy≤15) (i1:Ints .i64 l1 h1 W u (blockD prev x y 8 vx vy)) (i2:Ints .i64 l2 h2 W v (getSq src x y 8))=>mcost_any i1 i2 (by rw [blockD_len]) hbl (blockD_in (hp hk).1.sam x y 8 vx vy) sb vx vy g1 g2)
 have HOne:=lh (fun (W:World) (o:Only [] w W) (l1 h1:Nat) (u:Value) (i1:Ints .i64 l1 h1 W u (getSq src x y 8))=>mone_any (n:=8) (q:=q) (.inr rfl) hc (ic.quiet o) i1 hbl sb x y hx.1 (by omega) hy.1 (by omega) hq)
 have HOl:=lh (oneL_ok (n:=8) (q:=q) (.inr rfl) hc.sam hbl sb x y hq).1
 have hba:=bestAt_in hc.sam sb x y (n:=8) (.inr rfl) hbl
 have HFou:=lh (fun (W:World) (o:Only [] w W) (l1 h1:Nat) (u:Value) (i1:Ints .i64 l1 h1 W u (getSq src x y 8))=>mfour_any (q:=q) hc (ic.quiet o) i1 hbl sb x y hx.1 (by omega) hy.1 (by omega) hq)
 have HCh:Hid (chooseE src prev key q r cur x y=if key then restE cur (getSq src x y 8) x y q (sq0,-1) else if sameE prev (getSq src x y 8) x y q then sq0 else restE cur (getSq src x y 8) x y q (movedE prev (getSq src x y 8) x y q r)):=lh rfl
 have HSame:Hid (sameE prev (getSq src x y 8) x y q=(levelsE (getSq src x y 8) (blockD prev x y 8 0 0) q).all (· == 0)):=lh rfl
 have HMov:Hid (movedE prev (getSq src x y 8) x y q r=(⟨1,0,[0,0,0,0],(searchE prev (getSq src x y 8) x y r).vx,(searchE prev (getSq src x y 8) x y r).vy,levelsE (getSq src x y 8) (blockD prev x y 8 (searchE prev (getSq src x y 8) x y r).vx (searchE prev (getSq src x y 8) x y r).vy) q,[[],[],[],[]]⟩,costE (blockD prev x y 8 (searchE prev (getSq src x y 8) x y r).vx (searchE prev (getSq src x y 8) x y r).vy) (getSq src x y 8) (searchE prev (getSq src x y 8) x y r).vx (searchE prev (getSq src x y 8) x y r).vy)):=lh rfl
 obtain ⟨sa,sc,rfl,-⟩:=is.open
 obtain ⟨ca,cc,rfl,-⟩:=ic.open
 obtain ⟨pa,pc,rfl,-⟩:=ip.open
 obtain ⟨CH,hCH⟩:∃ z,z=chooseE src prev key q r cur x y:=⟨_,rfl⟩
 rw [← hCH] at HCh HPost
 generalize getSq src x y 8=b at *
 have hkn:key=false∨key=true:=by cases key <;> simp
 clear is ic ip hs hc hp hx hy hq hr hbl sb hCH hs1 hs2 hW hH
 have HQ4:Hid (Only [] w ((((w.alloc (.cells #[.int .i64 src.W,.int .i64 src.H,.slice sa src.pix.length sc] 24)).alloc (.cells #[.int .i64 cur.W,.int .i64 cur.H,.slice ca cur.pix.length cc] 24)).alloc (.cells #[.int .i64 prev.W,.int .i64 prev.H,.slice pa prev.pix.length pc] 24)).alloc (.cells #[.int .i64 0,.int .i64 0,.int .i64 0,.int .i64 0,.int .i64 0,.int .i64 0,.int .i64 0,.int .i64 0,.slice none 0 0,.slice none 0 0,.slice none 0 0,.slice none 0 0,.slice none 0 0] 65))):=lh ((((Only.new w _).alloc _).alloc _).alloc _)
 have HRs:Hid (((((w.alloc (.cells #[.int .i64 src.W,.int .i64 src.H,.slice sa src.pix.length sc] 24)).alloc (.cells #[.int .i64 cur.W,.int .i64 cur.H,.slice ca cur.pix.length cc] 24)).alloc (.cells #[.int .i64 prev.W,.int .i64 prev.H,.slice pa prev.pix.length pc] 24)).alloc (.cells #[.int .i64 0,.int .i64 0,.int .i64 0,.int .i64 0,.int .i64 0,.int .i64 0,.int .i64 0,.int .i64 0,.slice none 0 0,.slice none 0 0,.slice none 0 0,.slice none 0 0,.slice none 0 0] 65)).heap[w.heap.size]?=some (.cells #[.int .i64 src.W,.int .i64 src.H,.slice sa src.pix.length sc] 24 (0,0))):=lh ((((Only.new (w.alloc _) _).alloc _).alloc _).row (heap_alloc_new w _))
 have HRc:Hid (((((w.alloc (.cells #[.int .i64 src.W,.int .i64 src.H,.slice sa src.pix.length sc] 24)).alloc (.cells #[.int .i64 cur.W,.int .i64 cur.H,.slice ca cur.pix.length cc] 24)).alloc (.cells #[.int .i64 prev.W,.int .i64 prev.H,.slice pa prev.pix.length pc] 24)).alloc (.cells #[.int .i64 0,.int .i64 0,.int .i64 0,.int .i64 0,.int .i64 0,.int .i64 0,.int .i64 0,.int .i64 0,.slice none 0 0,.slice none 0 0,.slice none 0 0,.slice none 0 0,.slice none 0 0] 65)).heap[w.heap.size+1]?=some (.cells #[.int .i64 cur.W,.int .i64 cur.H,.slice ca cur.pix.length cc] 24 (0,0))):=lh (((Only.new ((w.alloc _).alloc _) _).alloc _).row (heap_alloc_new' (by simp)))
 have HRp:Hid (((((w.alloc (.cells #[.int .i64 src.W,.int .i64 src.H,.slice sa src.pix.length sc] 24)).alloc (.cells #[.int .i64 cur.W,.int .i64 cur.H,.slice ca cur.pix.length cc] 24)).alloc (.cells #[.int .i64 prev.W,.int .i64 prev.H,.slice pa prev.pix.length pc] 24)).alloc (.cells #[.int .i64 0,.int .i64 0,.int .i64 0,.int .i64 0,.int .i64 0,.int .i64 0,.int .i64 0,.int .i64 0,.slice none 0 0,.slice none 0 0,.slice none 0 0,.slice none 0 0,.slice none 0 0] 65)).heap[w.heap.size+1+1]?=some (.cells #[.int .i64 prev.W,.int .i64 prev.H,.slice pa prev.pix.length pc] 24 (0,0))):=lh ((Only.new (((w.alloc _).alloc _).alloc _) _).row (heap_alloc_new' (by simp)))
 have HRt:Hid (SqRow (w.heap.size+1+1+1) ((((w.alloc (.cells #[.int .i64 src.W,.int .i64 src.H,.slice sa src.pix.length sc] 24)).alloc (.cells #[.int .i64 cur.W,.int .i64 cur.H,.slice ca cur.pix.length cc] 24)).alloc (.cells #[.int .i64 prev.W,.int .i64 prev.H,.slice pa prev.pix.length pc] 24)).alloc (.cells #[.int .i64 0,.int .i64 0,.int .i64 0,.int .i64 0,.int .i64 0,.int .i64 0,.int .i64 0,.int .i64 0,.slice none 0 0,.slice none 0 0,.slice none 0 0,.slice none 0 0,.slice none 0 0] 65)) 0 0 [0,0,0,0] 0 0 nilS [nilS,nilS,nilS,nilS]):=lh (heap_alloc_new' (by simp))
 have HZ4:Hid (((((w.alloc (.cells #[.int .i64 src.W,.int .i64 src.H,.slice sa src.pix.length sc] 24)).alloc (.cells #[.int .i64 cur.W,.int .i64 cur.H,.slice ca cur.pix.length cc] 24)).alloc (.cells #[.int .i64 prev.W,.int .i64 prev.H,.slice pa prev.pix.length pc] 24)).alloc (.cells #[.int .i64 0,.int .i64 0,.int .i64 0,.int .i64 0,.int .i64 0,.int .i64 0,.int .i64 0,.int .i64 0,.slice none 0 0,.slice none 0 0,.slice none 0 0,.slice none 0 0,.slice none 0 0] 65)).heap.size=w.heap.size+1+1+1+1):=lh (by simp)
 obtain ⟨a0,a1,a2⟩:=frame_cells HRs.out
 go_enter Tryz.func40,Tryz.ntmps40
 go_wp2_with fail
 generalize hW4:World.alloc (World.alloc (World.alloc (World.alloc w _) _) _) _=W4 at *
 clear hW4 a0 a1 a2
 go_at_call 79
 refine (HGet.out W4 HQ4.out).mono ?_
 rintro e w5 ⟨bv,rfl,hb5,hq5⟩
 obtain ⟨gb,bc,rfl,hgb,hgb'⟩:=hb5.form (by rw [HBl.out];omega)
 rw [HBl.out] at hb5 ⊢
 have HB5:=lh hb5.ints
 have HQ5:=lh hq5
 have HRt5:=lh (hq5.row HRt.out)
 clear hb5 hq5 hgb hgb' HGet
 have HS0:=lh (heap_alloc_new w5 (.cells (sqL 0 0 [0,0,0,0] 0 0 nilS [nilS,nilS,nilS,nilS]).toArray 65))
 have HIz:=lh (sqL_info (k:=0) (mo:=0) (ms:=[0,0,0,0]) (vx:=0) (vy:=0) (lv:=nilS) (vs:=[nilS,nilS,nilS,nilS]) rfl rfl)
 have HOz:=lh (sqL_one (k:=0) (mo:=0) (ms:=[0,0,0,0]) (vx:=0) (vy:=0) (lv:=nilS) rfl nils_one)
 have HUnd:=lh Tryz.underlying65
 have hr6:((w5.alloc (.cells #[.int .i64 0,.int .i64 0,.int .i64 0,.int .i64 0,.int .i64 0,.int .i64 0,.int .i64 0,.int .i64 0,.slice none 0 0,.slice none 0 0,.slice none 0 0,.slice none 0 0,.slice none 0 0] 65)).alloc (.cells #[.int .i64 0] 3)).heap[w5.heap.size+1]?=some (.cells #[.int .i64 0] 3 (0,0)):=heap_alloc_new' (by simp)
 have hs6:SqRow w5.heap.size ((w5.alloc (.cells #[.int .i64 0,.int .i64 0,.int .i64 0,.int .i64 0,.int .i64 0,.int .i64 0,.int .i64 0,.int .i64 0,.slice none 0 0,.slice none 0 0,.slice none 0 0,.slice none 0 0,.slice none 0 0] 65)).alloc (.cells #[.int .i64 0] 3)) 0 0 [0,0,0,0] 0 0 nilS [nilS,nilS,nilS,nilS]:=(Only.new _ _).row HS0.out
 have ho7:=Only.setRow (S:=[w5.heap.size]) (Only.refl _ ((w5.alloc (.cells #[.int .i64 0,.int .i64 0,.int .i64 0,.int .i64 0,.int .i64 0,.int .i64 0,.int .i64 0,.int .i64 0,.slice none 0 0,.slice none 0 0,.slice none 0 0,.slice none 0 0,.slice none 0 0] 65)).alloc (.cells #[.int .i64 0] 3))) (g:=w5.heap.size) (fun _=>by simp) #[.int .i64 0,.int .i64 0,.int .i64 0,.int .i64 0,.int .i64 0,.int .i64 0,.int .i64 0,.int .i64 0,.slice none 0 0,.slice none 0 0,.slice none 0 0,.slice none 0 0,.slice none 0 0]
 have hs7:SqRow w5.heap.size (((w5.alloc (.cells #[.int .i64 0,.int .i64 0,.int .i64 0,.int .i64 0,.int .i64 0,.int .i64 0,.int .i64 0,.int .i64 0,.slice none 0 0,.slice none 0 0,.slice none 0 0,.slice none 0 0,.slice none 0 0] 65)).alloc (.cells #[.int .i64 0] 3)).setRow w5.heap.size #[.int .i64 0,.int .i64 0,.int .i64 0,.int .i64 0,.int .i64 0,.int .i64 0,.int .i64 0,.int .i64 0,.slice none 0 0,.slice none 0 0,.slice none 0 0,.slice none 0 0,.slice none 0 0]) 0 0 [0,0,0,0] 0 0 nilS [nilS,nilS,nilS,nilS]:=setRow_heap ((w5.alloc (.cells #[.int .i64 0,.int .i64 0,.int .i64 0,.int .i64 0,.int .i64 0,.int .i64 0,.int .i64 0,.int .i64 0,.slice none 0 0,.slice none 0 0,.slice none 0 0,.slice none 0 0,.slice none 0 0] 65)).alloc (.cells #[.int .i64 0] 3)) w5.heap.size _ #[.int .i64 0,.int .i64 0,.int .i64 0,.int .i64 0,.int .i64 0,.int .i64 0,.int .i64 0,.int .i64 0,.slice none 0 0,.slice none 0 0,.slice none 0 0,.slice none 0 0,.slice none 0 0] _ _ hs6
 have hr7:=ho7.rowAt hr6 (by simp)
 have cL:(((w5.alloc (.cells #[.int .i64 0,.int .i64 0,.int .i64 0,.int .i64 0,.int .i64 0,.int .i64 0,.int .i64 0,.int .i64 0,.slice none 0 0,.slice none 0 0,.slice none 0 0,.slice none 0 0,.slice none 0 0] 65)).alloc (.cells #[.int .i64 0] 3)).setRow w5.heap.size #[.int .i64 0,.int .i64 0,.int .i64 0,.int .i64 0,.int .i64 0,.int .i64 0,.int .i64 0,.int .i64 0,.slice none 0 0,.slice none 0 0,.slice none 0 0,.slice none 0 0,.slice none 0 0]).cell? ⟨w5.heap.size+1,0,none⟩=some (.int .i64 0):=by rw [cell_of_row _ _ _ _ _ _ hr7];rfl
 have fL:=frozen_of_row _ (w5.heap.size+1) 0 _ _ hr7
 have hr8:=heap_setCell_same _ (w5.heap.size+1) 0 _ _ (.int .i64 (-1)) hr7
 have ho8:Only [w5.heap.size+1] (((w5.alloc (.cells #[.int .i64 0,.int .i64 0,.int .i64 0,.int .i64 0,.int .i64 0,.int .i64 0,.int .i64 0,.int .i64 0,.slice none 0 0,.slice none 0 0,.slice none 0 0,.slice none 0 0,.slice none 0 0] 65)).alloc (.cells #[.int .i64 0] 3)).setRow w5.heap.size #[.int .i64 0,.int .i64 0,.int .i64 0,.int .i64 0,.int .i64 0,.int .i64 0,.int .i64 0,.int .i64 0,.slice none 0 0,.slice none 0 0,.slice none 0 0,.slice none 0 0,.slice none 0 0]) ((((w5.alloc (.cells #[.int .i64 0,.int .i64 0,.int .i64 0,.int .i64 0,.int .i64 0,.int .i64 0,.int .i64 0,.int .i64 0,.slice none 0 0,.slice none 0 0,.slice none 0 0,.slice none 0 0,.slice none 0 0] 65)).alloc (.cells #[.int .i64 0] 3)).setRow w5.heap.size #[.int .i64 0,.int .i64 0,.int .i64 0,.int .i64 0,.int .i64 0,.int .i64 0,.int .i64 0,.int .i64 0,.slice none 0 0,.slice none 0 0,.slice none 0 0,.slice none 0 0,.slice none 0 0]).setCell ⟨w5.heap.size+1,0,none⟩ (.int .i64 (-1))):=(Only.refl _ _).setCell (by simp) _
 have HB0:Hid (BestAt w5.heap.size (w5.heap.size+1) (w5.heap.size+1+1) ((((w5.alloc (.cells #[.int .i64 0,.int .i64 0,.int .i64 0,.int .i64 0,.int .i64 0,.int .i64 0,.int .i64 0,.int .i64 0,.slice none 0 0,.slice none 0 0,.slice none 0 0,.slice none 0 0,.slice none 0 0] 65)).alloc (.cells #[.int .i64 0] 3)).setRow w5.heap.size #[.int .i64 0,.int .i64 0,.int .i64 0,.int .i64 0,.int .i64 0,.int .i64 0,.int .i64 0,.int .i64 0,.slice none 0 0,.slice none 0 0,.slice none 0 0,.slice none 0 0,.slice none 0 0]).setCell ⟨w5.heap.size+1,0,none⟩ (.int .i64 (-1))) (sq0,-1)):=lh ⟨hr8,⟨nilS,[nilS,nilS,nilS,nilS],ho8.rowAt hs7 (by simp),⟨Ints.nil _ _ _ _,rfl,fun i hi=>by
  match i,hi with
  | 0,_=>exact Ints.nil _ _ _ _
  | 1,_=>exact Ints.nil _ _ _ _
  | 2,_=>exact Ints.nil _ _ _ _
  | 3,_=>exact Ints.nil _ _ _ _⟩⟩,rfl,⟨by omega,by omega,by omega⟩⟩
 have HQ8:Hid (Only [] w5 ((((w5.alloc (.cells #[.int .i64 0,.int .i64 0,.int .i64 0,.int .i64 0,.int .i64 0,.int .i64 0,.int .i64 0,.int .i64 0,.slice none 0 0,.slice none 0 0,.slice none 0 0,.slice none 0 0,.slice none 0 0] 65)).alloc (.cells #[.int .i64 0] 3)).setRow w5.heap.size #[.int .i64 0,.int .i64 0,.int .i64 0,.int .i64 0,.int .i64 0,.int .i64 0,.int .i64 0,.int .i64 0,.slice none 0 0,.slice none 0 0,.slice none 0 0,.slice none 0 0,.slice none 0 0]).setCell ⟨w5.heap.size+1,0,none⟩ (.int .i64 (-1)))):=lh ((((Only.new w5 _).alloc _).trans ho7 (U:=[]) (by simp) (fun g hg hlt=>by rw [mSg] at hg;omega)).trans ho8 (U:=[]) (by simp) (fun g hg hlt=>by rw [mSg] at hg;omega))
 have HZ8:Hid ((((((w5.alloc (.cells #[.int .i64 0,.int .i64 0,.int .i64 0,.int .i64 0,.int .i64 0,.int .i64 0,.int .i64 0,.int .i64 0,.slice none 0 0,.slice none 0 0,.slice none 0 0,.slice none 0 0,.slice none 0 0] 65)).alloc (.cells #[.int .i64 0] 3)).setRow w5.heap.size #[.int .i64 0,.int .i64 0,.int .i64 0,.int .i64 0,.int .i64 0,.int .i64 0,.int .i64 0,.int .i64 0,.slice none 0 0,.slice none 0 0,.slice none 0 0,.slice none 0 0,.slice none 0 0]).setCell ⟨w5.heap.size+1,0,none⟩ (.int .i64 (-1)))).heap.size=w5.heap.size+1+1):=lh (by simp [World.setCell,World.setRow])
 clear hr6 hs6 ho7 hs7 hr7 hr8 ho8
 go_upto_if 36 with (first
  | (refine wpList_store_row rfl (.tmp 18) (.tmp 33) 65 rfl rfl rfl ((Only.new _ _).row HS0.out) HIz.out rfl HOz.out ?_)
  | fail)
 clear cL fL HS0
 generalize hW8:World.setCell (World.setRow _ _ _) _ _=W8 at *
 clear hW8
 have HB8:Hid (Ints .i64 w5.heap.size w5.heap.size w5 .nilIface []→True):=lh (fun _=>trivial)
 have HBv:=lh (HB5.out.quiet HQ8.out)
 have HQw:=lh ((HQ4.out.q HQ5.out).q HQ8.out)
 have HZ5:Hid (w.heap.size+1+1+1+1≤w5.heap.size):=lh (by have:=HQ5.out.size;have:=HZ4.out;omega)
 obtain ⟨BQ,hBQ⟩:∃ z,z=w5.heap.size:=⟨_,rfl⟩
 rw [← hBQ] at HB0 HBv HZ8 HZ5 ⊢
 have HRs8:=lh ((HQ5.out.q HQ8.out).row HRs.out)
 have HRc8:=lh ((HQ5.out.q HQ8.out).row HRc.out)
 have HRp8:=lh ((HQ5.out.q HQ8.out).row HRp.out)
 have HRt8:=lh ((HQ5.out.q HQ8.out).row HRt.out)
 clear HB5 HQ5 HQ8 HRs HRc HRp HRt HRt5 HZ4 hBQ HB8
 go_cut [] (fun wx=>∃ (rr:SqD×Int),Hid (BestAt BQ (BQ+1) (BQ+1+1) wx rr)∧Hid (CH=restE cur b x y q rr)∧Hid (Only [BQ+1,BQ] W8 wx))
 case first =>
  rcases hkn with rfl | rfl
  ·have HCf:Hid (CH=if sameE prev b x y q then sq0 else restE cur b x y q (movedE prev b x y q r)):=lh (by rw [HCh.out];simp)
   rw [HSame.out,← all_nz] at HCf
   obtain ⟨p0,p1,p2⟩:=frame_cells HRp8.out
   go_wp2_with fail
   go_at_call 83
   refine (HBlk.out (by first | rfl | trivial) W8 HQw.out 0 0 (by omega) (by omega)).mono ?_
   rintro e w9 ⟨v9,rfl,ho9,hq9⟩
   obtain ⟨g9,c9,rfl,-,-⟩:=ho9.form (by rw [HBkl.out];omega)
   rw [HBkl.out] at ho9 ⊢
   have HO9:=lh ho9
   have HQ9:=lh hq9
   clear ho9 hq9 p0 p1 p2
   go_wp2_with fail
   go_at_call 82
   refine (HLev.out (by first | rfl | trivial) w9 _ _ _ _ _ _ 0 0 (HBv.out.quiet HQ9.out) HO9.out.ints).mono ?_
   rintro e w10 ⟨v10,rfl,ho10,hq10⟩
   have hl0:=HLl.out (by first | rfl | trivial) 0 0
   obtain ⟨L0,hL0⟩:∃ z,z=levelsE b (blockD prev x y 8 0 0) q:=⟨_,rfl⟩
   rw [← hL0] at ho10 hl0 HCf
   obtain ⟨g10,c10,rfl,-,-⟩:=ho10.form (by omega)
   rw [hl0] at ho10 ⊢
   have HO10:=lh ho10
   have HQ10:=lh (HQ9.out.q hq10)
   have Hl0:=lh hl0
   clear ho10 hq10 hl0 hL0
   go_wp2_with fail
   have hzer:=HZer.out w10 _ _ _ L0 HO10.out.ints (by rw [Hl0.out];omega)
   rw [show (8*8:Nat)=64 from rfl] at *
   go_at_call 81
   refine hzer.mono ?_
   rintro e w11 ⟨rfl,hq11⟩
   have HQ11:=lh (HQ10.out.q hq11)
   clear hq11 hzer
   cases hz:(!L0.any nzB) with
   | true =>
    have hch:CH=sq0:=by rw [HCf.out,hz];rfl
    rw [hch] at HPost
    obtain ⟨lv0,vs0,hrow0,hin0⟩:=(HB0.out.quiet HQ11.out).best
    have HRow0:=lh hrow0
    have HIn0:=lh hin0
    have HI0:=lh (sqL_info (k:=0) (mo:=0) (ms:=[0,0,0,0]) (vx:=0) (vy:=0) (lv:=lv0) (vs:=vs0) rfl hin0.len)
    have HO0:=lh (sqL_one (k:=0) (mo:=0) (ms:=[0,0,0,0]) (vx:=0) (vy:=0) (lv:=lv0) (vs:=vs0) hin0.one.1 hin0.one.2)
    have HZ0:=lh (sqL_sizes (k:=0) (mo:=0) (ms:=[0,0,0,0]) (vx:=0) (vy:=0) (lv:=nilS) (vs:=[nilS,nilS,nilS,nilS]) (k':=0) (mo':=0) (ms':=[0,0,0,0]) (vx':=0) (vy':=0) (lv':=lv0) (vs':=vs0) rfl rfl rfl hin0.len)
    have HT11:=lh (HQ11.out.row HRt8.out)
    have HFn:=lh (show SqRow (w.heap.size+1+1+1) (w11.setRow (w.heap.size+1+1+1) (sqL 0 0 [0,0,0,0] 0 0 lv0 vs0).toArray) 0 0 [0,0,0,0] 0 0 lv0 vs0 from setRow_heap w11 (w.heap.size+1+1+1) _ _ _ _ HT11.out)
    have HSo:=lh (Only.setRow (S:=[w.heap.size+1+1+1]) (Only.refl _ w11) (g:=w.heap.size+1+1+1) (fun _=>by simp) (sqL 0 0 [0,0,0,0] 0 0 lv0 vs0).toArray)
    clear hrow0 hin0 hz hch
    go_wp2_with (first
     | (refine wpList_load_row rfl (.tmp 18) 65 rfl rfl HRow0.out HUnd.out rfl HI0.out ?_)
     | (refine wpList_store_row rfl (.tmp 16) (.tmp 46) 65 rfl rfl rfl HT11.out HI0.out HZ0.out HO0.out ?_)
     | fail)
    refine bodyPost_ret (v:=.agg (sqL 0 0 [0,0,0,0] 0 0 lv0 vs0).toArray) (results_cell_row Tryz.results40 _ _ (w.heap.size+1+1+1) _ _ _ _ rfl HFn.out HUnd.out rfl HI0.out) rfl (HPost.out _ _ ⟨lv0,vs0,rfl,rfl,?_,?_⟩)
    ·have h3:=HIn0.out.only HSo.out (fun g hg=>by rw [mSg] at hg;have:=HZ5.out;have:=HZ8.out;exact .inl (by omega))
     exact qECho0
    ·exact (HQw.out.q HQ11.out).trans HSo.out (U:=[]) (by simp) (fun g hg hlt=>by rw [mSg] at hg;omega)
   | false =>
    have hch:CH=restE cur b x y q (movedE prev b x y q r):=by rw [HCf.out,hz];simp
    have HC2:=lh hch
    clear hch hz HCf
    have HSe:=lh (HSea.out (by first | rfl | trivial) w11 (HQw.out.q HQ11.out) _ _ _ (HBv.out.quiet HQ11.out) (by have:=HQ11.out.size;have:=HZ8.out;omega))
    generalize searchE prev b x y r=SS at *
    obtain ⟨SX,SY,SC⟩:=SS
    obtain ⟨o1,o2,o3,o4⟩:=HSok.out
    simp only at o1 o2 o3 o4 HSe HMov
    obtain ⟨p0,p1,p2⟩:=frame_cells (HQ11.out.row HRp8.out)
    go_wp2_with fail
    go_at_call 84
    refine HSe.out.mono ?_
    rintro e w12 ⟨rfl,hq12⟩
    have HQ12:=lh (HQ11.out.q hq12)
    clear hq12 HSe p0 p1 p2
    have HQn:=lh (Only.new w12 (.cells #[.int .i64 SX,.int .i64 SY] 62))
    have HRv:=lh (heap_alloc_new w12 (.cells #[.int .i64 SX,.int .i64 SY] 62))
    obtain ⟨p0,p1,p2⟩:=frame_cells ((HQ12.out.q HQn.out).row HRp8.out)
    obtain ⟨v0,v1,-⟩:=row2 HRv.out
    go_wp2_with fail
    generalize hW13:World.alloc w12 _=W13 at *
    clear hW13 p0 p1 p2 v0 v1
    have HQ13:=lh (HQ12.out.q HQn.out)
    have HVb:Hid (W8.heap.size≤w12.heap.size):=lh HQ12.out.size
    generalize w12.heap.size=VB at *
    clear HQn
    go_at_call 83
    refine (HBlk.out (by first | rfl | trivial) W13 (HQw.out.q HQ13.out) SX SY ⟨o1,o2⟩ ⟨o3,o4⟩).mono ?_
    rintro e w14 ⟨v14,rfl,ho14,hq14⟩
    obtain ⟨g14,c14,rfl,-,-⟩:=ho14.form (by rw [HBkl.out];omega)
    rw [HBkl.out] at ho14 ⊢
    try rw [show (8*8:Nat)=64 from rfl] at ho14 ⊢
    have HI14:=lh ho14.ints
    have HQ14:=lh (HQ13.out.q hq14)
    have HRv14:=lh (hq14.row HRv.out)
    clear ho14 hq14 HRv
    obtain ⟨v0,v1,-⟩:=row2 HRv14.out
    go_wp2_with fail
    go_at_call 85
    refine (HCost.out (by first | rfl | trivial) w14 _ _ _ _ _ _ SX SY ⟨o1,o2⟩ ⟨o3,o4⟩ HI14.out (HBv.out.quiet HQ14.out)).mono ?_
    rintro e w15 ⟨rfl,hq15⟩
    have HQ15:=lh (HQ14.out.q hq15)
    have HI15:=lh (HI14.out.quiet hq15)
    have HRv15:=lh (hq15.row HRv14.out)
    clear hq15 HRv14 HI14 v0 v1
    obtain ⟨v0,v1,-⟩:=row2 HRv15.out
    have HLm:=lh (HLl.out (by first | rfl | trivial) SX SY)
    generalize hcm:costE (blockD prev x y 8 SX SY) b SX SY=CM at *
    go_wp2_with fail
    have HVn:Hid (VB∉[BQ+1,BQ]):=lh (by have:=HVb.out;have:=HZ8.out;simp only [List.mem_cons,List.not_mem_nil,or_false];omega)
    refine wp_region_held_drew (S:=(fun w'=>w'.cell? ⟨VB,0,none⟩=some (.int .i64 SX)∧w'.cell? ⟨VB,1,none⟩=some (.int .i64 SY))) (by kernel_rfl) ?_ (fun hHeld=>?_)
    ·exact ⟨v0,v1⟩
    refine tk 0 68 ?_
    refine tk 1 69 ?_
    refine tk 2 70 ?_
    refine tk 3 71 ?_
    refine tk 4 72 ?_
    refine tk 7 75 ?_
    refine rdy (rdc 5 73 (fun K hK=>?_) .nil)
    go_simp
    go_at_call 82
    refine (HLev.out (by first | rfl | trivial) _ _ _ _ _ _ _ SX SY (HBv.out.quiet HQ15.out.drew) (HI15.out.quiet (Only.refl [] _).drew)).mono ?_
    rintro e w16 ⟨v16,rfl,ho16,hq16⟩
    obtain ⟨g16,c16,rfl,-,-⟩:=ho16.form (by rw [HLm.out];omega)
    rw [HLm.out] at ho16 ⊢
    try rw [show (8*8:Nat)=64 from rfl] at ho16 ⊢
    have hd16:=(Only.refl [] w15).drew.q hq16
    have HO16:=lh ho16
    have HQ16:=lh (HQ15.out.q hd16)
    clear ho16 hq16
    refine hK.out _ _ ?_ (fun hHeld=>?_)
    ·exact ⟨hd16.cell v0 (by simp),hd16.cell v1 (by simp)⟩
    clear hK K
    try simp only [Act.put,List.setIfInBounds_toArray,List.set_cons_zero,List.set_cons_succ]
    refine tk 6 74 ?_
    refine rdy (rdc 8 76 (fun K hK=>?_) .nil)
    go_simp
    have hin16:SqIn (BQ+1+1) w16.heap.size w16 (.slice (some ⟨g16,0,none⟩) 64 c16) [nilS,nilS,nilS,nilS] (levelsE b (blockD prev x y 8 SX SY) q) [[],[],[],[]]:=⟨HO16.out.ints.mono (by have:=HQ15.out.size;have:=HZ8.out;simp only [show w15.drew.heap.size=w15.heap.size from rfl];omega) (Nat.le_refl _),rfl,fun i hi=>by
     match i,hi with
     | 0,_=>exact Ints.nil _ _ _ _
     | 1,_=>exact Ints.nil _ _ _ _
     | 2,_=>exact Ints.nil _ _ _ _
     | 3,_=>exact Ints.nil _ _ _ _⟩
    have htk:=mtakeB_any (s:=⟨1,0,[0,0,0,0],SX,SY,levelsE b (blockD prev x y 8 SX SY) q,[[],[],[],[]]⟩) (c:=CM) (HB0.out.quiet HQ16.out) rfl hin16
    go_at_call 80
    refine htk.mono ?_
    rintro e w17 ⟨rfl,hb17,hq17⟩
    have HB17:=lh hb17
    have HT17:=lh hq17
    have e0:=hq17.cell (hd16.cell v0 (by simp)) HVn.out
    have e1:=hq17.cell (hd16.cell v1 (by simp)) HVn.out
    clear hb17 hq17 htk hin16
    refine hK.out _ _ ?_ (fun hHeld=>?_)
    ·exact ⟨e0,e1⟩
    clear hK K
    try simp only [Act.put,List.setIfInBounds_toArray,List.set_cons_zero,List.set_cons_succ]
    refine wpAnyH_done (by kernel_rfl) ?_ _
    go_wp2_with fail
    go_meet
    refine ⟨movedE prev b x y q r,lh ?_,HC2,lh ((HQ16.out.mono (U:=[BQ+1,BQ]) (by simp)).trans HT17.out (fun _ h _=>h) (fun _ h _=>h))⟩
    rw [HMov.out]
    exact HB17.out
  ·go_wp2_with fail
   go_meet
   exact ⟨(sq0,-1),HB0,lh (by rw [HCh.out];simp),lh (Only.refl _ _)⟩
 case rest =>
  obtain ⟨rr,HBc,HCc,HQc⟩:=hcut
  obtain ⟨W9,hW9⟩:∃ z,z=wc:=⟨_,rfl⟩
  subst hW9
  rw [restE_eq] at HCc
  have HQ9:Hid (Only [] w W9):=lh (HQw.out.trans HQc.out (U:=[]) (by simp) (fun g hg hlt=>by have:=HZ5.out;simp only [List.mem_cons,List.not_mem_nil,or_false] at hg;omega))
  have HI9:=lh (HBv.out.only HQc.out (fun g hg=>by simp only [List.mem_cons,List.not_mem_nil,or_false] at hg;omega))
  have HK:Hid (w.heap.size+1∉[BQ+1,BQ]∧w.heap.size+1+1+1∉[BQ+1,BQ]):=lh (by have:=HZ5.out;simp only [List.mem_cons,List.not_mem_nil,or_false];omega)
  have HRc9:=lh (HQc.out.rowAt HRc8.out HK.out.1)
  have HRt9:=lh (HQc.out.rowAt HRt8.out HK.out.2)
  have hz9:=HQc.out.size
  have HZ9:Hid (BQ+1+1≤W9.heap.size):=lh (by have:=HZ8.out;omega)
  clear hz9 HQc HRc8 HRt8 HQw HB0 HBv HRs8 HRp8 HMov HSame HBlk HLev HLl HZer HSea HSok HCost HCh HBkl
  have HOn:=lh (HOne.out W9 HQ9.out _ _ _ HI9.out)
  obtain ⟨bs0,bs1⟩:=hba
  obtain ⟨BA,hBA⟩:∃ z,z=bestAt cur b x y 8:=⟨_,rfl⟩
  rw [← hBA] at HOn HCc bs0 bs1
  obtain ⟨bm,bs⟩:=BA
  simp only at HOn HCc bs0 bs1
  generalize oneL cur b x y 8 q=L at *
  have e1:IntKind.i64.wrap (4*bs)=4*bs:=by rw [IntKind.wrap_i64];omega
  have e2:IntKind.i64.wrap (4*bs+8)=4*bs+8:=by rw [IntKind.wrap_i64];omega
  obtain ⟨c0,c1,c2⟩:=frame_cells HRc9.out
  clear hBA HOne
  go_wp2_with fail
  go_at_call 86
  refine HOn.out.mono ?_
  rintro e w10 ⟨v10,rfl,ho10,hq10⟩
  obtain ⟨g10,c10,rfl,-,-⟩:=ho10.form (by rw [HOl.out];omega)
  rw [HOl.out] at ho10 ⊢
  try rw [show (8*8:Nat)=64 from rfl] at ho10 ⊢
  have HO10:=lh ho10
  have HQ10:=lh hq10
  clear ho10 hq10 HOn c0 c1 c2
  go_wp2_with fail
  have hin10:SqIn (BQ+1+1) w10.heap.size w10 (.slice (some ⟨g10,0,none⟩) 64 c10) [nilS,nilS,nilS,nilS] L [[],[],[],[]]:=⟨HO10.out.ints.mono HZ9.out (Nat.le_refl _),rfl,fun i hi=>by
   match i,hi with
   | 0,_=>exact Ints.nil _ _ _ _
   | 1,_=>exact Ints.nil _ _ _ _
   | 2,_=>exact Ints.nil _ _ _ _
   | 3,_=>exact Ints.nil _ _ _ _⟩
  have htk:=mtakeB_any (s:=⟨2,bm,[0,0,0,0],0,0,L,[[],[],[],[]]⟩) (c:=4*bs+8) (HBc.out.quiet HQ10.out) rfl hin10
  go_at_call 80
  refine htk.mono ?_
  rintro e w11 ⟨rfl,hb11,hq11⟩
  have HB11:=lh hb11
  have HQ11:Hid (Only [BQ+1,BQ] W9 w11):=lh ((HQ10.out.mono (U:=[BQ+1,BQ]) (by simp)).trans hq11 (fun _ h _=>h) (fun _ h _=>h))
  clear hb11 hq11 htk hin10 HO10 HQ10 HBc e1 e2
  have HQw11:Hid (Only [] w w11):=lh (HQ9.out.trans HQ11.out (U:=[]) (by simp) (fun g hg hlt=>by have:=HZ5.out;simp only [List.mem_cons,List.not_mem_nil,or_false] at hg;omega))
  have HI11:=lh (HI9.out.only HQ11.out (fun g hg=>by simp only [List.mem_cons,List.not_mem_nil,or_false] at hg;omega))
  obtain ⟨c0,c1,c2⟩:=frame_cells (HQ11.out.rowAt HRc9.out HK.out.1)
  have HFo:=lh (HFou.out w11 HQw11.out _ _ _ HI11.out)
  generalize fourE cur b x y q=FE at *
  obtain ⟨ms,ls,cost⟩:=FE
  simp only at HFo HCc
  clear HFou
  go_wp2_with fail
  go_at_call 87
  refine HFo.out.mono ?_
  rintro e w12 ⟨vs,rfl,hml,hin12,hq12⟩
  have HMl:=lh hml
  have HIn12:=lh hin12
  have HQ12:=lh hq12
  clear hml hin12 hq12 c0 c1 c2 HFo
  go_wp2_with fail
  have hin13:SqIn (BQ+1+1) w12.heap.size w12 nilS vs [] ls:=⟨HIn12.out.large.mono (by have:=HZ9.out;have:=HQ11.out.size;omega) (Nat.le_refl _),HIn12.out.len,fun i hi=>(HIn12.out.small i hi).mono (by have:=HZ9.out;have:=HQ11.out.size;omega) (Nat.le_refl _)⟩
  have htk:=mtakeB_any (s:=⟨3,0,ms,0,0,[],ls⟩) (c:=cost) (HB11.out.quiet HQ12.out) HMl.out hin13
  go_at_call 80
  refine htk.mono ?_
  rintro e w13 ⟨rfl,hb13,hq13⟩
  have hqa:Only [BQ+1,BQ] W9 w13:=(HQ11.out.trans HQ12.out (U:=[BQ+1,BQ]) (fun _ h _=>h) (by simp)).trans hq13 (fun _ h _=>h) (fun _ h _=>h)
  have HQa:=lh hqa
  have HB13:=lh hb13
  clear hb13 hq13 htk hin13 hqa HB11 HQ12 HIn12
  generalize betterE (betterE rr _ _) _ _=RR at *
  obtain ⟨lvF,vsF,hrF,hinF⟩:=HB13.out.best
  have HmF:=lh HB13.out.ml
  have HRF:=lh hrF
  have HIF:=lh hinF
  obtain ⟨SF,cF⟩:=RR
  simp only at HCc
  rw [HCc.out] at HPost
  have HI0:=lh (sqL_info (k:=SF.kind) (mo:=SF.mode) (vx:=SF.vx) (vy:=SF.vy) (lv:=lvF) HmF.out hinF.len)
  have HO0:=lh (sqL_one (k:=SF.kind) (mo:=SF.mode) (ms:=SF.modes) (vx:=SF.vx) (vy:=SF.vy) (lv:=lvF) (vs:=vsF) hinF.one.1 hinF.one.2)
  have HZ0:=lh (sqL_sizes (k:=0) (mo:=0) (ms:=[0,0,0,0]) (vx:=0) (vy:=0) (lv:=nilS) (vs:=[nilS,nilS,nilS,nilS]) (k':=SF.kind) (mo':=SF.mode) (ms':=SF.modes) (vx':=SF.vx) (vy':=SF.vy) (lv':=lvF) (vs':=vsF) rfl rfl HmF.out hinF.len)
  have HT13:=lh (HQa.out.rowAt HRt9.out HK.out.2)
  have HFn:=lh (show SqRow (w.heap.size+1+1+1) (w13.setRow (w.heap.size+1+1+1) (sqL SF.kind SF.mode SF.modes SF.vx SF.vy lvF vsF).toArray) SF.kind SF.mode SF.modes SF.vx SF.vy lvF vsF from setRow_heap w13 (w.heap.size+1+1+1) _ _ _ _ HT13.out)
  have HSo:=lh (Only.setRow (S:=[w.heap.size+1+1+1]) (Only.refl _ w13) (g:=w.heap.size+1+1+1) (fun _=>by simp) (sqL SF.kind SF.mode SF.modes SF.vx SF.vy lvF vsF).toArray)
  clear hrF hinF HB13
  go_wp2_with (first
   | (refine wpList_load_row rfl (.tmp 18) 65 rfl rfl HRF.out HUnd.out rfl HI0.out ?_)
   | (refine wpList_store_row rfl (.tmp 16) (.tmp 105) 65 rfl rfl rfl HT13.out HI0.out HZ0.out HO0.out ?_)
   | fail)
  refine bodyPost_ret (v:=.agg (sqL SF.kind SF.mode SF.modes SF.vx SF.vy lvF vsF).toArray) (results_cell_row Tryz.results40 _ _ (w.heap.size+1+1+1) _ _ _ _ rfl HFn.out HUnd.out rfl HI0.out) rfl (HPost.out _ _ ⟨lvF,vsF,rfl,HmF.out,?_,?_⟩)
  ·have h3:=HIF.out.only HSo.out (fun g hg=>by rw [mSg] at hg;have:=HZ5.out;exact .inl (by omega))
   exact qECho0
  ·exact (HQ9.out.trans HQa.out (U:=[]) (by simp) (fun g hg hlt=>by have:=HZ5.out;simp only [List.mem_cons,List.not_mem_nil,or_false] at hg;omega)).trans HSo.out (U:=[]) (by simp) (fun g hg hlt=>by rw [mSg] at hg;omega)
end
end Go.Proofs.YtmgbbgffkakcaaaGreatDoor
