/- Joined texts: DRkCh, DRkSq. Conditions: each part names its own. -/
import Derived.Test.YtmgbbgffkakcaaaGreatDoorT1
import Derived.Test.YtmgbbgffkakcaaaGreatDoorA7
import Derived.Test.YtmgbbgffkakcaaaGreatDoorA6
import Derived.Test.YtmgbbgffkakcaaaGreatDoorA4
import Derived.Test.YtmgbbgffkakcaaaGreatDoorR2
import Derived.Test.YtmgbbgffkakcaaaGreatDoorW7
import Derived.Test.YtmgbbgffkakcaaaGreatDoorA8
import Derived.Test.YtmgbbgffkakcaaaGreatDoorA3
import Derived.Test.YtmgbbgffkakcaaaGreatDoorA1
import Derived.Test.YtmgbbgffkakcaaaGreatDoorC4
namespace Go.Proofs.YtmgbbgffkakcaaaGreatDoor
open Go.RowKit
set_option linter.unusedVariables false
set_option linter.unusedSimpArgs false
set_option maxRecDepth 100000
set_option maxHeartbeats 16000000
theorem krestE_eq (cur:FrameD) (b:List Int) (x y q:Int) (rr:SqD×Int):restE cur b x y q rr=(betterE (betterE rr ⟨2,(bestAt cur b x y 8).1,[0,0,0,0],0,0,oneL cur b x y 8 q,[[],[],[],[]]⟩ (4*(bestAt cur b x y 8).2+8)) ⟨3,0,(fourE cur b x y q).1,0,0,[],(fourE cur b x y q).2.1⟩ (fourE cur b x y q).2.2).1:=rfl
/-- the square held in block O: of the rows of kinref20 -/
def KBest (O:Nat) (W:World) (s:SqD):Prop:=∃ lv vs,W.heap[O]?=some (.cells (sqL s.kind s.mode s.modes s.vx s.vy lv vs).toArray 68 (0,0))∧SqIn (O+1) W.heap.size W lv vs s.large s.small∧s.modes.length=4
theorem KBest.quiet {O:Nat} {W W':World} {s:SqD} (h:KBest O W s) (o:Only [] W W'):KBest O W' s:=by
 obtain ⟨lv,vs,hr,hi,hm⟩:=h
 exact ⟨lv,vs,o.row hr,hi.grown o (by simp),hm⟩
theorem KBest.store {O:Nat} {W W':World} {s:SqD} {lv:Value} {vs:List Value} (hr:W'.heap[O]?=some (.cells (sqL s.kind s.mode s.modes s.vx s.vy lv vs).toArray 68 (0,0))) (o:Only [O] W W') (hi:SqIn (O+1) W.heap.size W lv vs s.large s.small) (hm:s.modes.length=4):KBest O W' s :=
 ⟨lv,vs,hr,hi.grown o (fun g hg=>by rw [mSg] at hg;omega),hm⟩
section
theorem qDRkCh0 {p:Prop} (h:p:=by
 have z1:=HSo.out.size
 have z2:=HZ5.out
 exact ⟨h3.large.mono (by omega) z1,h3.len,fun i hi=>(h3.small i hi).mono (by omega) z1⟩):p:=h
theorem qDRkCh1 {p:Prop} (h:p:=by
 have h3:=HInN.out.only HSo.out (fun g hg=>by rw [mSg] at hg;have:=HZ5.out;exact .inl (by omega))
 exact qDRkCh0):p:=h
theorem ksqr_any {q r lo hi lo2 hi2 lo3 hi3:Nat} {sv cv pv:Value} {src cur prev:FrameD} {w:World} (key:Bool) (hs:FrOk src) (hc:FrOk cur) (hp:key=false→FrOk prev∧prev.W=src.W∧prev.H=src.H) (hW:cur.W=src.W) (hH:cur.H=src.H) (is:Ints .i64 lo hi w sv src.pix) (ic:Ints .i64 lo2 hi2 w cv cur.pix) (ip:Ints .i64 lo3 hi3 w pv prev.pix) (x y:Int) (hx:0≤x∧x+8≤src.W) (hy:0≤y∧y+8≤src.H) (hq:q≤15) (hr:r≤7) (hhi:hi3≤w.heap.size) (hhi2:hi2≤w.heap.size) :
  Calls Tryz.prog 49 #[.agg #[.int .i64 src.W,.int .i64 src.H,sv],.agg #[.int .i64 cur.W,.int .i64 cur.H,cv],.agg #[.int .i64 prev.W,.int .i64 prev.H,pv],.bool key,.int .i64 x,.int .i64 y,.int .i64 q,.int .i64 r] w fun e w'=>(∃ lv vs,e=.returned (.agg (sqL (chooseE src prev key q r cur x y).kind (chooseE src prev key q r cur x y).mode (chooseE src prev key q r cur x y).modes (chooseE src prev key q r cur x y).vx (chooseE src prev key q r cur x y).vy lv vs).toArray)∧(chooseE src prev key q r cur x y).modes.length=4∧SqIn w.heap.size w'.heap.size w' lv vs (chooseE src prev key q r cur x y).large (chooseE src prev key q r cur x y).small∧Only [] w w'):=by
 refine hidQ fun Q HPost=>?_
 have HGet:=lh (fun (W:World) (o:Only [] w W)=>kget_any hs (is.quiet o) x y hx hy)
 have hbl:(getSq src x y 8).length=64:=getSq_len src x y 8
 have sb:=getSq_in hs.sam x y 8
 have HBl:Hid ((getSq src x y 8).length=64):=lh hbl
 have hs1:=hs.w1
 have hs2:=hs.h1
 have HBlk:=lh (fun (hk:key=false) (W:World) (o:Only [] w W) (vx vy:Int) (h1:-15≤vx∧vx≤15) (h2:-15≤vy∧vy≤15)=>kblock_any (hp hk).1 (ip.quiet o) x y vx vy (by omega) (by omega) h1 h2)
 have HBkl:=lh (fun (vx vy:Int)=>(blockD_len prev x y 8 vx vy:(blockD prev x y 8 vx vy).length=64))
 have HLev:=lh (fun (hk:key=false) (W:World) (l1 h1 l2 h2:Nat) (u v:Value) (vx vy:Int) (i1:Ints .i64 l1 h1 W u (getSq src x y 8)) (i2:Ints .i64 l2 h2 W v (blockD prev x y 8 vx vy))=>klev8_any i1 i2 hbl (blockD_len prev x y 8 vx vy) sb (blockD_in (hp hk).1.sam x y 8 vx vy) q hq)
 have HLl:=lh (fun (hk:key=false) (vx vy:Int)=>((levelsE_ok (n:=8) (q:=q) (.inr rfl) hbl (blockD_len prev x y 8 vx vy) sb (blockD_in (hp hk).1.sam x y 8 vx vy) hq).1:(levelsE (getSq src x y 8) (blockD prev x y 8 vx vy) q).length=64))
 have HSea:=lh (fun (hk:key=false) (W:World) (o:Only [] w W) (l1 h1:Nat) (u:Value) (i1:Ints .i64 l1 h1 W u (getSq src x y 8)) (g:h1≤W.heap.size)=>ksearch_any (r:=r) (hp hk).1 (ip.quiet o) i1 hbl sb x y (by have:=(hp hk).2.1;omega) (by have:=(hp hk).2.2;omega) hr (by have:=o.size;omega) g)
 have HSok:=lh (searchE_ok prev (getSq src x y 8) x y hr)
 have HCost:=lh (fun (hk:key=false) (W:World) (l1 h1 l2 h2:Nat) (u v:Value) (vx vy:Int) (g1:-15≤vx∧vx≤15) (g2:-15≤vy∧vy≤15) (i1:Ints .i64 l1 h1 W u (blockD prev x y 8 vx vy)) (i2:Ints .i64 l2 h2 W v (getSq src x y 8))=>kcost_any i1 i2 (by rw [blockD_len];exact hbl) (by rw [blockD_len];exact Nat.le_refl _) (blockD_in (hp hk).1.sam x y 8 vx vy) sb g1 g2)
 have htl:(topD cur x y 8).length=8:=topD_len cur x y 8
 have hll:(leftD cur x y 8).length=8:=leftD_len cur x y 8
 have hts:=topD_in hc.sam x y 8
 have hls:=leftD_in hc.sam x y 8
 have hcs:=sampleD_in hc.sam (x-1) (y-1)
 have HEd:=lh (fun (W:World) (o:Only [] w W)=>kedges_any (f:=cur) hc (ic.quiet o) x y 8 (.inr rfl) hx.1 (by omega) hy.1 (by omega))
 have HBe:=lh (fun (W:World) (l1 h1 l2 h2 l3 h3:Nat) (v0 v1 v2:Value) (i0:Ints .i64 l3 h3 W v0 (getSq src x y 8)) (i1:Ints .i64 l1 h1 W v1 (topD cur x y 8)) (i2:Ints .i64 l2 h2 W v2 (leftD cur x y 8))=>kbest_any (n:=8) (.inr rfl) i0 i1 i2 hbl htl hll sb hts hls hcs)
 rw [show bestE (getSq src x y 8) (topD cur x y 8) (leftD cur x y 8) (sampleD cur (x-1) (y-1))=bestAt cur (getSq src x y 8) x y 8 from rfl] at HBe
 have hba:=bestAt_in hc.sam sb x y (n:=8) (.inr rfl) hbl
 have hbm:=bestAt_le cur (getSq src x y 8) x y 8
 have HPr:=lh (fun (W:World) (l1 h1 l2 h2:Nat) (v1 v2:Value) (i1:Ints .i64 l1 h1 W v1 (topD cur x y 8)) (i2:Ints .i64 l2 h2 W v2 (leftD cur x y 8))=>kpredict8_any i1 i2 htl hll hts hls hcs (mode:=((bestAt cur (getSq src x y 8) x y 8).1:Int)) (by omega))
 rw [show predD ((bestAt cur (getSq src x y 8) x y 8).1:Int) (topD cur x y 8) (leftD cur x y 8) (sampleD cur (x-1) (y-1))=predE cur x y 8 (bestAt cur (getSq src x y 8) x y 8).1 from rfl] at HPr
 have hpl:(predE cur x y 8 (bestAt cur (getSq src x y 8) x y 8).1).length=64:=(predE_ok hc.sam x y (n:=8) (by omega) _).1
 have hps:SamOk (predE cur x y 8 (bestAt cur (getSq src x y 8) x y 8).1):=(predE_ok hc.sam x y (n:=8) (by omega) _).2
 have HPl:Hid ((predE cur x y 8 (bestAt cur (getSq src x y 8) x y 8).1).length=64):=lh hpl
 have HLv2:=lh (fun (W:World) (l1 h1 l2 h2:Nat) (u v:Value) (i1:Ints .i64 l1 h1 W u (getSq src x y 8)) (i2:Ints .i64 l2 h2 W v (predE cur x y 8 (bestAt cur (getSq src x y 8) x y 8).1))=>klev8_any i1 i2 hbl hpl sb hps q hq)
 rw [show levelsE (getSq src x y 8) (predE cur x y 8 (bestAt cur (getSq src x y 8) x y 8).1) q=oneL cur (getSq src x y 8) x y 8 q from rfl] at HLv2
 have HOl:Hid ((oneL cur (getSq src x y 8) x y 8 q).length=64):=lh (oneL_ok (n:=8) (q:=q) (.inr rfl) hc.sam hbl sb x y hq).1
 have HFou:=lh (fun (W:World) (o:Only [] w W) (l1 h1:Nat) (u:Value) (i1:Ints .i64 l1 h1 W u (getSq src x y 8))=>ksmall_any (q:=q) hc (ic.quiet o) (by have:=o.size;omega) i1 hbl sb x y hx.1 (by omega) hy.1 (by omega) hq)
 have HCh:Hid (chooseE src prev key q r cur x y=if key then restE cur (getSq src x y 8) x y q (sq0,-1) else if sameE prev (getSq src x y 8) x y q then sq0 else restE cur (getSq src x y 8) x y q (movedE prev (getSq src x y 8) x y q r)):=lh rfl
 have HSame:Hid (sameE prev (getSq src x y 8) x y q=zeroB (levelsE (getSq src x y 8) (blockD prev x y 8 0 0) q)):=lh rfl
 have HMov:Hid (movedE prev (getSq src x y 8) x y q r=(⟨1,0,[0,0,0,0],(searchE prev (getSq src x y 8) x y r).vx,(searchE prev (getSq src x y 8) x y r).vy,levelsE (getSq src x y 8) (blockD prev x y 8 (searchE prev (getSq src x y 8) x y r).vx (searchE prev (getSq src x y 8) x y r).vy) q,[[],[],[],[]]⟩,costE (blockD prev x y 8 (searchE prev (getSq src x y 8) x y r).vx (searchE prev (getSq src x y 8) x y r).vy) (getSq src x y 8) (searchE prev (getSq src x y 8) x y r).vx (searchE prev (getSq src x y 8) x y r).vy)):=lh rfl
 obtain ⟨sa,sc,rfl,-⟩:=is.open
 obtain ⟨ca,cc,rfl,-⟩:=ic.open
 obtain ⟨pa,pc,rfl,-⟩:=ip.open
 obtain ⟨CH,hCH⟩:∃ z,z=chooseE src prev key q r cur x y:=⟨_,rfl⟩
 rw [← hCH] at HCh HPost
 generalize getSq src x y 8=b at *
 have hkn:key=false∨key=true:=by cases key <;> simp
 clear is ic ip hs hc hp hx hy hq hr hbl sb hCH hs1 hs2 hW hH htl hll hts hls hcs hpl hps hhi hhi2
 have HQ4:Hid (Only [] w ((((w.alloc (.cells #[.int .i64 src.W,.int .i64 src.H,.slice sa src.pix.length sc] 24)).alloc (.cells #[.int .i64 cur.W,.int .i64 cur.H,.slice ca cur.pix.length cc] 24)).alloc (.cells #[.int .i64 prev.W,.int .i64 prev.H,.slice pa prev.pix.length pc] 24)).alloc (.cells #[.int .i64 0,.int .i64 0,.int .i64 0,.int .i64 0,.int .i64 0,.int .i64 0,.int .i64 0,.int .i64 0,.slice none 0 0,.slice none 0 0,.slice none 0 0,.slice none 0 0,.slice none 0 0] 68))):=lh ((((Only.new w _).alloc _).alloc _).alloc _)
 have HRs:Hid (((((w.alloc (.cells #[.int .i64 src.W,.int .i64 src.H,.slice sa src.pix.length sc] 24)).alloc (.cells #[.int .i64 cur.W,.int .i64 cur.H,.slice ca cur.pix.length cc] 24)).alloc (.cells #[.int .i64 prev.W,.int .i64 prev.H,.slice pa prev.pix.length pc] 24)).alloc (.cells #[.int .i64 0,.int .i64 0,.int .i64 0,.int .i64 0,.int .i64 0,.int .i64 0,.int .i64 0,.int .i64 0,.slice none 0 0,.slice none 0 0,.slice none 0 0,.slice none 0 0,.slice none 0 0] 68)).heap[w.heap.size]?=some (.cells #[.int .i64 src.W,.int .i64 src.H,.slice sa src.pix.length sc] 24 (0,0))):=lh ((((Only.new (w.alloc _) _).alloc _).alloc _).row (heap_alloc_new w _))
 have HRc:Hid (((((w.alloc (.cells #[.int .i64 src.W,.int .i64 src.H,.slice sa src.pix.length sc] 24)).alloc (.cells #[.int .i64 cur.W,.int .i64 cur.H,.slice ca cur.pix.length cc] 24)).alloc (.cells #[.int .i64 prev.W,.int .i64 prev.H,.slice pa prev.pix.length pc] 24)).alloc (.cells #[.int .i64 0,.int .i64 0,.int .i64 0,.int .i64 0,.int .i64 0,.int .i64 0,.int .i64 0,.int .i64 0,.slice none 0 0,.slice none 0 0,.slice none 0 0,.slice none 0 0,.slice none 0 0] 68)).heap[w.heap.size+1]?=some (.cells #[.int .i64 cur.W,.int .i64 cur.H,.slice ca cur.pix.length cc] 24 (0,0))):=lh (((Only.new ((w.alloc _).alloc _) _).alloc _).row (heap_alloc_new' (by simp)))
 have HRp:Hid (((((w.alloc (.cells #[.int .i64 src.W,.int .i64 src.H,.slice sa src.pix.length sc] 24)).alloc (.cells #[.int .i64 cur.W,.int .i64 cur.H,.slice ca cur.pix.length cc] 24)).alloc (.cells #[.int .i64 prev.W,.int .i64 prev.H,.slice pa prev.pix.length pc] 24)).alloc (.cells #[.int .i64 0,.int .i64 0,.int .i64 0,.int .i64 0,.int .i64 0,.int .i64 0,.int .i64 0,.int .i64 0,.slice none 0 0,.slice none 0 0,.slice none 0 0,.slice none 0 0,.slice none 0 0] 68)).heap[w.heap.size+1+1]?=some (.cells #[.int .i64 prev.W,.int .i64 prev.H,.slice pa prev.pix.length pc] 24 (0,0))):=lh ((Only.new (((w.alloc _).alloc _).alloc _) _).row (heap_alloc_new' (by simp)))
 have HRt:Hid (((((w.alloc (.cells #[.int .i64 src.W,.int .i64 src.H,.slice sa src.pix.length sc] 24)).alloc (.cells #[.int .i64 cur.W,.int .i64 cur.H,.slice ca cur.pix.length cc] 24)).alloc (.cells #[.int .i64 prev.W,.int .i64 prev.H,.slice pa prev.pix.length pc] 24)).alloc (.cells #[.int .i64 0,.int .i64 0,.int .i64 0,.int .i64 0,.int .i64 0,.int .i64 0,.int .i64 0,.int .i64 0,.slice none 0 0,.slice none 0 0,.slice none 0 0,.slice none 0 0,.slice none 0 0] 68)).heap[w.heap.size+1+1+1]?=some (.cells (sqL 0 0 [0,0,0,0] 0 0 nilS [nilS,nilS,nilS,nilS]).toArray 68 (0,0))):=lh (heap_alloc_new' (by simp))
 have HZ4:Hid (((((w.alloc (.cells #[.int .i64 src.W,.int .i64 src.H,.slice sa src.pix.length sc] 24)).alloc (.cells #[.int .i64 cur.W,.int .i64 cur.H,.slice ca cur.pix.length cc] 24)).alloc (.cells #[.int .i64 prev.W,.int .i64 prev.H,.slice pa prev.pix.length pc] 24)).alloc (.cells #[.int .i64 0,.int .i64 0,.int .i64 0,.int .i64 0,.int .i64 0,.int .i64 0,.int .i64 0,.int .i64 0,.slice none 0 0,.slice none 0 0,.slice none 0 0,.slice none 0 0,.slice none 0 0] 68)).heap.size=w.heap.size+1+1+1+1):=lh (by simp)
 obtain ⟨a0,a1,a2⟩:=frame_cells HRs.out
 go_enter Tryz.func49,Tryz.ntmps49
 go_wp2_with fail
 generalize hW4:World.alloc (World.alloc (World.alloc (World.alloc w _) _) _) _=W4 at *
 clear hW4 a0 a1 a2
 go_at_call 100
 refine (HGet.out W4 HQ4.out).mono ?_
 rintro e w5 ⟨bv,rfl,hb5,hq5⟩
 obtain ⟨gb,bc,rfl,hgb,hgb'⟩:=hb5.form (by rw [HBl.out];omega)
 rw [HBl.out] at hb5 ⊢
 have HB5:=lh hb5.ints
 have HQ5:=lh hq5
 clear hb5 hq5 hgb hgb' HGet
 have HS0:Hid ((w5.alloc (.cells #[.int .i64 0,.int .i64 0,.int .i64 0,.int .i64 0,.int .i64 0,.int .i64 0,.int .i64 0,.int .i64 0,.slice none 0 0,.slice none 0 0,.slice none 0 0,.slice none 0 0,.slice none 0 0] 68)).heap[w5.heap.size]?=some (.cells (sqL 0 0 [0,0,0,0] 0 0 nilS [nilS,nilS,nilS,nilS]).toArray 68 (0,0))):=lh (heap_alloc_new w5 _)
 have HIz:=lh (ksq_info (k:=0) (mo:=0) (ms:=[0,0,0,0]) (vx:=0) (vy:=0) (lv:=nilS) (vs:=[nilS,nilS,nilS,nilS]) rfl rfl)
 have HOz:=lh (sqL_one (k:=0) (mo:=0) (ms:=[0,0,0,0]) (vx:=0) (vy:=0) (lv:=nilS) rfl nils_one)
 have HUnd:=lh Tryz.underlying68
 have HS7:Hid (((w5.alloc (.cells #[.int .i64 0,.int .i64 0,.int .i64 0,.int .i64 0,.int .i64 0,.int .i64 0,.int .i64 0,.int .i64 0,.slice none 0 0,.slice none 0 0,.slice none 0 0,.slice none 0 0,.slice none 0 0] 68)).setRow w5.heap.size #[.int .i64 0,.int .i64 0,.int .i64 0,.int .i64 0,.int .i64 0,.int .i64 0,.int .i64 0,.int .i64 0,.slice none 0 0,.slice none 0 0,.slice none 0 0,.slice none 0 0,.slice none 0 0]).heap[w5.heap.size]?=some (.cells (sqL 0 0 [0,0,0,0] 0 0 nilS [nilS,nilS,nilS,nilS]).toArray 68 (0,0))):=lh (setRow_heap _ w5.heap.size _ #[.int .i64 0,.int .i64 0,.int .i64 0,.int .i64 0,.int .i64 0,.int .i64 0,.int .i64 0,.int .i64 0,.slice none 0 0,.slice none 0 0,.slice none 0 0,.slice none 0 0,.slice none 0 0] _ _ HS0.out)
 have ho7:=Only.setRow (S:=[w5.heap.size]) (Only.refl _ (w5.alloc (.cells #[.int .i64 0,.int .i64 0,.int .i64 0,.int .i64 0,.int .i64 0,.int .i64 0,.int .i64 0,.int .i64 0,.slice none 0 0,.slice none 0 0,.slice none 0 0,.slice none 0 0,.slice none 0 0] 68))) (g:=w5.heap.size) (fun _=>by simp) #[.int .i64 0,.int .i64 0,.int .i64 0,.int .i64 0,.int .i64 0,.int .i64 0,.int .i64 0,.int .i64 0,.slice none 0 0,.slice none 0 0,.slice none 0 0,.slice none 0 0,.slice none 0 0]
 have HQ8:Hid (Only [] w5 ((w5.alloc (.cells #[.int .i64 0,.int .i64 0,.int .i64 0,.int .i64 0,.int .i64 0,.int .i64 0,.int .i64 0,.int .i64 0,.slice none 0 0,.slice none 0 0,.slice none 0 0,.slice none 0 0,.slice none 0 0] 68)).setRow w5.heap.size #[.int .i64 0,.int .i64 0,.int .i64 0,.int .i64 0,.int .i64 0,.int .i64 0,.int .i64 0,.int .i64 0,.slice none 0 0,.slice none 0 0,.slice none 0 0,.slice none 0 0,.slice none 0 0])):=lh ((Only.new w5 _).trans ho7 (U:=[]) (by simp) (fun g hg hlt=>by rw [mSg] at hg;omega))
 have HZ8:Hid (((w5.alloc (.cells #[.int .i64 0,.int .i64 0,.int .i64 0,.int .i64 0,.int .i64 0,.int .i64 0,.int .i64 0,.int .i64 0,.slice none 0 0,.slice none 0 0,.slice none 0 0,.slice none 0 0,.slice none 0 0] 68)).setRow w5.heap.size #[.int .i64 0,.int .i64 0,.int .i64 0,.int .i64 0,.int .i64 0,.int .i64 0,.int .i64 0,.int .i64 0,.slice none 0 0,.slice none 0 0,.slice none 0 0,.slice none 0 0,.slice none 0 0]).heap.size=w5.heap.size+1):=lh (by simp [World.setRow])
 have HB0:Hid (KBest w5.heap.size ((w5.alloc (.cells #[.int .i64 0,.int .i64 0,.int .i64 0,.int .i64 0,.int .i64 0,.int .i64 0,.int .i64 0,.int .i64 0,.slice none 0 0,.slice none 0 0,.slice none 0 0,.slice none 0 0,.slice none 0 0] 68)).setRow w5.heap.size #[.int .i64 0,.int .i64 0,.int .i64 0,.int .i64 0,.int .i64 0,.int .i64 0,.int .i64 0,.int .i64 0,.slice none 0 0,.slice none 0 0,.slice none 0 0,.slice none 0 0,.slice none 0 0]) sq0):=lh ⟨nilS,[nilS,nilS,nilS,nilS],HS7.out,⟨Ints.nil _ _ _ _,rfl,fun i hi=>by
  match i,hi with
  | 0,_=>exact Ints.nil _ _ _ _
  | 1,_=>exact Ints.nil _ _ _ _
  | 2,_=>exact Ints.nil _ _ _ _
  | 3,_=>exact Ints.nil _ _ _ _⟩,rfl⟩
 clear ho7 HS7
 go_upto_if 39 with (first
  | (refine wpList_store_row rfl (.tmp 18) (.tmp 37) 68 rfl rfl rfl HS0.out HIz.out rfl HOz.out ?_)
  | fail)
 clear HS0
 generalize hW8:World.setRow _ _ _=W8 at *
 clear hW8
 have HBv:=lh (HB5.out.quiet HQ8.out)
 have HQw:=lh ((HQ4.out.q HQ5.out).q HQ8.out)
 have HZ5:Hid (w.heap.size+1+1+1+1≤w5.heap.size):=lh (by have:=HQ5.out.size;have:=HZ4.out;omega)
 obtain ⟨BQ,hBQ⟩:∃ z,z=w5.heap.size:=⟨_,rfl⟩
 rw [← hBQ] at HB0 HBv HZ8 HZ5 ⊢
 have HRs8:=lh ((HQ5.out.q HQ8.out).row HRs.out)
 have HRc8:=lh ((HQ5.out.q HQ8.out).row HRc.out)
 have HRp8:=lh ((HQ5.out.q HQ8.out).row HRp.out)
 have HRt8:=lh ((HQ5.out.q HQ8.out).row HRt.out)
 clear HB5 HQ5 HQ8 HRs HRc HRp HRt HZ4 hBQ
 go_cut [19] (fun s19 wx=>∃ (rr:SqD×Int),s19=.int .i64 rr.2∧Hid (KBest BQ wx rr.1)∧Hid (CH=restE cur b x y q rr)∧Hid (Only [BQ] W8 wx))
 case first =>
  rcases hkn with rfl | rfl
  ·have HCf:Hid (CH=if sameE prev b x y q then sq0 else restE cur b x y q (movedE prev b x y q r)):=lh (by rw [HCh.out];simp)
   rw [HSame.out] at HCf
   obtain ⟨p0,p1,p2⟩:=frame_cells HRp8.out
   go_wp2_with fail
   go_at_call 103
   refine (HBlk.out (by first | rfl | trivial) W8 HQw.out 0 0 (by omega) (by omega)).mono ?_
   rintro e w9 ⟨v9,rfl,ho9,hq9⟩
   obtain ⟨g9,c9,rfl,-,-⟩:=ho9.form (by rw [HBkl.out];omega)
   rw [HBkl.out] at ho9 ⊢
   have HO9:=lh ho9
   have HQ9:=lh hq9
   clear ho9 hq9 p0 p1 p2
   go_wp2_with fail
   go_at_call 102
   refine (HLev.out (by first | rfl | trivial) w9 _ _ _ _ _ _ 0 0 (HBv.out.quiet HQ9.out) HO9.out.ints).mono ?_
   rintro e w10 ⟨⟨v10,rfl,ho10⟩,hq10⟩
   have hl0:=HLl.out (by first | rfl | trivial) 0 0
   obtain ⟨L0,hL0⟩:∃ z,z=levelsE b (blockD prev x y 8 0 0) q:=⟨_,rfl⟩
   rw [← hL0] at ho10 hl0 HCf
   obtain ⟨g10,c10,rfl,-,-⟩:=ho10.form (by omega)
   rw [hl0] at ho10 ⊢
   have HO10:=lh ho10
   have HQ10:=lh (HQ9.out.q hq10)
   clear ho10 hq10 hl0 hL0
   go_wp2_with fail
   have hzer:=kzero_any HO10.out.ints
   have HL10:Hid (L0.length=64):=lh (by have h:=HO10.out.ints.open;obtain ⟨_,_,h1,-⟩:=h;injection h1 with _ h2 _;exact h2.symm)
   try rw [HL10.out] at hzer
   go_at_call 101
   refine hzer.mono ?_
   rintro e w11 ⟨rfl,rfl⟩
   clear hzer
   cases hz:zeroB L0 with
   | true =>
    have hch:CH=sq0:=by rw [HCf.out,hz];rfl
    rw [hch] at HPost
    obtain ⟨lv0,vs0,hrow0,hin0,-⟩:=HB0.out.quiet HQ10.out
    have HRow0:=lh hrow0
    have HIn0:=lh hin0
    have HT11:=lh (HQ10.out.row HRt8.out)
    have HQf:=lh (HQw.out.q HQ10.out)
    clear hrow0 hin0 hz hch
    have HI0:=lh (ksq_info (k:=0) (mo:=0) (ms:=[0,0,0,0]) (vx:=0) (vy:=0) (lv:=lv0) (vs:=vs0) rfl HIn0.out.len)
    have HO0:=lh (sqL_one (k:=0) (mo:=0) (ms:=[0,0,0,0]) (vx:=0) (vy:=0) (lv:=lv0) (vs:=vs0) HIn0.out.one.1 HIn0.out.one.2)
    have HZ0:=lh (sqL_sizes (k:=0) (mo:=0) (ms:=[0,0,0,0]) (vx:=0) (vy:=0) (lv:=nilS) (vs:=[nilS,nilS,nilS,nilS]) (k':=0) (mo':=0) (ms':=[0,0,0,0]) (vx':=0) (vy':=0) (lv':=lv0) (vs':=vs0) rfl rfl rfl HIn0.out.len)
    have HFn:=lh (setRow_heap w10 (w.heap.size+1+1+1) _ (sqL 0 0 [0,0,0,0] 0 0 lv0 vs0).toArray _ _ HT11.out)
    have HSo:=lh (Only.setRow (S:=[w.heap.size+1+1+1]) (Only.refl _ w10) (g:=w.heap.size+1+1+1) (fun _=>by simp) (sqL 0 0 [0,0,0,0] 0 0 lv0 vs0).toArray)
    go_wp2_with (first
     | (refine wpList_load_row rfl (.tmp 18) 68 rfl rfl HRow0.out HUnd.out rfl HI0.out ?_)
     | (refine wpList_store_row rfl (.tmp 16) (.tmp 49) 68 rfl rfl rfl HT11.out HI0.out HZ0.out HO0.out ?_)
     | fail)
    refine bodyPost_ret (v:=.agg (sqL 0 0 [0,0,0,0] 0 0 lv0 vs0).toArray) (results_cell_row Tryz.results49 _ _ (w.heap.size+1+1+1) _ _ _ _ rfl HFn.out HUnd.out rfl HI0.out) rfl (HPost.out _ _ ⟨lv0,vs0,rfl,rfl,?_,?_⟩)
    ·have h3:=HIn0.out.only HSo.out (fun g hg=>by rw [mSg] at hg;have:=HZ5.out;exact .inl (by omega))
     exact qDRkCh0
    ·exact (HQf.out.trans HSo.out (U:=[]) (by simp) (fun g hg hlt=>by rw [mSg] at hg;omega))
   | false =>
    have HC2:Hid (CH=restE cur b x y q (movedE prev b x y q r)):=lh (by rw [HCf.out,hz];simp)
    clear hz HCf
    have HSe:=lh (HSea.out (by first | rfl | trivial) w10 (HQw.out.q HQ10.out) _ _ _ (HBv.out.quiet HQ10.out) (by have:=HQ10.out.size;have:=HZ8.out;omega))
    generalize searchE prev b x y r=SS at *
    obtain ⟨SX,SY,SC⟩:=SS
    obtain ⟨o1,o2,o3,o4⟩:=HSok.out
    simp only at o1 o2 o3 o4 HSe HMov
    obtain ⟨p0,p1,p2⟩:=frame_cells (HQ10.out.row HRp8.out)
    go_wp2_with fail
    go_at_call 104
    refine HSe.out.mono ?_
    rintro e w12 ⟨rfl,hq12⟩
    have HQ12:=lh (HQ10.out.q hq12)
    clear hq12 HSe p0 p1 p2
    have HQn:=lh ((Only.new w12 (.cells #[.int .i64 SX,.int .i64 SY] 62)).alloc (.cells #[.int .i64 0,.slice none 0 0] 39))
    have HRv:Hid (((w12.alloc (.cells #[.int .i64 SX,.int .i64 SY] 62)).alloc (.cells #[.int .i64 0,.slice none 0 0] 39)).heap[w12.heap.size]?=some (.cells #[.int .i64 SX,.int .i64 SY] 62 (0,0))):=lh ((Only.new _ _).row (heap_alloc_new w12 _))
    obtain ⟨p0,p1,p2⟩:=frame_cells ((HQ12.out.q HQn.out).row HRp8.out)
    obtain ⟨v0,v1,-⟩:=row2 HRv.out
    go_wp2_with fail
    generalize hW13:World.alloc (World.alloc w12 _) _=W13 at *
    clear hW13 p0 p1 p2 v0 v1
    have HQ13:=lh (HQ12.out.q HQn.out)
    have HVb:Hid (W8.heap.size≤w12.heap.size):=lh HQ12.out.size
    generalize w12.heap.size=VB at *
    clear HQn
    go_at_call 103
    refine (HBlk.out (by first | rfl | trivial) W13 (HQw.out.q HQ13.out) SX SY ⟨o1,o2⟩ ⟨o3,o4⟩).mono ?_
    rintro e w14 ⟨v14,rfl,ho14,hq14⟩
    obtain ⟨g14,c14,rfl,-,-⟩:=ho14.form (by rw [HBkl.out];omega)
    rw [HBkl.out] at ho14 ⊢
    have HI14:=lh ho14.ints
    have HQ14:=lh (HQ13.out.q hq14)
    have HRv14:=lh (hq14.row HRv.out)
    clear ho14 hq14 HRv
    obtain ⟨v0,v1,-⟩:=row2 HRv14.out
    go_wp2_with fail
    go_at_call 105
    refine (HCost.out (by first | rfl | trivial) w14 _ _ _ _ _ _ SX SY ⟨o1,o2⟩ ⟨o3,o4⟩ HI14.out (HBv.out.quiet HQ14.out)).mono ?_
    rintro e w15 ⟨rfl,hq15⟩
    have HQ15:=lh (HQ14.out.q hq15)
    have HI15:=lh (HI14.out.quiet hq15)
    have HRv15:=lh (hq15.row HRv14.out)
    clear hq15 HRv14 HI14 v0 v1
    obtain ⟨v0,v1,-⟩:=row2 HRv15.out
    have HLm:=lh (HLl.out (by first | rfl | trivial) SX SY)
    generalize hcm:costE (blockD prev x y 8 SX SY) b SX SY=CM at *
    go_wp2_with fail
    have HVn:Hid (VB∉[BQ]):=lh (by have:=HVb.out;have:=HZ8.out;rw [mSg];omega)
    refine wp_region_held_drew (S:=(fun w'=>w'.cell? ⟨VB,0,none⟩=some (.int .i64 SX)∧w'.cell? ⟨VB,1,none⟩=some (.int .i64 SY))) (by kernel_rfl) ?_ (fun hHeld=>?_)
    ·exact ⟨v0,v1⟩
    refine tk 0 71 ?_
    refine tk 1 72 ?_
    refine tk 2 73 ?_
    refine tk 3 74 ?_
    refine rdy (rdc 4 75 (fun K hK=>?_) .nil)
    go_simp
    go_at_call 102
    refine (HLev.out (by first | rfl | trivial) _ _ _ _ _ _ _ SX SY (HBv.out.quiet HQ15.out.drew) (HI15.out.quiet (Only.refl [] _).drew)).mono ?_
    rintro e w16 ⟨⟨v16,rfl,ho16⟩,hq16⟩
    obtain ⟨g16,c16,rfl,-,-⟩:=ho16.form (by rw [HLm.out];omega)
    rw [HLm.out] at ho16 ⊢
    have hd16:=(Only.refl [] w15).drew.q hq16
    have HO16:=lh ho16
    have HQ16:=lh (HQ15.out.q hd16)
    obtain ⟨lvo,vso,hro,hino,hmo⟩:=HB0.out.quiet HQ16.out
    clear ho16 hq16
    refine hK.out _ _ ?_ (fun hHeld=>?_)
    ·exact ⟨hd16.cell v0 (by simp),hd16.cell v1 (by simp)⟩
    clear hK K
    try simp only [Act.put,List.setIfInBounds_toArray,List.set_cons_zero,List.set_cons_succ]
    refine tk 5 76 ?_
    refine rdy (rdn 6 (fun K hK=>?_) .nil)
    refine wp_store_rowK (.tmp 18) (.tmp 76) 68 rfl (g:=BQ) (c':=(sqL 1 0 [0,0,0,0] SX SY (.slice (some ⟨g16,0,none⟩) 64 c16) [nilS,nilS,nilS,nilS]).toArray) rfl rfl hro (ksq_info (k:=1) (mo:=0) (ms:=[0,0,0,0]) (vx:=SX) (vy:=SY) (lv:=.slice (some ⟨g16,0,none⟩) 64 c16) (vs:=[nilS,nilS,nilS,nilS]) rfl rfl) (sqL_sizes (k:=sq0.kind) (mo:=sq0.mode) (ms:=sq0.modes) (vx:=sq0.vx) (vy:=sq0.vy) (lv:=lvo) (vs:=vso) (k':=1) (mo':=0) (ms':=[0,0,0,0]) (vx':=SX) (vy':=SY) (lv':=.slice (some ⟨g16,0,none⟩) 64 c16) (vs':=[nilS,nilS,nilS,nilS]) hmo hino.len rfl rfl) (sqL_one (k:=1) (mo:=0) (ms:=[0,0,0,0]) (vx:=SX) (vy:=SY) (lv:=.slice (some ⟨g16,0,none⟩) 64 c16) (vs:=[nilS,nilS,nilS,nilS]) rfl nils_one) (fun w17 hq17 hr17=>?_)
    have hin16:SqIn (BQ+1) w16.heap.size w16 (.slice (some ⟨g16,0,none⟩) 64 c16) [nilS,nilS,nilS,nilS] (levelsE b (blockD prev x y 8 SX SY) q) [[],[],[],[]]:=⟨HO16.out.ints.mono (by have:=HQ15.out.size;have:=HZ8.out;simp only [show w15.drew.heap.size=w15.heap.size from rfl];omega) (Nat.le_refl _),rfl,fun i hi=>by
     match i,hi with
     | 0,_=>exact Ints.nil _ _ _ _
     | 1,_=>exact Ints.nil _ _ _ _
     | 2,_=>exact Ints.nil _ _ _ _
     | 3,_=>exact Ints.nil _ _ _ _⟩
    have HB17:Hid (KBest BQ w17 ⟨1,0,[0,0,0,0],SX,SY,levelsE b (blockD prev x y 8 SX SY) q,[[],[],[],[]]⟩):=lh (KBest.store hr17 hq17 hin16 rfl)
    have HT17:=lh hq17
    have e0:=hq17.cell (hd16.cell v0 (by simp)) HVn.out
    have e1:=hq17.cell (hd16.cell v1 (by simp)) HVn.out
    clear hr17 hq17 hin16 hro hino hmo
    refine hK.out _ _ ?_ (fun hHeld=>?_)
    ·exact ⟨e0,e1⟩
    clear hK K
    try simp only [Act.put,List.setIfInBounds_toArray,List.set_cons_zero,List.set_cons_succ]
    refine wpAnyH_done (by kernel_rfl) ?_ _
    go_wp2_with fail
    go_meet
    refine ⟨movedE prev b x y q r,by rw [HMov.out],lh ?_,HC2,lh ((HQ16.out.mono (U:=[BQ]) (by simp)).trans HT17.out (fun _ h _=>h) (fun _ h _=>h))⟩
    rw [HMov.out]
    exact HB17.out
  ·go_wp2_with fail
   go_meet
   exact ⟨(sq0,-1),rfl,HB0,lh (by rw [HCh.out];simp),lh (Only.refl _ _)⟩
 case rest =>
  obtain ⟨rr,rfl,HBc,HCc,HQc⟩:=hcut
  obtain ⟨W9,hW9⟩:∃ z,z=wc:=⟨_,rfl⟩
  subst hW9
  rw [krestE_eq] at HCc
  have HQ9:Hid (Only [] w W9):=lh (HQw.out.trans HQc.out (U:=[]) (by simp) (fun g hg hlt=>by have:=HZ5.out;rw [mSg] at hg;omega))
  have HI9:=lh (HBv.out.only HQc.out (fun g hg=>by rw [mSg] at hg;omega))
  have HK:Hid (w.heap.size+1∉[BQ]∧w.heap.size+1+1+1∉[BQ]):=lh (by have:=HZ5.out;simp only [mSg];omega)
  have HRc9:=lh (HQc.out.rowAt HRc8.out HK.out.1)
  have HRt9:=lh (HQc.out.rowAt HRt8.out HK.out.2)
  have hz9:=HQc.out.size
  have HZ9:Hid (BQ+1≤W9.heap.size):=lh (by have:=HZ8.out;omega)
  clear hz9 HQc HRc8 HRt8 HQw HB0 HBv HRs8 HRp8 HMov HSame HBlk HLev HLl HSea HSok HCost HCh HBkl
  obtain ⟨bs0,bs1⟩:=hba
  have HPrD:=HPl
  obtain ⟨BA,hBA⟩:∃ z,z=bestAt cur b x y 8:=⟨_,rfl⟩
  rw [← hBA] at HBe HCc bs0 bs1 HPr HPl HLv2 hbm
  obtain ⟨bm,bs⟩:=BA
  simp only at HBe HCc bs0 bs1 HPr HPl HLv2 hbm
  generalize oneL cur b x y 8 q=L at *
  generalize predE cur x y 8 bm=PD at *
  have e1:IntKind.i64.wrap (4*bs)=4*bs:=by rw [IntKind.wrap_i64];omega
  have e2:IntKind.i64.wrap (4*bs+8)=4*bs+8:=by rw [IntKind.wrap_i64];omega
  obtain ⟨rs,rc⟩:=rr
  simp only at HCc HBc ⊢
  obtain ⟨c0,c1,c2⟩:=frame_cells HRc9.out
  clear hBA HPrD
  go_wp2_with fail
  go_at_call 106
  refine (HEd.out W9 HQ9.out).mono ?_
  rintro e w10 ⟨tv,lfv,rfl,hot,hol,hq10⟩
  generalize topD cur x y 8=TP at *
  generalize leftD cur x y 8=LF at *
  generalize sampleD cur (x-1) (y-1)=CR at *
  obtain ⟨gt,ct,htf,-⟩:=hot.ints.open
  obtain ⟨gl,cl,hlf,-⟩:=hol.ints.open
  subst htf
  subst hlf
  generalize TP.length=tn at *
  generalize LF.length=ln at *
  have HT10:=lh hot.ints
  have HF10:=lh hol.ints
  have HQ10:=lh hq10
  clear hot hol hq10 c0 c1 c2 HEd
  go_wp2_with fail
  go_at_call 107
  refine (HBe.out w10 _ _ _ _ _ _ _ _ _ (HI9.out.quiet HQ10.out) HT10.out HF10.out).mono ?_
  rintro e w11 ⟨rfl,hq11⟩
  have HX12:=lh ((HQ10.out.q hq11).q (Only.new w11 (.cells #[.int .i64 0,.slice none 0 0] 39)))
  have HY12:=lh (hq11.q (Only.new w11 (.cells #[.int .i64 0,.slice none 0 0] 39)))
  clear hq11 HBe
  go_upto_region 13 with (fail)
  generalize World.alloc w11 _=W12 at *
  have HT12:=lh (HT10.out.quiet HY12.out)
  have HF12:=lh (HF10.out.quiet HY12.out)
  clear HT10 HF10 HY12 HQ10
  go_cut [102] (fun s102 wx=>∃ t:Bool,s102=.bool t∧Hid (t=decide (rc<0∨4*bs+8<rc))∧wx=W12)
  case first =>
   by_cases hr0:rc<0
   ·go_wp2_with fail
    go_meet
    exact ⟨true,by first | rfl | simp [hr0],lh (by simp [hr0]),rfl⟩
   ·by_cases hr1:4*bs+8<rc
    ·go_wp2_with fail
     go_meet
     exact ⟨true,by first | rfl | simp [hr0,hr1],lh (by simp [hr0,hr1]),rfl⟩
    ·go_wp2_with fail
     go_meet
     exact ⟨false,by first | rfl | simp [hr0,hr1],lh (by simp [hr0,hr1]),rfl⟩
  case rest =>
   obtain ⟨t,rfl,HTd,rfl⟩:=hcut
   have HBc12:=lh (HBc.out.quiet HX12.out)
   have HQ12:=lh (HQ9.out.q HX12.out)
   have HI12:=lh (HI9.out.quiet HX12.out)
   have HRc12:=lh (HX12.out.row HRc9.out)
   have HRt12:=lh (HX12.out.row HRt9.out)
   have HZ12:Hid (BQ+1≤wc.heap.size):=lh (Nat.le_trans HZ9.out HX12.out.size)
   clear HBc HI9 HRc9 HRt9 HZ9 HX12 HQ9
   go_upto_if 102 with (fail)
   go_cut [19] (fun s19 wx=>∃ (r2:SqD×Int),s19=.int .i64 r2.2∧0≤r2.2∧Hid (KBest BQ wx r2.1)∧Hid (r2=betterE (rs,rc) ⟨2,bm,[0,0,0,0],0,0,L,[[],[],[],[]]⟩ (4*bs+8))∧Hid (Only [BQ] wc wx))
   case first =>
    cases t with
    | false =>
     have hno:¬ (rc<0∨4*bs+8<rc):=by intro h;have:=HTd.out;rw [decide_eq_true h] at this;exact absurd this (by simp)
     have HNo:=lh hno
     have hr0:0≤rc:=by omega
     clear hno
     go_wp2_with fail
     go_meet
     exact ⟨(rs,rc),rfl,hr0,HBc12,lh (by unfold betterE;rw [if_neg HNo.out]),lh (Only.refl _ _)⟩
    | true =>
     have HYes:Hid (rc<0∨4*bs+8<rc):=lh (of_decide_eq_true HTd.out.symm)
     go_wp2_with fail
     go_at_call 108
     refine (HPr.out wc _ _ _ _ _ _ HT12.out HF12.out).mono ?_
     rintro e w14 ⟨⟨pv14,rfl,hop⟩,hq14⟩
     obtain ⟨gp,cp,rfl,-,-⟩:=hop.form (by rw [HPl.out];omega)
     rw [HPl.out] at hop ⊢
     have hn15:=Only.new w14 (.cells #[.int .i64 0,.slice none 0 0] 39)
     have HQ15:=lh (hq14.q hn15)
     have HP15:=lh (hop.ints.quiet hn15)
     clear hop hq14 hn15
     go_wp2_with fail
     generalize World.alloc w14 _=W15 at *
     go_at_call 102
     refine (HLv2.out W15 _ _ _ _ _ _ (HI12.out.quiet HQ15.out) HP15.out).mono ?_
     rintro e w16 ⟨⟨v16,rfl,hol⟩,hq16⟩
     obtain ⟨gL,cL,rfl,-,-⟩:=hol.form (by rw [HOl.out];omega)
     rw [HOl.out] at hol ⊢
     have HL16:=lh hol.ints
     have HQ16:=lh (HQ15.out.q hq16)
     have HG16:Hid (BQ+1≤W15.heap.size):=lh (Nat.le_trans HZ12.out HQ15.out.size)
     obtain ⟨lvo,vso,hro,hino,hmo⟩:=HBc12.out.quiet HQ16.out
     have HRo:=lh hro
     have HSz:=lh (sqL_sizes (k:=rs.kind) (mo:=rs.mode) (ms:=rs.modes) (vx:=rs.vx) (vy:=rs.vy) (lv:=lvo) (vs:=vso) (k':=2) (mo':=(bm:Int)) (ms':=[0,0,0,0]) (vx':=0) (vy':=0) (lv':=.slice (some ⟨gL,0,none⟩) 64 cL) (vs':=[nilS,nilS,nilS,nilS]) hmo hino.len rfl rfl)
     have HInf:=lh (ksq_info (k:=2) (mo:=(bm:Int)) (ms:=[0,0,0,0]) (vx:=0) (vy:=0) (lv:=.slice (some ⟨gL,0,none⟩) 64 cL) (vs:=[nilS,nilS,nilS,nilS]) rfl rfl)
     have HOne:=lh (sqL_one (k:=2) (mo:=(bm:Int)) (ms:=[0,0,0,0]) (vx:=0) (vy:=0) (lv:=.slice (some ⟨gL,0,none⟩) 64 cL) (vs:=[nilS,nilS,nilS,nilS]) rfl nils_one)
     have HRn:Hid ((w16.setRow BQ (sqL 2 (bm:Int) [0,0,0,0] 0 0 (.slice (some ⟨gL,0,none⟩) 64 cL) [nilS,nilS,nilS,nilS]).toArray).heap[BQ]?=some (.cells (sqL 2 (bm:Int) [0,0,0,0] 0 0 (.slice (some ⟨gL,0,none⟩) 64 cL) [nilS,nilS,nilS,nilS]).toArray 68 (0,0))):=lh (setRow_heap w16 BQ _ _ _ _ hro)
     have HSo:=lh (Only.setRow (S:=[BQ]) (Only.refl _ w16) (g:=BQ) (fun _=>by simp) (sqL 2 (bm:Int) [0,0,0,0] 0 0 (.slice (some ⟨gL,0,none⟩) 64 cL) [nilS,nilS,nilS,nilS]).toArray)
     clear hol hq16 hro hino hmo
     go_wp2_with (first | (refine wpList_store_row rfl (.tmp 18) (.tmp 119) 68 rfl rfl rfl HRo.out HInf.out HSz.out HOne.out ?_) | fail)
     go_meet
     refine ⟨(⟨2,bm,[0,0,0,0],0,0,L,[[],[],[],[]]⟩,4*bs+8),rfl,by simp only;omega,lh (KBest.store HRn.out HSo.out ?_ rfl),lh (by unfold betterE;rw [if_pos HYes.out]),lh ((HQ16.out.mono (U:=[BQ]) (by simp)).trans HSo.out (fun _ h _=>h) (fun _ h _=>h))⟩
     refine ⟨HL16.out.mono HG16.out (Nat.le_refl _),rfl,fun i hi=>?_⟩
     match i,hi with
     | 0,_=>exact Ints.nil _ _ _ _
     | 1,_=>exact Ints.nil _ _ _ _
     | 2,_=>exact Ints.nil _ _ _ _
     | 3,_=>exact Ints.nil _ _ _ _
   case rest =>
    obtain ⟨r2,rfl,hr2,HB2,HR2,HQ2⟩:=hcut
    obtain ⟨W13,hW13⟩:∃ z,z=wc:=⟨_,rfl⟩
    subst hW13
    rw [← HR2.out] at HCc
    have HQ13:Hid (Only [] w W13):=lh (HQ12.out.trans HQ2.out (U:=[]) (by simp) (fun g hg hlt=>by have:=HZ5.out;rw [mSg] at hg;omega))
    have HI13:=lh (HI12.out.only HQ2.out (fun g hg=>by rw [mSg] at hg;omega))
    have HRc13:=lh (HQ2.out.rowAt HRc12.out HK.out.1)
    have HRt13:=lh (HQ2.out.rowAt HRt12.out HK.out.2)
    have HZ13:Hid (BQ+1≤W13.heap.size):=lh (Nat.le_trans HZ12.out HQ2.out.size)
    have HFo:=lh (HFou.out W13 HQ13.out _ _ _ HI13.out)
    clear HR2 HQ2 HTd HT12 HF12 HI12 HRc12 HRt12 HPr HLv2 HOl HPl HBc12 HZ12 HQ12 HFou
    generalize fourE cur b x y q=FE at *
    obtain ⟨ms,ls,cost⟩:=FE
    simp only at HFo HCc
    obtain ⟨S2,k2⟩:=r2
    simp only at hr2 HB2 HCc ⊢
    obtain ⟨c0,c1,c2⟩:=frame_cells HRc13.out
    go_wp2_with fail
    go_at_call 109
    refine HFo.out.mono ?_
    rintro e w14 ⟨vs,rfl,hml,hin14,hq14⟩
    have HMl:=lh hml
    have HZr:Hid ((w14.alloc (.cells #[.int .i64 0,.int .i64 0,.int .i64 0,.int .i64 0,.int .i64 0,.int .i64 0,.int .i64 0,.int .i64 0,.slice none 0 0,.slice none 0 0,.slice none 0 0,.slice none 0 0,.slice none 0 0] 68)).heap[w14.heap.size]?=some (.cells (sqL 0 0 [0,0,0,0] 0 0 nilS [nilS,nilS,nilS,nilS]).toArray 68 (0,0))):=lh (heap_alloc_new w14 _)
    have hn15:Only [] w14 ((w14.alloc (.cells #[.int .i64 0,.int .i64 0,.int .i64 0,.int .i64 0,.int .i64 0,.int .i64 0,.int .i64 0,.int .i64 0,.slice none 0 0,.slice none 0 0,.slice none 0 0,.slice none 0 0,.slice none 0 0] 68)).setRow w14.heap.size (sqL 3 0 ms 0 0 nilS vs).toArray):=(Only.new w14 _).trans (Only.setRow (S:=[w14.heap.size]) (Only.refl _ (w14.alloc (.cells #[.int .i64 0,.int .i64 0,.int .i64 0,.int .i64 0,.int .i64 0,.int .i64 0,.int .i64 0,.int .i64 0,.slice none 0 0,.slice none 0 0,.slice none 0 0,.slice none 0 0,.slice none 0 0] 68))) (g:=w14.heap.size) (fun _=>by simp) (sqL 3 0 ms 0 0 nilS vs).toArray) (U:=[]) (by simp) (fun g hg hlt=>by rw [mSg] at hg;omega)
    have HF15:Hid (((w14.alloc (.cells #[.int .i64 0,.int .i64 0,.int .i64 0,.int .i64 0,.int .i64 0,.int .i64 0,.int .i64 0,.int .i64 0,.slice none 0 0,.slice none 0 0,.slice none 0 0,.slice none 0 0,.slice none 0 0] 68)).setRow w14.heap.size (sqL 3 0 ms 0 0 nilS vs).toArray).heap[w14.heap.size]?=some (.cells (sqL 3 0 ms 0 0 nilS vs).toArray 68 (0,0))):=lh (setRow_heap _ w14.heap.size _ (sqL 3 0 ms 0 0 nilS vs).toArray _ _ HZr.out)
    have HIn15:Hid (SqIn (BQ+1) ((w14.alloc (.cells #[.int .i64 0,.int .i64 0,.int .i64 0,.int .i64 0,.int .i64 0,.int .i64 0,.int .i64 0,.int .i64 0,.slice none 0 0,.slice none 0 0,.slice none 0 0,.slice none 0 0,.slice none 0 0] 68)).setRow w14.heap.size (sqL 3 0 ms 0 0 nilS vs).toArray).heap.size ((w14.alloc (.cells #[.int .i64 0,.int .i64 0,.int .i64 0,.int .i64 0,.int .i64 0,.int .i64 0,.int .i64 0,.int .i64 0,.slice none 0 0,.slice none 0 0,.slice none 0 0,.slice none 0 0,.slice none 0 0] 68)).setRow w14.heap.size (sqL 3 0 ms 0 0 nilS vs).toArray) nilS vs [] ls):=lh (by
     have h3:=hin14.only hn15 (by simp)
     have z1:=hn15.size
     have z2:=HZ13.out
     exact ⟨h3.large.mono z2 z1,h3.len,fun i hi=>(h3.small i hi).mono z2 z1⟩)
    have HQ15:=lh (hq14.q hn15)
    have HSz4:=lh (sqL_sizes (k:=0) (mo:=0) (ms:=[0,0,0,0]) (vx:=0) (vy:=0) (lv:=nilS) (vs:=[nilS,nilS,nilS,nilS]) (k':=3) (mo':=0) (ms':=ms) (vx':=0) (vy':=0) (lv':=nilS) (vs':=vs) rfl rfl hml hin14.len)
    have HI4:=lh (ksq_info (k:=3) (mo:=0) (ms:=ms) (vx:=0) (vy:=0) (lv:=nilS) (vs:=vs) hml hin14.len)
    have HO4:=lh (sqL_one (k:=3) (mo:=0) (ms:=ms) (vx:=0) (vy:=0) (lv:=nilS) (vs:=vs) rfl hin14.one.2)
    have HLe:=lh hin14.len
    clear hml hin14 hq14 hn15 HFo c0 c1 c2
    by_cases hlt:cost<k2
    ·have HC3:Hid (CH=⟨3,0,ms,0,0,[],ls⟩):=lh (by rw [HCc.out];unfold betterE;rw [if_pos (.inr hlt)])
     rw [HC3.out] at HPost
     obtain ⟨lvo,vso,hro,hino,hmo⟩:=HB2.out.quiet HQ15.out
     have HRo:=lh hro
     have HSz:=lh (sqL_sizes (k:=S2.kind) (mo:=S2.mode) (ms:=S2.modes) (vx:=S2.vx) (vy:=S2.vy) (lv:=lvo) (vs:=vso) (k':=3) (mo':=0) (ms':=ms) (vx':=0) (vy':=0) (lv':=nilS) (vs':=vs) hmo hino.len HMl.out HLe.out)
     have HRn:Hid ((((w14.alloc (.cells #[.int .i64 0,.int .i64 0,.int .i64 0,.int .i64 0,.int .i64 0,.int .i64 0,.int .i64 0,.int .i64 0,.slice none 0 0,.slice none 0 0,.slice none 0 0,.slice none 0 0,.slice none 0 0] 68)).setRow w14.heap.size (sqL 3 0 ms 0 0 nilS vs).toArray).setRow BQ (sqL 3 0 ms 0 0 nilS vs).toArray).heap[BQ]?=some (.cells (sqL 3 0 ms 0 0 nilS vs).toArray 68 (0,0))):=lh (setRow_heap ((w14.alloc (.cells #[.int .i64 0,.int .i64 0,.int .i64 0,.int .i64 0,.int .i64 0,.int .i64 0,.int .i64 0,.int .i64 0,.slice none 0 0,.slice none 0 0,.slice none 0 0,.slice none 0 0,.slice none 0 0] 68)).setRow w14.heap.size (sqL 3 0 ms 0 0 nilS vs).toArray) BQ _ _ _ _ hro)
     have hso2:=Only.setRow (S:=[BQ]) (Only.refl _ ((w14.alloc (.cells #[.int .i64 0,.int .i64 0,.int .i64 0,.int .i64 0,.int .i64 0,.int .i64 0,.int .i64 0,.int .i64 0,.slice none 0 0,.slice none 0 0,.slice none 0 0,.slice none 0 0,.slice none 0 0] 68)).setRow w14.heap.size (sqL 3 0 ms 0 0 nilS vs).toArray)) (g:=BQ) (fun _=>by simp) (sqL 3 0 ms 0 0 nilS vs).toArray
     have HInN:=lh (HIn15.out.grown hso2 (fun g hg=>by rw [mSg] at hg;omega))
     have HRtN:=lh (hso2.rowAt (HQ15.out.row HRt13.out) HK.out.2)
     have HQN:Hid (Only [] w (((w14.alloc (.cells #[.int .i64 0,.int .i64 0,.int .i64 0,.int .i64 0,.int .i64 0,.int .i64 0,.int .i64 0,.int .i64 0,.slice none 0 0,.slice none 0 0,.slice none 0 0,.slice none 0 0,.slice none 0 0] 68)).setRow w14.heap.size (sqL 3 0 ms 0 0 nilS vs).toArray).setRow BQ (sqL 3 0 ms 0 0 nilS vs).toArray)):=lh ((HQ13.out.q HQ15.out).trans hso2 (U:=[]) (by simp) (fun g hg hlt=>by have:=HZ5.out;rw [mSg] at hg;omega))
     clear hro hino hmo hso2
     have HI0:=lh (ksq_info (k:=3) (mo:=0) (ms:=ms) (vx:=0) (vy:=0) (lv:=nilS) (vs:=vs) HMl.out HInN.out.len)
     have HO0:=lh (sqL_one (k:=3) (mo:=0) (ms:=ms) (vx:=0) (vy:=0) (lv:=nilS) (vs:=vs) HInN.out.one.1 HInN.out.one.2)
     have HZ0:=lh (sqL_sizes (k:=0) (mo:=0) (ms:=[0,0,0,0]) (vx:=0) (vy:=0) (lv:=nilS) (vs:=[nilS,nilS,nilS,nilS]) (k':=3) (mo':=0) (ms':=ms) (vx':=0) (vy':=0) (lv':=nilS) (vs':=vs) rfl rfl HMl.out HInN.out.len)
     have HFn:=lh (setRow_heap (((w14.alloc (.cells #[.int .i64 0,.int .i64 0,.int .i64 0,.int .i64 0,.int .i64 0,.int .i64 0,.int .i64 0,.int .i64 0,.slice none 0 0,.slice none 0 0,.slice none 0 0,.slice none 0 0,.slice none 0 0] 68)).setRow w14.heap.size (sqL 3 0 ms 0 0 nilS vs).toArray).setRow BQ (sqL 3 0 ms 0 0 nilS vs).toArray) (w.heap.size+1+1+1) _ (sqL 3 0 ms 0 0 nilS vs).toArray _ _ HRtN.out)
     have HSo:=lh (Only.setRow (S:=[w.heap.size+1+1+1]) (Only.refl _ (((w14.alloc (.cells #[.int .i64 0,.int .i64 0,.int .i64 0,.int .i64 0,.int .i64 0,.int .i64 0,.int .i64 0,.int .i64 0,.slice none 0 0,.slice none 0 0,.slice none 0 0,.slice none 0 0,.slice none 0 0] 68)).setRow w14.heap.size (sqL 3 0 ms 0 0 nilS vs).toArray).setRow BQ (sqL 3 0 ms 0 0 nilS vs).toArray)) (g:=w.heap.size+1+1+1) (fun _=>by simp) (sqL 3 0 ms 0 0 nilS vs).toArray)
     go_wp2_with (first
      | (refine wpList_store_row rfl (.tmp 31) (.tmp 127) 68 rfl rfl rfl HZr.out HI4.out HSz4.out HO4.out ?_)
      | (refine wpList_load_row rfl (.tmp 31) 68 rfl rfl HF15.out HUnd.out rfl HI4.out ?_)
      | (refine wpList_store_row rfl (.tmp 18) (.tmp 132) 68 rfl rfl rfl HRo.out HI4.out HSz.out HO4.out ?_)
      | (refine wpList_load_row rfl (.tmp 18) 68 rfl rfl HRn.out HUnd.out rfl HI0.out ?_)
      | (refine wpList_store_row rfl (.tmp 16) (.tmp 133) 68 rfl rfl rfl HRtN.out HI0.out HZ0.out HO0.out ?_)
      | fail)
     refine bodyPost_ret (v:=.agg (sqL 3 0 ms 0 0 nilS vs).toArray) (results_cell_row Tryz.results49 _ _ (w.heap.size+1+1+1) _ _ _ _ rfl HFn.out HUnd.out rfl HI0.out) rfl (HPost.out _ _ ⟨nilS,vs,rfl,HMl.out,?_,?_⟩)
     ·exact qDRkCh1
     ·exact (HQN.out.trans HSo.out (U:=[]) (by simp) (fun g hg hlt=>by rw [mSg] at hg;omega))
    ·have HC3:Hid (CH=S2):=lh (by rw [HCc.out];unfold betterE;rw [if_neg (by simp only;omega)])
     rw [HC3.out] at HPost
     obtain ⟨lvo,vso,hro,hino,hmo⟩:=HB2.out.quiet HQ15.out
     have HRo:=lh hro
     have HInN:=lh hino
     have HMo:=lh hmo
     have HRtN:=lh (HQ15.out.row HRt13.out)
     have HQN:=lh (HQ13.out.q HQ15.out)
     clear hro hino hmo
     have HI0:=lh (ksq_info (k:=S2.kind) (mo:=S2.mode) (ms:=S2.modes) (vx:=S2.vx) (vy:=S2.vy) (lv:=lvo) (vs:=vso) HMo.out HInN.out.len)
     have HO0:=lh (sqL_one (k:=S2.kind) (mo:=S2.mode) (ms:=S2.modes) (vx:=S2.vx) (vy:=S2.vy) (lv:=lvo) (vs:=vso) HInN.out.one.1 HInN.out.one.2)
     have HZ0:=lh (sqL_sizes (k:=0) (mo:=0) (ms:=[0,0,0,0]) (vx:=0) (vy:=0) (lv:=nilS) (vs:=[nilS,nilS,nilS,nilS]) (k':=S2.kind) (mo':=S2.mode) (ms':=S2.modes) (vx':=S2.vx) (vy':=S2.vy) (lv':=lvo) (vs':=vso) rfl rfl HMo.out HInN.out.len)
     have HFn:=lh (setRow_heap ((w14.alloc (.cells #[.int .i64 0,.int .i64 0,.int .i64 0,.int .i64 0,.int .i64 0,.int .i64 0,.int .i64 0,.int .i64 0,.slice none 0 0,.slice none 0 0,.slice none 0 0,.slice none 0 0,.slice none 0 0] 68)).setRow w14.heap.size (sqL 3 0 ms 0 0 nilS vs).toArray) (w.heap.size+1+1+1) _ (sqL S2.kind S2.mode S2.modes S2.vx S2.vy lvo vso).toArray _ _ HRtN.out)
     have HSo:=lh (Only.setRow (S:=[w.heap.size+1+1+1]) (Only.refl _ ((w14.alloc (.cells #[.int .i64 0,.int .i64 0,.int .i64 0,.int .i64 0,.int .i64 0,.int .i64 0,.int .i64 0,.int .i64 0,.slice none 0 0,.slice none 0 0,.slice none 0 0,.slice none 0 0,.slice none 0 0] 68)).setRow w14.heap.size (sqL 3 0 ms 0 0 nilS vs).toArray)) (g:=w.heap.size+1+1+1) (fun _=>by simp) (sqL S2.kind S2.mode S2.modes S2.vx S2.vy lvo vso).toArray)
     go_wp2_with (first
      | (refine wpList_store_row rfl (.tmp 31) (.tmp 127) 68 rfl rfl rfl HZr.out HI4.out HSz4.out HO4.out ?_)
      | (refine wpList_load_row rfl (.tmp 18) 68 rfl rfl HRo.out HUnd.out rfl HI0.out ?_)
      | (refine wpList_store_row rfl (.tmp 16) (.tmp 133) 68 rfl rfl rfl HRtN.out HI0.out HZ0.out HO0.out ?_)
      | fail)
     refine bodyPost_ret (v:=.agg (sqL S2.kind S2.mode S2.modes S2.vx S2.vy lvo vso).toArray) (results_cell_row Tryz.results49 _ _ (w.heap.size+1+1+1) _ _ _ _ rfl HFn.out HUnd.out rfl HI0.out) rfl (HPost.out _ _ ⟨lvo,vso,rfl,HMo.out,?_,?_⟩)
     ·exact qDRkCh1
     ·exact (HQN.out.trans HSo.out (U:=[]) (by simp) (fun g hg hlt=>by rw [mSg] at hg;omega))
end
theorem qDRkSqt0 {p:Prop} (h:p:=by intro wz hSw;(try dsimp only at hSw);obtain ⟨q0,q1,q2,s0,s1⟩:=hSw;obtain ⟨r0,r1,r2⟩:=frame_cells q0;obtain ⟨t0,t1,t2⟩:=frame_cells q1;obtain ⟨u0,u1,u2⟩:=frame_cells q2;go_simp;try with_reducible rfl):p:=h
def KSqP (w:World) (r:Except Int SqD) (e:Ending) (w':World):Prop :=
 match r with
 | .error c=>e=.returned (.tuple #[.agg (sqL 0 0 [0,0,0,0] 0 0 nilS [nilS,nilS,nilS,nilS]).toArray,.agg #[.int .i64 c,.slice none 0 0]])∧Only [] w w'
 | .ok s=>∃ lv vs,e=.returned (.tuple #[.agg (sqL s.kind s.mode s.modes s.vx s.vy lv vs).toArray,.agg #[.int .i64 0,.slice none 0 0]])∧s.modes.length=4∧SqIn w.heap.size w'.heap.size w' lv vs s.large s.small∧Only [] w w'
section
theorem qDRkSq3 {p:Prop} (h:p:=by
 exact bodyPost_ret (results_cell_cell Tryz.results29 _ _ (w.heap.size+1+1+1) (w.heap.size+1+1+1+1) _ _ _ _ _ _ _ _ rfl rfl HO3.out HE2.out HUnd.out rfl HIz.out Tryz.underlying39 rfl (err_info _ rfl)) rfl (HPost.out _ _ ⟨rfl,HAll.out⟩)):p:=h
theorem qDRkSq0 {p:Prop} (h:p:=by
 go_wp2_with fail
 go_at_call 35
 refine (fail_any 14 _).mono ?_
 rintro e w8 ⟨rfl,hq⟩
 replace HF0:=lh (hq.row HF0.out)
 replace HF1:=lh (hq.row HF1.out)
 replace HF2:=lh (hq.row HF2.out)
 replace HO:=lh (hq.row HO.out)
 replace HE:=lh (hq.row HE.out)
 replace HQ:=lh (HQ.out.q hq)
 clear hq
 have HO1:Hid ((w8.setRow (w.heap.size+1+1+1) (sqL 0 0 [0,0,0,0] 0 0 nilS [nilS,nilS,nilS,nilS]).toArray).heap[w.heap.size+1+1+1]?=some (.cells (sqL 0 0 [0,0,0,0] 0 0 nilS [nilS,nilS,nilS,nilS]).toArray 68 (0,0))):=lh (setRow_heap w8 (w.heap.size+1+1+1) _ _ _ _ HO.out)
 have ho1:=Only.setRow (S:=[w.heap.size+1+1+1]) (Only.refl _ w8) (g:=w.heap.size+1+1+1) (fun _=>by simp) (sqL 0 0 [0,0,0,0] 0 0 nilS [nilS,nilS,nilS,nilS]).toArray
 have HE1:=lh (ho1.rowAt HE.out (by simp))
 have HE2:Hid (((w8.setRow (w.heap.size+1+1+1) (sqL 0 0 [0,0,0,0] 0 0 nilS [nilS,nilS,nilS,nilS]).toArray).setRow (w.heap.size+1+1+1+1) #[.int .i64 14,.slice none 0 0]).heap[w.heap.size+1+1+1+1]?=some (.cells #[.int .i64 14,.slice none 0 0] 39 (0,0))):=lh (setRow_heap (w8.setRow (w.heap.size+1+1+1) (sqL 0 0 [0,0,0,0] 0 0 nilS [nilS,nilS,nilS,nilS]).toArray) (w.heap.size+1+1+1+1) _ _ _ _ HE1.out)
 have ho2:=Only.setRow (S:=[w.heap.size+1+1+1+1]) (Only.refl _ (w8.setRow (w.heap.size+1+1+1) (sqL 0 0 [0,0,0,0] 0 0 nilS [nilS,nilS,nilS,nilS]).toArray)) (g:=w.heap.size+1+1+1+1) (fun _=>by simp) #[.int .i64 14,.slice none 0 0]
 have HO3:=lh (ho2.rowAt HO1.out (by simp))
 have HAll:=lh ((HQ.out.trans ho1 (U:=[]) (by simp) (fun g hg hlt=>by rw [mSg] at hg;omega)).trans ho2 (U:=[]) (by simp) (fun g hg hlt=>by rw [mSg] at hg;omega))
 have HIz:=lh (ksq_info (k:=0) (mo:=0) (ms:=[0,0,0,0]) (vx:=0) (vy:=0) (lv:=nilS) (vs:=[nilS,nilS,nilS,nilS]) rfl rfl)
 have HOz:=lh (sqL_one (k:=0) (mo:=0) (ms:=[0,0,0,0]) (vx:=0) (vy:=0) (lv:=nilS) (vs:=[nilS,nilS,nilS,nilS]) rfl nils_one)
 clear ho1 ho2
 go_wp2_with (first
  | (refine wpList_store_row rfl (.tmp 16) (.tmp 41) 68 rfl rfl rfl HO.out HIz.out rfl HOz.out ?_)
  | (refine wpList_store_row rfl (.tmp 17) (.tmp 42) 39 rfl rfl rfl HE1.out (err_size _ _) rfl (by first | kernel_rfl | simp [Value.oneCell']) ?_)
  | fail)
 exact qDRkSq3):p:=h
theorem qDRkSq1 {p:Prop} (h:p:=by
 go_wp2_with fail
 go_at_call 35
 refine (fail_any 2 _).mono ?_
 rintro e w7 ⟨rfl,hq⟩
 replace HF0:=lh (hq.row HF0.out)
 replace HF1:=lh (hq.row HF1.out)
 replace HF2:=lh (hq.row HF2.out)
 replace HO:=lh (hq.row HO.out)
 replace HE:=lh (hq.row HE.out)
 replace HQ:=lh (HQ.out.q hq)
 clear hq
 have HO1:Hid ((w7.setRow (w.heap.size+1+1+1) (sqL 0 0 [0,0,0,0] 0 0 nilS [nilS,nilS,nilS,nilS]).toArray).heap[w.heap.size+1+1+1]?=some (.cells (sqL 0 0 [0,0,0,0] 0 0 nilS [nilS,nilS,nilS,nilS]).toArray 68 (0,0))):=lh (setRow_heap w7 (w.heap.size+1+1+1) _ _ _ _ HO.out)
 have ho1:=Only.setRow (S:=[w.heap.size+1+1+1]) (Only.refl _ w7) (g:=w.heap.size+1+1+1) (fun _=>by simp) (sqL 0 0 [0,0,0,0] 0 0 nilS [nilS,nilS,nilS,nilS]).toArray
 have HE1:=lh (ho1.rowAt HE.out (by simp))
 have HE2:Hid (((w7.setRow (w.heap.size+1+1+1) (sqL 0 0 [0,0,0,0] 0 0 nilS [nilS,nilS,nilS,nilS]).toArray).setRow (w.heap.size+1+1+1+1) #[.int .i64 2,.slice none 0 0]).heap[w.heap.size+1+1+1+1]?=some (.cells #[.int .i64 2,.slice none 0 0] 39 (0,0))):=lh (setRow_heap (w7.setRow (w.heap.size+1+1+1) (sqL 0 0 [0,0,0,0] 0 0 nilS [nilS,nilS,nilS,nilS]).toArray) (w.heap.size+1+1+1+1) _ _ _ _ HE1.out)
 have ho2:=Only.setRow (S:=[w.heap.size+1+1+1+1]) (Only.refl _ (w7.setRow (w.heap.size+1+1+1) (sqL 0 0 [0,0,0,0] 0 0 nilS [nilS,nilS,nilS,nilS]).toArray)) (g:=w.heap.size+1+1+1+1) (fun _=>by simp) #[.int .i64 2,.slice none 0 0]
 have HO3:=lh (ho2.rowAt HO1.out (by simp))
 have HAll:=lh ((HQ.out.trans ho1 (U:=[]) (by simp) (fun g hg hlt=>by rw [mSg] at hg;omega)).trans ho2 (U:=[]) (by simp) (fun g hg hlt=>by rw [mSg] at hg;omega))
 have HIz:=lh (ksq_info (k:=0) (mo:=0) (ms:=[0,0,0,0]) (vx:=0) (vy:=0) (lv:=nilS) (vs:=[nilS,nilS,nilS,nilS]) rfl rfl)
 have HOz:=lh (sqL_one (k:=0) (mo:=0) (ms:=[0,0,0,0]) (vx:=0) (vy:=0) (lv:=nilS) (vs:=[nilS,nilS,nilS,nilS]) rfl nils_one)
 clear ho1 ho2
 go_wp2_with (first
  | (refine wpList_store_row rfl (.tmp 16) (.tmp 27) 68 rfl rfl rfl HO.out HIz.out rfl HOz.out ?_)
  | (refine wpList_store_row rfl (.tmp 17) (.tmp 28) 39 rfl rfl rfl HE1.out (err_size _ _) rfl (by first | kernel_rfl | simp [Value.oneCell']) ?_)
  | fail)
 exact qDRkSq3):p:=h
theorem qDRkSq2 {p:Prop} (h:p:=by
 have hqe':Only [w.heap.size+1+1+1+1] wo we:=by first | exact hqe | exact ((Only.refl [] wo).drew.mono (U:=[w.heap.size+1+1+1+1]) (by simp)).trans hqe (fun g h _=>h) (fun g h _=>h)
 refine hK.out _ _ ?_ (fun hHeld=>?_)
 ·exact ⟨hqe'.cell (hqo'.cell e0 (by have:=HVn.out;simp;omega)) (by have:=HVn.out;simp;omega),hqe'.cell (hqo'.cell e1 (by have:=HVn.out;simp;omega)) (by have:=HVn.out;simp;omega)⟩
 clear hK K
 try simp only [Act.put,List.setIfInBounds_toArray,List.set_cons_zero,List.set_cons_succ]
 refine wpAnyH_done (by kernel_rfl) ?_ _
 go_wp2_with fail
 have ho3:=hqe'.rowAt hro (by simp)
 have hall:=(HQ.out.trans hqo' (U:=[]) (by simp) (fun g hg hlt=>by rw [mSg] at hg;omega)).trans hqe' (U:=[]) (by simp) (fun g hg hlt=>by rw [mSg] at hg;omega)
 exact bodyPost_ret (results_cell_cell Tryz.results29 _ _ (w.heap.size+1+1+1) (w.heap.size+1+1+1+1) _ _ _ _ _ _ _ _ rfl rfl ho3 hre HUnd.out rfl (ksq_info (k:=0) (mo:=0) (ms:=[0,0,0,0]) (vx:=0) (vy:=0) (lv:=nilS) (vs:=[nilS,nilS,nilS,nilS]) rfl rfl) Tryz.underlying39 rfl (err_info _ rfl)) rfl (HPost.out _ _ ⟨rfl,by first | exact hall | exact hall.drew⟩)):p:=h
theorem ksq_all {lo hi lo2 hi2 lo3 hi3:Nat} {sv cv pv:Value} {src prev:FrameD} {cW cH:Int} {cp:List Int} {w:World} {key:Bool} {x y q r:Int} (is:Ints .i64 lo hi w sv src.pix) (ic:Ints .i64 lo2 hi2 w cv cp) (ip:Ints .i64 lo3 hi3 w pv prev.pix) (hhi2:hi2≤w.heap.size) (hhi3:hi3≤w.heap.size) :
  Calls Tryz.prog 29 #[.agg #[.int .i64 src.W,.int .i64 src.H,sv],.agg #[.int .i64 cW,.int .i64 cH,cv],.agg #[.int .i64 prev.W,.int .i64 prev.H,pv],.bool key,.int .i64 x,.int .i64 y,.int .i64 q,.int .i64 r] w (KSqP w (squareE src ⟨cW,cH,cp⟩ prev key x y q r)):=by
 refine hidQ fun Q HPost=>?_
 have IS:=lh is
 have IC:=lh ic
 have IP:=lh ip
 obtain ⟨sa,sc,rfl,-⟩:=is.open
 obtain ⟨ca,cc,rfl,-⟩:=ic.open
 obtain ⟨pa,pc,rfl,-⟩:=ip.open
 have Hhi:=lh (And.intro hhi2 hhi3)
 clear hhi2 hhi3
 clear is ic ip
 have HQ:Hid (Only [] w (((((w.alloc (.cells #[.int .i64 src.W,.int .i64 src.H,.slice sa src.pix.length sc] 24)).alloc (.cells #[.int .i64 cW,.int .i64 cH,.slice ca cp.length cc] 24)).alloc (.cells #[.int .i64 prev.W,.int .i64 prev.H,.slice pa prev.pix.length pc] 24)).alloc (.cells #[.int .i64 0,.int .i64 0,.int .i64 0,.int .i64 0,.int .i64 0,.int .i64 0,.int .i64 0,.int .i64 0,.slice none 0 0,.slice none 0 0,.slice none 0 0,.slice none 0 0,.slice none 0 0] 68)).alloc (.cells #[.int .i64 0,.slice none 0 0] 39))):=lh (((((Only.new w _).alloc _).alloc _).alloc _).alloc _)
 have HF0:Hid ((((((w.alloc (.cells #[.int .i64 src.W,.int .i64 src.H,.slice sa src.pix.length sc] 24)).alloc (.cells #[.int .i64 cW,.int .i64 cH,.slice ca cp.length cc] 24)).alloc (.cells #[.int .i64 prev.W,.int .i64 prev.H,.slice pa prev.pix.length pc] 24)).alloc (.cells #[.int .i64 0,.int .i64 0,.int .i64 0,.int .i64 0,.int .i64 0,.int .i64 0,.int .i64 0,.int .i64 0,.slice none 0 0,.slice none 0 0,.slice none 0 0,.slice none 0 0,.slice none 0 0] 68)).alloc (.cells #[.int .i64 0,.slice none 0 0] 39)).heap[w.heap.size]?=some (.cells #[.int .i64 src.W,.int .i64 src.H,.slice sa src.pix.length sc] 24 (0,0))):=lh (((((Only.new (w.alloc _) _).alloc _).alloc _).alloc _).row (heap_alloc_new w _))
 have HF1:Hid ((((((w.alloc (.cells #[.int .i64 src.W,.int .i64 src.H,.slice sa src.pix.length sc] 24)).alloc (.cells #[.int .i64 cW,.int .i64 cH,.slice ca cp.length cc] 24)).alloc (.cells #[.int .i64 prev.W,.int .i64 prev.H,.slice pa prev.pix.length pc] 24)).alloc (.cells #[.int .i64 0,.int .i64 0,.int .i64 0,.int .i64 0,.int .i64 0,.int .i64 0,.int .i64 0,.int .i64 0,.slice none 0 0,.slice none 0 0,.slice none 0 0,.slice none 0 0,.slice none 0 0] 68)).alloc (.cells #[.int .i64 0,.slice none 0 0] 39)).heap[w.heap.size+1]?=some (.cells #[.int .i64 cW,.int .i64 cH,.slice ca cp.length cc] 24 (0,0))):=lh ((((Only.new ((w.alloc _).alloc _) _).alloc _).alloc _).row (heap_alloc_new' (by simp)))
 have HF2:Hid ((((((w.alloc (.cells #[.int .i64 src.W,.int .i64 src.H,.slice sa src.pix.length sc] 24)).alloc (.cells #[.int .i64 cW,.int .i64 cH,.slice ca cp.length cc] 24)).alloc (.cells #[.int .i64 prev.W,.int .i64 prev.H,.slice pa prev.pix.length pc] 24)).alloc (.cells #[.int .i64 0,.int .i64 0,.int .i64 0,.int .i64 0,.int .i64 0,.int .i64 0,.int .i64 0,.int .i64 0,.slice none 0 0,.slice none 0 0,.slice none 0 0,.slice none 0 0,.slice none 0 0] 68)).alloc (.cells #[.int .i64 0,.slice none 0 0] 39)).heap[w.heap.size+1+1]?=some (.cells #[.int .i64 prev.W,.int .i64 prev.H,.slice pa prev.pix.length pc] 24 (0,0))):=lh (((Only.new (((w.alloc _).alloc _).alloc _) _).alloc _).row (heap_alloc_new' (by simp)))
 have HO:Hid ((((((w.alloc (.cells #[.int .i64 src.W,.int .i64 src.H,.slice sa src.pix.length sc] 24)).alloc (.cells #[.int .i64 cW,.int .i64 cH,.slice ca cp.length cc] 24)).alloc (.cells #[.int .i64 prev.W,.int .i64 prev.H,.slice pa prev.pix.length pc] 24)).alloc (.cells #[.int .i64 0,.int .i64 0,.int .i64 0,.int .i64 0,.int .i64 0,.int .i64 0,.int .i64 0,.int .i64 0,.slice none 0 0,.slice none 0 0,.slice none 0 0,.slice none 0 0,.slice none 0 0] 68)).alloc (.cells #[.int .i64 0,.slice none 0 0] 39)).heap[w.heap.size+1+1+1]?=some (.cells (sqL 0 0 [0,0,0,0] 0 0 nilS [nilS,nilS,nilS,nilS]).toArray 68 (0,0))):=lh ((Only.new ((((w.alloc _).alloc _).alloc _).alloc _) _).row (heap_alloc_new' (by simp)))
 have HE:Hid ((((((w.alloc (.cells #[.int .i64 src.W,.int .i64 src.H,.slice sa src.pix.length sc] 24)).alloc (.cells #[.int .i64 cW,.int .i64 cH,.slice ca cp.length cc] 24)).alloc (.cells #[.int .i64 prev.W,.int .i64 prev.H,.slice pa prev.pix.length pc] 24)).alloc (.cells #[.int .i64 0,.int .i64 0,.int .i64 0,.int .i64 0,.int .i64 0,.int .i64 0,.int .i64 0,.int .i64 0,.slice none 0 0,.slice none 0 0,.slice none 0 0,.slice none 0 0,.slice none 0 0] 68)).alloc (.cells #[.int .i64 0,.slice none 0 0] 39)).heap[w.heap.size+1+1+1+1]?=some (.cells #[.int .i64 0,.slice none 0 0] 39 (0,0))):=lh (heap_alloc_new' (by simp))
 have HZ:Hid ((((((w.alloc (.cells #[.int .i64 src.W,.int .i64 src.H,.slice sa src.pix.length sc] 24)).alloc (.cells #[.int .i64 cW,.int .i64 cH,.slice ca cp.length cc] 24)).alloc (.cells #[.int .i64 prev.W,.int .i64 prev.H,.slice pa prev.pix.length pc] 24)).alloc (.cells #[.int .i64 0,.int .i64 0,.int .i64 0,.int .i64 0,.int .i64 0,.int .i64 0,.int .i64 0,.int .i64 0,.slice none 0 0,.slice none 0 0,.slice none 0 0,.slice none 0 0,.slice none 0 0] 68)).alloc (.cells #[.int .i64 0,.slice none 0 0] 39)).heap.size=w.heap.size+1+1+1+1+1):=lh (by simp)
 have HUnd:=lh Tryz.underlying68
 obtain ⟨r0,r1,r2⟩:=frame_cells HF0.out
 go_enter Tryz.func29,Tryz.ntmps29
 go_wp2_with fail
 generalize hW5:World.alloc (World.alloc (World.alloc (World.alloc (World.alloc w _) _) _) _) _=W5 at *
 clear hW5
 go_at_call 66
 refine (kmay_any src.W src.H (IS.out.quiet HQ.out)).mono ?_
 rintro e w6 ⟨rfl,hq⟩
 replace HF0:=lh (hq.row HF0.out)
 replace HF1:=lh (hq.row HF1.out)
 replace HF2:=lh (hq.row HF2.out)
 replace HO:=lh (hq.row HO.out)
 replace HE:=lh (hq.row HE.out)
 replace HQ:=lh (HQ.out.q hq)
 clear hq
 clear r0 r1 r2
 rw [show mayF ⟨src.W,src.H,src.pix⟩=mayF src from rfl]
 cases hms:mayF src with
 | false =>
  rw [show squareE src ⟨cW,cH,cp⟩ prev key x y q r=.error 2 from by unfold squareE;rw [if_pos (by simp [hms])]] at HPost
  clear hms
  exact qDRkSq1
 | true =>
  have Hms:=lh hms
  clear hms
  obtain ⟨s0,s1,s2⟩:=frame_cells HF1.out
  go_wp2_with fail
  go_at_call 66
  refine (kmay_any cW cH (IC.out.quiet HQ.out)).mono ?_
  rintro e w7 ⟨rfl,hq⟩
  replace HF0:=lh (hq.row HF0.out)
  replace HF1:=lh (hq.row HF1.out)
  replace HF2:=lh (hq.row HF2.out)
  replace HO:=lh (hq.row HO.out)
  replace HE:=lh (hq.row HE.out)
  replace HQ:=lh (HQ.out.q hq)
  clear hq
  clear s0 s1 s2
  cases hmc:mayF (⟨cW,cH,cp⟩:FrameD) with
  | false =>
   rw [show squareE src ⟨cW,cH,cp⟩ prev key x y q r=.error 2 from by unfold squareE;rw [if_pos (by simp [hmc])]] at HPost
   clear hmc
   exact qDRkSq1
  | true =>
   have Hm:Hid (mayF src=true∧mayF (⟨cW,cH,cp⟩:FrameD)=true):=lh ⟨Hms.out,hmc⟩
   clear Hms hmc
   by_cases hW:cW=src.W
   ·subst hW
    by_cases hH:cH=src.H
    ·subst hH
     obtain ⟨r0,r1,r2⟩:=frame_cells HF0.out
     obtain ⟨s0,s1,s2⟩:=frame_cells HF1.out
     obtain ⟨u0,u1,u2⟩:=frame_cells HF2.out
     go_wp2_with fail
     clear r0 r1 r2 s0 s1 s2 u0 u1 u2
     go_at_call 45
     refine (kasks_any key q r (IS.out.quiet HQ.out) (IP.out.quiet HQ.out)).mono ?_
     rintro e w8 ⟨rfl,hq⟩
     replace HF0:=lh (hq.row HF0.out)
     replace HF1:=lh (hq.row HF1.out)
     replace HF2:=lh (hq.row HF2.out)
     replace HO:=lh (hq.row HO.out)
     replace HE:=lh (hq.row HE.out)
     replace HQ:=lh (HQ.out.q hq)
     clear hq
     cases hck:checkE src prev key q r with
     | some c =>
      have Hck:=lh hck
      clear hck
      rw [show squareE src ⟨src.W,src.H,cp⟩ prev key x y q r=.error c from by unfold squareE;rw [if_neg (by simp [Hm.out]),if_neg (by simp),Hck.out]] at HPost
      have hcz:(c == 0)=false:=by have:=askE_ne Hck.out;simp [this]
      rw [show kerrV (some c)=.agg #[.int .i64 c,.slice none 0 0] from rfl]
      have HV:Hid ((w8.alloc (.cells #[.int .i64 c,.slice none 0 0] 39)).heap[w8.heap.size]?=some (.cells #[.int .i64 c,.slice none 0 0] 39 (0,0))):=lh (heap_alloc_new w8 _)
      have HVn:Hid (w.heap.size+1+1+1+1<w8.heap.size):=lh (by have:=(Array.getElem?_eq_some_iff.1 HE.out).1;omega)
      have hq:=Only.new w8 (.cells #[.int .i64 c,.slice none 0 0] 39)
      replace HF0:=lh (hq.row HF0.out)
      replace HF1:=lh (hq.row HF1.out)
      replace HF2:=lh (hq.row HF2.out)
      replace HO:=lh (hq.row HO.out)
      replace HE:=lh (hq.row HE.out)
      replace HQ:=lh (HQ.out.q hq)
      clear hq
      obtain ⟨e0,e1,-⟩:=row2 HV.out
      go_wp2_with fail
      clear e0 e1
      generalize hW9:World.alloc w8 _=W9 at *
      clear hW9
      generalize w8.heap.size=V at *
      obtain ⟨e0,e1,-⟩:=row2 HV.out
      go_wp2_with fail
      go_at_call 46
      refine (kok_any _ _ _).mono ?_
      rintro e w10 ⟨rfl,hq⟩
      rw [hcz]
      replace HF0:=lh (hq.row HF0.out)
      replace HF1:=lh (hq.row HF1.out)
      replace HF2:=lh (hq.row HF2.out)
      replace HO:=lh (hq.row HO.out)
      replace HE:=lh (hq.row HE.out)
      replace HV:=lh (hq.row HV.out)
      replace HQ:=lh (HQ.out.q hq)
      clear hq
      obtain ⟨e0,e1,-⟩:=row2 HV.out
      go_wp2_with fail
      go_at_call 46
      refine (kok_any _ _ _).mono ?_
      rintro e w14 ⟨rfl,hq⟩
      rw [hcz]
      replace HF0:=lh (hq.row HF0.out)
      replace HF1:=lh (hq.row HF1.out)
      replace HF2:=lh (hq.row HF2.out)
      replace HO:=lh (hq.row HO.out)
      replace HE:=lh (hq.row HE.out)
      replace HV:=lh (hq.row HV.out)
      replace HQ:=lh (HQ.out.q hq)
      clear hq
      obtain ⟨e0,e1,-⟩:=row2 HV.out
      go_upto_region 9 with (fail)
      refine wp_region_held_drew (S:=(fun w'=>w'.cell? ⟨V,0,none⟩=some (.int .i64 c)∧w'.cell? ⟨V,1,none⟩=some (.slice none 0 0))) (by kernel_rfl) ?_ (fun hHeld=>?_)
      ·exact ⟨e0,e1⟩
      refine tk 0 62 ?_
      refine tk 1 63 ?_
      refine rdy (rdn 2 (fun K hK=>?_) .nil)
      refine wp_store_rowK (.tmp 16) (.tmp 62) 68 rfl (g:=w.heap.size+1+1+1) (c':=(sqL 0 0 [0,0,0,0] 0 0 nilS [nilS,nilS,nilS,nilS]).toArray) rfl rfl HO.out (ksq_info (k:=0) (mo:=0) (ms:=[0,0,0,0]) (vx:=0) (vy:=0) (lv:=nilS) (vs:=[nilS,nilS,nilS,nilS]) rfl rfl) rfl (sqL_one (k:=0) (mo:=0) (ms:=[0,0,0,0]) (vx:=0) (vy:=0) (lv:=nilS) (vs:=[nilS,nilS,nilS,nilS]) rfl nils_one) (fun wo hqo hro=>?_)
      have hqo':Only [w.heap.size+1+1+1] w14 wo:=by first | exact hqo | exact ((Only.refl [] w14).drew.mono (U:=[w.heap.size+1+1+1]) (by simp)).trans hqo (fun g h _=>h) (fun g h _=>h)
      have he1:=hqo'.rowAt HE.out (by simp)
      refine hK.out _ _ ?_ (fun hHeld=>?_)
      ·exact ⟨hqo'.cell e0 (by have:=HVn.out;simp;omega),hqo'.cell e1 (by have:=HVn.out;simp;omega)⟩
      clear hK K
      try simp only [Act.put,List.setIfInBounds_toArray,List.set_cons_zero,List.set_cons_succ]
      refine rdy (rdn 3 (fun K hK=>?_) .nil)
      refine wp_store_rowK (.tmp 17) (.tmp 63) 39 rfl (g:=w.heap.size+1+1+1+1) (c':=#[.int .i64 c,.slice none 0 0]) rfl rfl he1 (err_size _ _) rfl (by first | kernel_rfl | simp [Value.oneCell']) (fun we hqe hre=>?_)
      exact qDRkSq2
     | none =>
      have Hck:=lh hck
      clear hck
      rw [show kerrV none=.agg #[.int .i64 0,.slice none 0 0] from rfl]
      have HV:Hid ((w8.alloc (.cells #[.int .i64 0,.slice none 0 0] 39)).heap[w8.heap.size]?=some (.cells #[.int .i64 0,.slice none 0 0] 39 (0,0))):=lh (heap_alloc_new w8 _)
      have HVn:Hid (w.heap.size+1+1+1+1<w8.heap.size):=lh (by have:=(Array.getElem?_eq_some_iff.1 HE.out).1;omega)
      have hq:=Only.new w8 (.cells #[.int .i64 0,.slice none 0 0] 39)
      replace HF0:=lh (hq.row HF0.out)
      replace HF1:=lh (hq.row HF1.out)
      replace HF2:=lh (hq.row HF2.out)
      replace HO:=lh (hq.row HO.out)
      replace HE:=lh (hq.row HE.out)
      replace HQ:=lh (HQ.out.q hq)
      clear hq
      obtain ⟨e0,e1,-⟩:=row2 HV.out
      go_wp2_with fail
      clear e0 e1
      generalize hW9:World.alloc w8 _=W9 at *
      clear hW9
      generalize w8.heap.size=V at *
      obtain ⟨e0,e1,-⟩:=row2 HV.out
      go_wp2_with fail
      go_at_call 46
      refine (kok_any _ _ _).mono ?_
      rintro e w10 ⟨rfl,hq⟩
      rw [show ((0:Int) == 0)=true from rfl]
      replace HF0:=lh (hq.row HF0.out)
      replace HF1:=lh (hq.row HF1.out)
      replace HF2:=lh (hq.row HF2.out)
      replace HO:=lh (hq.row HO.out)
      replace HE:=lh (hq.row HE.out)
      replace HV:=lh (hq.row HV.out)
      replace HQ:=lh (HQ.out.q hq)
      clear hq
      obtain ⟨e0,e1,-⟩:=row2 HV.out
      obtain ⟨r0,r1,r2⟩:=frame_cells HF0.out
      go_wp2_with fail
      have hfo:=mayF_iff.1 Hm.out.1
      have Hpl:=lh (place_any src.W src.H x y (.slice sa src.pix.length sc) w10 ⟨hfo.w0,hfo.w1⟩ ⟨hfo.h0,hfo.h1⟩)
      rw [show (decide (x.tmod 8=0) && decide (y.tmod 8=0) && liesD src.W src.H x y 8)=placeB src.W src.H x y from rfl] at Hpl
      clear hfo r0 r1 r2
      go_at_call 67
      refine Hpl.out.mono ?_
      rintro e w11 ⟨rfl,hq⟩
      clear Hpl e0 e1
      replace HF0:=lh (hq.row HF0.out)
      replace HF1:=lh (hq.row HF1.out)
      replace HF2:=lh (hq.row HF2.out)
      replace HO:=lh (hq.row HO.out)
      replace HE:=lh (hq.row HE.out)
      replace HV:=lh (hq.row HV.out)
      replace HQ:=lh (HQ.out.q hq)
      clear hq
      cases hpc:placeB src.W src.H x y with
      | false =>
       rw [show squareE src ⟨src.W,src.H,cp⟩ prev key x y q r=.error 3 from by unfold squareE;rw [if_neg (by simp [Hm.out]),if_neg (by simp),Hck.out];simp only;rw [if_pos hpc]] at HPost
       clear hpc
       go_wp2_with fail
       go_at_call 35
       refine (fail_any 3 _).mono ?_
       rintro e w12 ⟨rfl,hq⟩
       replace HF0:=lh (hq.row HF0.out)
       replace HF1:=lh (hq.row HF1.out)
       replace HF2:=lh (hq.row HF2.out)
       replace HO:=lh (hq.row HO.out)
       replace HE:=lh (hq.row HE.out)
       replace HV:=lh (hq.row HV.out)
       replace HQ:=lh (HQ.out.q hq)
       clear hq
       have HV3:Hid ((w12.setRow V #[.int .i64 3,.slice none 0 0]).heap[V]?=some (.cells #[.int .i64 3,.slice none 0 0] 39 (0,0))):=lh (setRow_heap w12 V _ _ _ _ HV.out)
       have ho:=Only.setRow (S:=[V]) (Only.refl _ w12) (g:=V) (fun _=>by simp) #[.int .i64 3,.slice none 0 0]
       have HF03:=lh (ho.rowAt HF0.out (by have:=HVn.out;simp;omega))
       have HF13:=lh (ho.rowAt HF1.out (by have:=HVn.out;simp;omega))
       have HF23:=lh (ho.rowAt HF2.out (by have:=HVn.out;simp;omega))
       have HO3:=lh (ho.rowAt HO.out (by have:=HVn.out;simp;omega))
       have HE3:=lh (ho.rowAt HE.out (by have:=HVn.out;simp;omega))
       have HQ3:=lh (HQ.out.trans ho (U:=[]) (by simp) (fun g hg hlt=>by have:=HVn.out;rw [mSg] at hg;omega))
       obtain ⟨e0,e1,-⟩:=row2 HV3.out
       clear ho
       go_wp2_with (first | (refine wpList_store_row rfl (.tmp 18) (.tmp 58) 39 rfl rfl rfl HV.out (err_size _ _) rfl (by first | kernel_rfl | simp [Value.oneCell']) ?_) | fail)
       generalize hW13:World.setRow w12 _ _=W13 at *
       clear hW13 e0 e1 HV HF0 HF1 HF2 HO HE HQ
       have HF0:=HF03
       have HF1:=HF13
       have HF2:=HF23
       have HO:=HO3
       have HE:=HE3
       have HV:=HV3
       have HQ:=HQ3
       go_at_call 46
       refine (kok_any _ _ _).mono ?_
       rintro e w14 ⟨rfl,hq⟩
       rw [show ((3:Int) == 0)=false from rfl]
       replace HF0:=lh (hq.row HF0.out)
       replace HF1:=lh (hq.row HF1.out)
       replace HF2:=lh (hq.row HF2.out)
       replace HO:=lh (hq.row HO.out)
       replace HE:=lh (hq.row HE.out)
       replace HV:=lh (hq.row HV.out)
       replace HQ:=lh (HQ.out.q hq)
       clear hq
       obtain ⟨e0,e1,-⟩:=row2 HV.out
       go_upto_region 9 with (fail)
       refine wp_region_held_drew (S:=(fun w'=>w'.cell? ⟨V,0,none⟩=some (.int .i64 3)∧w'.cell? ⟨V,1,none⟩=some (.slice none 0 0))) (by kernel_rfl) ?_ (fun hHeld=>?_)
       ·exact ⟨e0,e1⟩
       refine tk 0 62 ?_
       refine tk 1 63 ?_
       refine rdy (rdn 2 (fun K hK=>?_) .nil)
       refine wp_store_rowK (.tmp 16) (.tmp 62) 68 rfl (g:=w.heap.size+1+1+1) (c':=(sqL 0 0 [0,0,0,0] 0 0 nilS [nilS,nilS,nilS,nilS]).toArray) rfl rfl HO.out (ksq_info (k:=0) (mo:=0) (ms:=[0,0,0,0]) (vx:=0) (vy:=0) (lv:=nilS) (vs:=[nilS,nilS,nilS,nilS]) rfl rfl) rfl (sqL_one (k:=0) (mo:=0) (ms:=[0,0,0,0]) (vx:=0) (vy:=0) (lv:=nilS) (vs:=[nilS,nilS,nilS,nilS]) rfl nils_one) (fun wo hqo hro=>?_)
       have hqo':Only [w.heap.size+1+1+1] w14 wo:=by first | exact hqo | exact ((Only.refl [] w14).drew.mono (U:=[w.heap.size+1+1+1]) (by simp)).trans hqo (fun g h _=>h) (fun g h _=>h)
       have he1:=hqo'.rowAt HE.out (by simp)
       refine hK.out _ _ ?_ (fun hHeld=>?_)
       ·exact ⟨hqo'.cell e0 (by have:=HVn.out;simp;omega),hqo'.cell e1 (by have:=HVn.out;simp;omega)⟩
       clear hK K
       try simp only [Act.put,List.setIfInBounds_toArray,List.set_cons_zero,List.set_cons_succ]
       refine rdy (rdn 3 (fun K hK=>?_) .nil)
       refine wp_store_rowK (.tmp 17) (.tmp 63) 39 rfl (g:=w.heap.size+1+1+1+1) (c':=#[.int .i64 3,.slice none 0 0]) rfl rfl he1 (err_size _ _) rfl (by first | kernel_rfl | simp [Value.oneCell']) (fun we hqe hre=>?_)
       exact qDRkSq2
      | true =>
       rw [show squareE src ⟨src.W,src.H,cp⟩ prev key x y q r=.ok (chooseE src prev key q.toNat r.toNat ⟨src.W,src.H,cp⟩ x y) from by unfold squareE;rw [if_neg (by simp [Hm.out]),if_neg (by simp),Hck.out];simp only;rw [if_neg (by rw [hpc];simp)]] at HPost
       have hkn:=askE_none Hck.out
       have hpi:=placeB_in hpc
       have HCq:Hid (∀ W:World,Only [] w W→Calls Tryz.prog 49 #[.agg #[.int .i64 src.W,.int .i64 src.H,.slice sa src.pix.length sc],.agg #[.int .i64 src.W,.int .i64 src.H,.slice ca cp.length cc],.agg #[.int .i64 prev.W,.int .i64 prev.H,.slice pa prev.pix.length pc],.bool key,.int .i64 x,.int .i64 y,.int .i64 q,.int .i64 r] W fun e w'=>(∃ lv vs,e=.returned (.agg (sqL (chooseE src prev key q.toNat r.toNat ⟨src.W,src.H,cp⟩ x y).kind (chooseE src prev key q.toNat r.toNat ⟨src.W,src.H,cp⟩ x y).mode (chooseE src prev key q.toNat r.toNat ⟨src.W,src.H,cp⟩ x y).modes (chooseE src prev key q.toNat r.toNat ⟨src.W,src.H,cp⟩ x y).vx (chooseE src prev key q.toNat r.toNat ⟨src.W,src.H,cp⟩ x y).vy lv vs).toArray)∧(chooseE src prev key q.toNat r.toNat ⟨src.W,src.H,cp⟩ x y).modes.length=4∧SqIn W.heap.size w'.heap.size w' lv vs (chooseE src prev key q.toNat r.toNat ⟨src.W,src.H,cp⟩ x y).large (chooseE src prev key q.toNat r.toNat ⟨src.W,src.H,cp⟩ x y).small∧Only [] W w')):=lh (fun W o=>by
        have h:=ksqr_any (q:=q.toNat) (r:=r.toNat) key (mayF_iff.1 Hm.out.1) (mayF_iff.1 Hm.out.2) hkn.1 rfl rfl (IS.out.quiet o) (IC.out.quiet o) (IP.out.quiet o) x y hpi.1 hpi.2 (by omega) (by omega) (Nat.le_trans Hhi.out.2 o.size) (Nat.le_trans Hhi.out.1 o.size)
        rw [show ((q.toNat:Nat):Int)=q by omega,show ((r.toNat:Nat):Int)=r by omega] at h
        exact h)
       clear hkn hpi hpc
       obtain ⟨e0,e1,-⟩:=row2 HV.out
       go_wp2_with fail
       go_at_call 46
       refine (kok_any _ _ _).mono ?_
       rintro e w12 ⟨rfl,hq⟩
       rw [show ((0:Int) == 0)=true from rfl]
       replace HF0:=lh (hq.row HF0.out)
       replace HF1:=lh (hq.row HF1.out)
       replace HF2:=lh (hq.row HF2.out)
       replace HO:=lh (hq.row HO.out)
       replace HE:=lh (hq.row HE.out)
       replace HV:=lh (hq.row HV.out)
       replace HQ:=lh (HQ.out.q hq)
       clear hq
       obtain ⟨e0,e1,-⟩:=row2 HV.out
       go_upto_region 10 with (fail)
       have HCh:=lh (fun (W:World) (o:Only [] w12 W)=>HCq.out W (HQ.out.q o))
       obtain ⟨CH,hCH⟩:∃ z,z=(chooseE src prev key q.toNat r.toNat ⟨src.W,src.H,cp⟩ x y):=⟨_,rfl⟩
       rw [← hCH] at HCh HPost
       clear HCq hCH
       refine wp_region_held_drew (S:=(fun w'=>w'.heap[w.heap.size]?=some (.cells #[.int .i64 src.W,.int .i64 src.H,.slice sa src.pix.length sc] 24 (0,0))∧w'.heap[w.heap.size+1]?=some (.cells #[.int .i64 src.W,.int .i64 src.H,.slice ca cp.length cc] 24 (0,0))∧w'.heap[w.heap.size+1+1]?=some (.cells #[.int .i64 prev.W,.int .i64 prev.H,.slice pa prev.pix.length pc] 24 (0,0))∧w'.cell? ⟨V,0,none⟩=some (.int .i64 0)∧w'.cell? ⟨V,1,none⟩=some (.slice none 0 0))) (by kernel_rfl) ?_ (fun hHeld=>?_)
       ·exact ⟨HF0.out,HF1.out,HF2.out,e0,e1⟩
       refine tkw 0 64 ⟨rfl,qDRkSqt0⟩ ?_
       refine tkw 1 65 ⟨rfl,qDRkSqt0⟩ ?_
       refine tkw 2 66 ⟨rfl,qDRkSqt0⟩ ?_
       refine tkw 3 67 ⟨rfl,qDRkSqt0⟩ ?_
       refine tkw 4 68 ⟨rfl,qDRkSqt0⟩ ?_
       refine tkw 5 69 ⟨rfl,qDRkSqt0⟩ ?_
       refine tkw 6 70 ⟨rfl,qDRkSqt0⟩ ?_
       refine tkw 7 71 ⟨rfl,qDRkSqt0⟩ ?_
       refine tkw 9 73 ⟨rfl,qDRkSqt0⟩ ?_
       refine rdy (rdc 8 72 (fun K hK=>?_) .nil)
       go_simp
       go_at_call 49
       refine (HCh.out _ (by first | exact Only.refl _ _ | exact (Only.refl _ _).drew)).mono ?_
       rintro e wk ⟨lv,vs,rfl,hml,hin,hq⟩
       have hqk:Only [] w12 wk:=by first | exact hq | exact (Only.refl _ _).drew.q hq
       have hin:SqIn w12.heap.size wk.heap.size wk lv vs CH.large CH.small:=hin
       refine hK.out _ _ ?_ (fun hHeld=>?_)
       ·exact ⟨hqk.row HF0.out,hqk.row HF1.out,hqk.row HF2.out,hqk.cell e0 (by simp),hqk.cell e1 (by simp)⟩
       clear hK K
       try simp only [Act.put,List.setIfInBounds_toArray,List.set_cons_zero,List.set_cons_succ]
       refine rdy (rdn 10 (fun K hK=>?_) .nil)
       refine wp_store_rowK (.tmp 16) (.tmp 72) 68 rfl (g:=w.heap.size+1+1+1) (c':=(sqL CH.kind CH.mode CH.modes CH.vx CH.vy lv vs).toArray) rfl rfl (hqk.row HO.out) (ksq_info (k:=CH.kind) (mo:=CH.mode) (ms:=CH.modes) (vx:=CH.vx) (vy:=CH.vy) (lv:=lv) (vs:=vs) hml hin.len) (sqL_sizes (k:=0) (mo:=0) (ms:=[0,0,0,0]) (vx:=0) (vy:=0) (lv:=nilS) (vs:=[nilS,nilS,nilS,nilS]) (k':=CH.kind) (mo':=CH.mode) (ms':=CH.modes) (vx':=CH.vx) (vy':=CH.vy) (lv':=lv) (vs':=vs) rfl rfl hml hin.len) (sqL_one (k:=CH.kind) (mo:=CH.mode) (ms:=CH.modes) (vx:=CH.vx) (vy:=CH.vy) (lv:=lv) (vs:=vs) hin.one.1 hin.one.2) (fun wo hqo hro=>?_)
       have he1:=hqo.rowAt (hqk.row HE.out) (by simp)
       refine hK.out _ _ ?_ (fun hHeld=>?_)
       ·exact ⟨hqo.rowAt (hqk.row HF0.out) (by simp;try omega),hqo.rowAt (hqk.row HF1.out) (by simp;try omega),hqo.rowAt (hqk.row HF2.out) (by simp;try omega),hqo.cell (hqk.cell e0 (by simp)) (by have:=HVn.out;simp;omega),hqo.cell (hqk.cell e1 (by simp)) (by have:=HVn.out;simp;omega)⟩
       clear hK K
       try simp only [Act.put,List.setIfInBounds_toArray,List.set_cons_zero,List.set_cons_succ]
       refine rdy (rdn 11 (fun K hK=>?_) .nil)
       refine wp_store_rowK (.tmp 17) (.tmp 73) 39 rfl (g:=w.heap.size+1+1+1+1) (c':=#[.int .i64 0,.slice none 0 0]) rfl rfl he1 (err_size _ _) rfl (by first | kernel_rfl | simp [Value.oneCell']) (fun we hqe hre=>?_)
       refine hK.out _ _ ?_ (fun hHeld=>?_)
       ·exact ⟨hqe.rowAt (hqo.rowAt (hqk.row HF0.out) (by simp;try omega)) (by simp;try omega),hqe.rowAt (hqo.rowAt (hqk.row HF1.out) (by simp;try omega)) (by simp;try omega),hqe.rowAt (hqo.rowAt (hqk.row HF2.out) (by simp;try omega)) (by simp;try omega),hqe.cell (hqo.cell (hqk.cell e0 (by simp)) (by have:=HVn.out;simp;omega)) (by have:=HVn.out;simp;omega),hqe.cell (hqo.cell (hqk.cell e1 (by simp)) (by have:=HVn.out;simp;omega)) (by have:=HVn.out;simp;omega)⟩
       clear hK K
       try simp only [Act.put,List.setIfInBounds_toArray,List.set_cons_zero,List.set_cons_succ]
       refine wpAnyH_done (by kernel_rfl) ?_ _
       go_wp2_with fail
       have ho3:=hqe.rowAt hro (by simp)
       have hse:=hqo.trans hqe (U:=[w.heap.size+1+1+1,w.heap.size+1+1+1+1]) (fun g h _=>by rw [mSg] at h;subst h;simp) (fun g h _=>by rw [mSg] at h;subst h;simp)
       have hall:=(HQ.out.q hqk).trans hse (U:=[]) (by simp) (fun g hg hlt=>by simp only [List.mem_cons,List.not_mem_nil,or_false] at hg;omega)
       refine bodyPost_ret (v:=.tuple #[.agg (sqL CH.kind CH.mode CH.modes CH.vx CH.vy lv vs).toArray,.agg #[.int .i64 0,.slice none 0 0]]) (results_cell_cell Tryz.results29 _ _ (w.heap.size+1+1+1) (w.heap.size+1+1+1+1) _ _ _ _ _ _ _ _ rfl rfl ho3 hre HUnd.out rfl (ksq_info (k:=CH.kind) (mo:=CH.mode) (ms:=CH.modes) (vx:=CH.vx) (vy:=CH.vy) (lv:=lv) (vs:=vs) hml hin.len) Tryz.underlying39 rfl (err_info _ rfl)) rfl (HPost.out _ _ ⟨lv,vs,rfl,hml,?_,?_⟩)
       ·have z0:=(Array.getElem?_eq_some_iff.1 HE.out).1
        have h3:=hin.only hse (fun g hg=>by simp only [List.mem_cons,List.not_mem_nil,or_false] at hg;omega)
        have z1:=hse.size
        have h4:SqIn w.heap.size we.heap.size we lv vs CH.large CH.small:=⟨h3.large.mono (by omega) z1,h3.len,fun i hi=>(h3.small i hi).mono (by omega) z1⟩
        exact h4
       ·first | exact hall | exact hall.drew
    ·obtain ⟨r0,r1,r2⟩:=frame_cells HF0.out
     obtain ⟨s0,s1,s2⟩:=frame_cells HF1.out
     rw [show squareE src ⟨src.W,cH,cp⟩ prev key x y q r=.error 14 from by unfold squareE;rw [if_neg (by simp [Hm.out]),if_pos (by simp [hH])]] at HPost
     exact qDRkSq0
   ·obtain ⟨r0,r1,r2⟩:=frame_cells HF0.out
    obtain ⟨s0,s1,s2⟩:=frame_cells HF1.out
    rw [show squareE src ⟨cW,cH,cp⟩ prev key x y q r=.error 14 from by unfold squareE;rw [if_neg (by simp [Hm.out]),if_pos (by simp [hW])]] at HPost
    exact qDRkSq0
theorem ksquare_any {lo hi lo2 hi2 lo3 hi3:Nat} {sv cv pv:Value} {src prev:FrameD} {cur:FrameD} {w:World} {key:Bool} {x y q r:Int} (is:Ints .i64 lo hi w sv src.pix) (ic:Ints .i64 lo2 hi2 w cv cur.pix) (ip:Ints .i64 lo3 hi3 w pv prev.pix) (hhi2:hi2≤w.heap.size) (hhi3:hi3≤w.heap.size) :
  Calls Tryz.prog 29 #[.agg #[.int .i64 src.W,.int .i64 src.H,sv],.agg #[.int .i64 cur.W,.int .i64 cur.H,cv],.agg #[.int .i64 prev.W,.int .i64 prev.H,pv],.bool key,.int .i64 x,.int .i64 y,.int .i64 q,.int .i64 r] w (KSqP w (squareE src cur prev key x y q r)) :=
 ksq_all is ic ip hhi2 hhi3
end
end Go.Proofs.YtmgbbgffkakcaaaGreatDoor
