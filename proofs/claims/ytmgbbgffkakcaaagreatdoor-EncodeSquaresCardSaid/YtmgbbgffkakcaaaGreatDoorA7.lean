/- Joined texts: DRkU, DRBu, DRBd, DRkSm. Conditions: each part names its own. -/
import Derived.Test.YtmgbbgffkakcaaaGreatDoorT1
import Derived.Test.YtmgbbgffkakcaaaGreatDoorA4
import Derived.Test.YtmgbbgffkakcaaaGreatDoorW7
import Derived.Test.YtmgbbgffkakcaaaGreatDoorA3
import Derived.Test.YtmgbbgffkakcaaaGreatDoorS4
import Derived.Test.YtmgbbgffkakcaaaGreatDoorA5
import Derived.Test.YtmgbbgffkakcaaaGreatDoorA6
import Derived.Test.YtmgbbgffkakcaaaGreatDoorK6
namespace Go.Proofs.YtmgbbgffkakcaaaGreatDoor
open Go.RowKit
set_option linter.unusedVariables false
set_option linter.unusedSimpArgs false
set_option maxRecDepth 100000
set_option maxHeartbeats 16000000
section
theorem qDRkU0 {p:Prop} (h:p:=by
 clear hK K
 try simp only [Act.put,List.setIfInBounds_toArray,List.set_cons_zero,List.set_cons_succ]
 refine rdy (rdc 11 34 (fun K hK=>?_) .nil)
 refine wp_append_ints rfl (.tmp 28) (.tmp 33) _ rfl EI (HOwn.out.quiet HqA.out) rfl ((hsrc.out wr).quiet (Only.refl [] _).drew) rfl hby.out (Nat.le_trans (hba.out (.cells #[.int .i64 x] 3)) (Nat.le_refl _)) (fun v1 w3 hown1 ho1=>?_)
 obtain ⟨g1,cap1,hv1,_,_⟩:=hown1.form (by simp)
 have HO1:=lh hown1
 have HA1:=lh ho1
 have hr3:w3.heap[G]?=some (.cells vs.toArray 22 (0,0)):=HA1.out.only.rowAt (HqA.out.rowAt HRow.out (by simp)) (fun hm=>by have:=HFk.out G (by simpa using hm);omega)
 have cx3:w3.cell? ⟨G,kk,none⟩=some vk:=(by rw [cell_of_row _ _ _ _ _ _ hr3,← cell_of_row _ _ _ _ _ _ HRow.out];exact cv)
 have fx3:=frozen_of_row w3 G kk _ _ hr3
 have HR3:=lh hr3
 have c03:=HA1.out.only.cell c0d (fun hm=>by have h1:=HFk.out _ (by simpa using hm);have h2:=Hlb.out;have h3:=HG.out;omega)
 clear hown1 ho1 hr3
 obtain ⟨N1,hN1⟩:∃ z,z=(qPre b kk k ++ [x]).length:=⟨_,rfl⟩
 rw [← hN1] at hv1
 subst hv1
 clear hN1
 have c04:(w3.setCell ⟨G,kk,none⟩ (.slice (some ⟨g1,0,none⟩) N1 cap1)).cell? ⟨lb,off+k,none⟩=some (.int .i64 x):=((Only.refl [G] w3).setCell (by simp) _).cell c03 (by rw [mSg];simp only;have h2:=Hlb.out;have h3:=HG.out;omega)
 refine hK.out _ _ ?_ (fun hHeld=>?_)
 ·exact c03
 clear hK K
 try simp only [Act.put,List.setIfInBounds_toArray,List.set_cons_zero,List.set_cons_succ]
 refine tk 12 35 ?_
 refine rdy (rdn 13 (fun K hK=>?_) .nil)
 go_simp
 refine hK.out _ _ ?_ (fun hHeld=>?_)
 ·exact c04
 clear hK K
 try simp only [Act.put,List.setIfInBounds_toArray,List.set_cons_zero,List.set_cons_succ]
 refine wpAnyH_done (by kernel_rfl) ?_ _
 go_wp2_with fail
 have hset:=heap_setCell_same w3 G kk _ _ (.slice (some ⟨g1,0,none⟩) N1 cap1) HR3.out
 rw [List.setIfInBounds_toArray] at hset
 have hso:Only [G] w3 (w3.setCell ⟨G,kk,none⟩ (.slice (some ⟨g1,0,none⟩) N1 cap1)):=(Only.refl _ _).setCell (by simp) _
 have hA:Acc (vs.getD kk nilS) ((wr.alloc (.cells #[.int .i64 x] 3)).drew) (.slice (some ⟨g1,0,none⟩) N1 cap1) w3:=by rw [← Hvk.out];exact HA1.out
 have hgrow:=((HFour.out.quiet HqA.out).grow (L':=fun j=>qPre b j (k+1)) hk4 hA (by rw [HM1.out];exact HO1.out) (fun j hj hne=>HM2.out j hj hne)).out hso (by omega)
 refine ⟨⟨k+1,vs.set kk (.slice (some ⟨g1,0,none⟩) N1 cap1),by omega,by go_num,lh hset,lh hgrow,lh (fun j=>?_),lh ?_⟩,by simp [intOf];omega⟩
 ·by_cases hjk:j=kk
  ·subst hjk
   rw [getD_set_self (by rw [Hvl.out];exact hk4)]
   exact HA1.out.from_ HFk.out (hba.out _)
  ·rw [getD_set_ne hjk];exact HFrom.out j
 ·exact (HQk.out.trans (HqA.out.trans HA1.out.only (U:=vk.ownBlock.toList) (by simp) (fun g h _=>h)) (U:=[G]) (fun _ h _=>h) (fun g hg hlt=>by have h1:=HFk.out g (by simpa using hg);have h2:=HZ0.out;omega)).trans hso (fun _ h _=>h) (fun _ h _=>h)):p:=h
theorem kquarter_any {lo hi:Nat} {bv:Value} {b:List Int} {w:World} (h:Ints .i64 lo hi w bv b) (lb:b.length=64) :
  Calls Tryz.prog 158 #[bv] w fun e w'=>∃ vs,e=.returned (.tuple #[.slice (some ⟨w.heap.size+1,0,none⟩) 4 4,.agg #[.int .i64 0,.slice none 0 0]])∧w'.heap[w.heap.size+1]?=some (.cells vs.toArray 22 (0,0))∧Four (w.heap.size+1+1) w' vs (fun j=>quarterE b j)∧Only [] w w':=by
 refine hidQ fun Q HPost=>?_
 have hI:=h.2
 have HIn:=lh (fun k:Nat=>(by
  by_cases hk:k<b.length
  ·exact h.2 _ (by rw [List.getD_eq_getElem?_getD,List.getElem?_eq_getElem hk];exact List.getElem_mem _)
  ·rw [List.getD_eq_getElem?_getD,List.getElem?_eq_none (by omega)];simp [InK]:InK .i64 (b.getD k 0)))
 obtain ⟨la,lcap,rfl,-,-,hat,hcell⟩:=h.open
 rw [lb] at hat hcell ⊢
 have Hat:=lh hat
 have Hcell:=lh hcell
 have HMore:=lh (qPre_more b)
 have HLen:=lh (qPre_len b)
 have HAll:=lh (fun j (h:j<4)=>qPre_all b h)
 have hz:(w.alloc (.cells #[.int .i64 0,.slice none 0 0] 39)).heap.size=w.heap.size+1:=by simp
 have hmk:(Instr.makeSlice 211 (.int .i64 4) (.int .i64 4)).run Tryz.prog (w.alloc (.cells #[.int .i64 0,.slice none 0 0] 39))=.ok (.slice (some ⟨(w.alloc (.cells #[.int .i64 0,.slice none 0 0] 39)).heap.size,0,none⟩) 4 4) ((w.alloc (.cells #[.int .i64 0,.slice none 0 0] 39)).alloc (.cells (madeCells #[.slice none 0 0] 4) 22)):=run_make_row' (P:=Tryz.prog) 211 22 (.slice none 0 0) 24 Tryz.underlying211 (by kernel_rfl) rfl .i64 .i64 4 (by omega) (by omega) (w.alloc (.cells #[.int .i64 0,.slice none 0 0] 39))
 have hm4:madeCells #[.slice none 0 0] 4=[nilS,nilS,nilS,nilS].toArray:=by kernel_rfl
 have HRow0:=lh (heap_alloc_new (w.alloc (.cells #[.int .i64 0,.slice none 0 0] 39)) (.cells (madeCells #[.slice none 0 0] 4) 22))
 rw [hm4] at hmk HRow0
 rw [hz] at hmk HRow0
 have HE0:Hid (((w.alloc (.cells #[.int .i64 0,.slice none 0 0] 39)).alloc (.cells [nilS,nilS,nilS,nilS].toArray 22)).heap[w.heap.size]?=some (.cells #[.int .i64 0,.slice none 0 0] 39 (0,0))):=lh ((Only.new (w.alloc (.cells #[.int .i64 0,.slice none 0 0] 39)) _).row (heap_alloc_new w _))
 have HQ0:=lh ((Only.new w (.cells #[.int .i64 0,.slice none 0 0] 39)).q (Only.new (w.alloc (.cells #[.int .i64 0,.slice none 0 0] 39)) (.cells [nilS,nilS,nilS,nilS].toArray 22)))
 have HZ0:Hid (((w.alloc (.cells #[.int .i64 0,.slice none 0 0] 39)).alloc (.cells [nilS,nilS,nilS,nilS].toArray 22)).heap.size=w.heap.size+1+1):=lh (by simp)
 clear h lb hI hat hcell hm4 hz
 go_enter Tryz.func158,Tryz.ntmps158
 go_wp2_with fail
 clear hmk
 generalize hW1:World.alloc (World.alloc w _) _=W1 at *
 clear hW1
 obtain ⟨G,hG⟩:∃ z,z=w.heap.size+1:=⟨_,rfl⟩
 rw [← hG] at HRow0 HZ0 HPost ⊢
 have HG:=lh hG
 clear hG
 go_loopw [5,6] (fun i _ wr=>∃ (k:Nat) (vs:List Value),k≤64∧i=.int .i64 k∧Hid (wr.heap[G]?=some (.cells vs.toArray 22 (0,0)))∧Hid (Four (G+1) wr vs (fun j=>qPre b j k))∧Hid (∀ j,From (G+1) (vs.getD j nilS))∧Hid (Only [G] W1 wr)) (fun i _ _=>64-(intOf i).toNat)
 case atStart=>exact ⟨0,[nilS,nilS,nilS,nilS],by omega,rfl,lh HRow0.out,lh ⟨rfl,fun j hj=>(by match j,hj with
  | 0,_=>exact Own.nil _ _ _ _
  | 1,_=>exact Own.nil _ _ _ _
  | 2,_=>exact Own.nil _ _ _ _
  | 3,_=>exact Own.nil _ _ _ _),fun i j hi hj hij g hg=>(by match i,hi with
  | 0,_=>simp [Value.ownBlock] at hg
  | 1,_=>simp [Value.ownBlock] at hg
  | 2,_=>simp [Value.ownBlock] at hg
  | 3,_=>simp [Value.ownBlock] at hg)⟩,lh (fun j=>(by match j with
  | 0=>exact From.nil _
  | 1=>exact From.nil _
  | 2=>exact From.nil _
  | 3=>exact From.nil _
  | (n+4)=>exact From.nil _)),lh (Only.refl _ _)⟩
 case round =>
  obtain ⟨k,vs,hk,rfl,HRow,HFour,HFrom,HQk⟩:=hrel
  by_cases hlt:k<64
  ·have hki:(k:Int)<64:=by omega
   have hk0:(0:Int)≤(k:Int):=by omega
   obtain ⟨lb,off,rfl,-,-⟩:=Hat.out k hlt
   have c1:=Hcell.out lb off rfl k hlt
   have hlb:=block_lt_of_cell c1
   have c0:=HQk.out.cell (HQ0.out.cell c1 (by simp)) (by rw [mSg];simp only;simp only at hlb;have:=HG.out;omega)
   have HK4:Hid (qIdx k<4):=lh (by unfold qIdx;omega)
   obtain ⟨kk,hkk⟩:∃ z,z=qIdx k:=⟨_,rfl⟩
   have d1:(k:Int).tdiv 32=((k / 32:Nat):Int):=by rw [Int.tdiv_eq_ediv_of_nonneg hk0];rfl
   have d2:(k:Int).tmod 8=((k % 8:Nat):Int):=by rw [Int.tmod_eq_emod_of_nonneg hk0];rfl
   have d3:((k % 8:Nat):Int).tdiv 4=((k % 8 / 4:Nat):Int):=by rw [Int.tdiv_eq_ediv_of_nonneg (by omega)];rfl
   have d4:IntKind.i64.wrap ((k / 32:Nat):Int)=((k / 32:Nat):Int):=by rw [IntKind.wrap_i64];omega
   have d5:IntKind.i64.wrap (((k / 32:Nat):Int)*2)=((k / 32:Nat):Int)*2:=by rw [IntKind.wrap_i64];omega
   have d6:IntKind.i64.wrap ((k % 8 / 4:Nat):Int)=((k % 8 / 4:Nat):Int):=by rw [IntKind.wrap_i64];omega
   have d7:IntKind.i64.wrap (((k / 32:Nat):Int)*2+((k % 8 / 4:Nat):Int))=(kk:Int):=by rw [hkk,IntKind.wrap_i64];unfold qIdx;omega
   generalize ((k / 32:Nat):Int)=D1 at *
   generalize ((k % 8:Nat):Int)=D2 at *
   generalize ((k % 8 / 4:Nat):Int)=D3 at *
   rw [← hkk] at HK4
   have hk4:kk<4:=HK4.out
   have hk4i:(kk:Int)<4:=by omega
   have hk4j:(0:Int)≤(kk:Int):=by omega
   have hvl:=HFour.out.len
   have cv:wr.cell? ⟨G,kk,none⟩=some (vs.getD kk nilS):=by
    rw [cell_of_row _ _ _ _ _ _ HRow.out,List.getElem?_toArray,List.getD_eq_getElem?_getD,List.getElem?_eq_getElem (by omega)];rfl
   have HOwn:=lh (HFour.out.own kk hk4)
   have HFk:=lh (HFrom.out kk)
   have hx:=HIn.out k
   have HM1:Hid (qPre b kk (k+1)=qPre b kk k ++ [b.getD k 0]):=lh (by rw [HMore.out,if_pos hkk.symm])
   have HM2:Hid (∀ j,j<4→j≠kk→qPre b j (k+1)=qPre b j k):=lh (fun j hj hne=>by rw [HMore.out,if_neg (fun e=>hne (by rw [hkk,e]))])
   generalize b.getD k 0=x at *
   have hin:∀ y∈[x],InK .i64 y:=by simp only [mSg,forall_eq];exact hx
   have hsrc:=lh (fun (W:World)=>ints_newG (k:=.i64) (w:=W) (t:=3) (l:=[x]) rfl (by simp [maxLen]) hin 1 rfl rfl)
   have hby:=lh (show ((qPre b kk k).length+[x].length)*8≤140737488355328 by have:=HLen.out kk k;simp;omega)
   have hba:=lh (fun (o:Obj)=>(show G+1≤(wr.alloc o).heap.size by have:=HQk.out.size;have:=HZ0.out;simp;omega))
   have Hvl:=lh hvl
   have HCv:=lh cv
   obtain ⟨vk,hvk⟩:∃ z,z=vs.getD kk nilS:=⟨_,rfl⟩
   rw [← hvk] at cv HOwn HFk
   have Hvk:=lh hvk
   have Hlb:Hid (lb<w.heap.size):=lh hlb
   clear hin hx hvl hlb c1 hkk hvk
   have HqA:=lh ((Only.new wr (.cells #[.int .i64 x] 3)).drew)
   have c0d:=HqA.out.cell c0 (by simp)
   have cvd:=HqA.out.cell cv (by simp)
   go_upto_region 8 with (fail)
   refine wp_region_held_drew (S:=(fun w'=>w'.cell? ⟨lb,off+k,none⟩=some (.int .i64 x))) (by kernel_rfl) ?_ (fun hHeld=>?_)
   ·exact c0
   refine tk 0 23 ?_
   refine tk 1 24 ?_
   refine tk 2 25 ?_
   refine tk 3 26 ?_
   refine tk 4 27 ?_
   refine tk 6 29 ?_
   refine tk 7 30 ?_
   refine tk 8 31 ?_
   refine tk 9 32 ?_
   refine rdy (rdc 5 28 (fun K hK=>?_) (rdc 10 33 (fun K hK=>?_) .nil))
   ·go_simp
    refine hK.out _ _ ?_ (fun hHeld=>?_)
    ·first | exact c0 | exact c0d
    clear hK K
    try simp only [Act.put,List.setIfInBounds_toArray,List.set_cons_zero,List.set_cons_succ]
    refine rdy (rdc 10 33 (fun K hK=>?_) .nil)
    go_simp
    refine hK.out _ _ ?_ (fun hHeld=>?_)
    ·exact c0d
    exact qDRkU0
   ·go_simp
    refine hK.out _ _ ?_ (fun hHeld=>?_)
    ·exact c0d
    clear hK K
    try simp only [Act.put,List.setIfInBounds_toArray,List.set_cons_zero,List.set_cons_succ]
    refine rdy (rdc 5 28 (fun K hK=>?_) .nil)
    go_simp
    refine hK.out _ _ ?_ (fun hHeld=>?_)
    ·first | exact c0 | exact c0d
    exact qDRkU0
  ·obtain rfl:k=64:=by omega
   have hki:¬ ((64:Nat):Int)<64:=by omega
   have hre:=HQk.out.rowAt HE0.out (by rw [mSg];have:=HG.out;omega)
   obtain ⟨z0,z1,y0,y1,-⟩:=row2 hre
   obtain ⟨hrow,hon⟩:=row2_set (x:=.int .i64 0) (y:=.slice none 0 0) hre
   go_wp2_with fail
   refine bodyPost_ret (results_tmp_cell Tryz.results158 _ _ w.heap.size _ _ _ _ _ rfl rfl hrow Tryz.underlying39 rfl (err_info _ rfl)) rfl (HPost.out _ _ ⟨vs,rfl,hon.rowAt HRow.out (by rw [mSg];have:=HG.out;omega),?_,?_⟩)
   ·have hf:=HFour.out.out hon (by have:=HG.out;omega)
    refine ⟨hf.len,fun j hj=>?_,hf.apart⟩
    rw [← HAll.out j hj]
    exact hf.own j hj
   ·exact (HQ0.out.trans HQk.out (U:=[]) (by simp) (fun g hg hlt=>by rw [mSg] at hg;have:=HG.out;omega)).trans hon (by simp) (fun g hg hlt=>by rw [mSg] at hg;omega)
end
section
theorem layD_len {f:FrameD} (h:FrOk f) {x y:Int} {n:Nat} (hx:0≤x) (hxn:x+n≤f.W) (hy:0≤y) (hyn:y+n≤f.H) {b:List Int} (hb:b.length=n*n) (hs:SamOk b):(layD f x y n b).pix.length=f.pix.length:=by
 have h1:=(layD_ok h hx hxn hy hyn hb hs).len
 have h2:=h.len
 have h3:(layD f x y n b).W=f.W:=rfl
 have h4:(layD f x y n b).H=f.H:=rfl
 rw [h3,h4] at h1
 omega
theorem FrOk.pos {f:FrameD} (hok:FrOk f):0<f.pix.length∧f.pix.length≤1000000:=by
 have e1:=hok.len
 have e2:=hok.w0
 have e3:=hok.h0
 have e4:=hok.w1
 have e5:=hok.h1
 have e6:8*8≤f.W*f.H:=Int.mul_le_mul e2 e3 (by omega) (by omega)
 have e7:f.W*f.H≤32*32:=Int.mul_le_mul e4 e5 (by omega) (by omega)
 omega
theorem kput21_4 {lo hi lo' hi':Nat} {pv bv:Value} {w:World} {f:FrameD} {x y:Int} {b:List Int} (hok:FrOk f) (h:Ints .i64 lo hi w pv f.pix) (hb:Ints .i64 lo' hi' w bv b) (hbl:b.length=16) (hbs:SamOk b) (hx:0≤x) (hxn:x+4≤f.W) (hy:0≤y) (hyn:y+4≤f.H):Calls Tryz.prog 116 #[.agg #[.int .i64 f.W,.int .i64 f.H,pv],.int .i64 x,.int .i64 y,.int .i64 4,bv] w fun e w'=>(∃ v',e=.returned (.agg #[.int .i64 f.W,.int .i64 f.H,v'])∧Own .i64 3 w.heap.size w' v' (layD f x y 4 b).pix∧Only [] w w'):=by
 refine hidQ fun Q HPost=>?_
 obtain ⟨a,cap,rfl,-⟩:=h.open
 obtain ⟨hq1,HR1,HR2,Hz1⟩:=boxes2 w (.cells #[.int .i64 f.W,.int .i64 f.H,.slice a f.pix.length cap] 24) (.cells #[.int .i64 0,.int .i64 0,.slice none 0 0] 24)
 have HPu:=lh (fun (W:World) (o:Only [] w W)=>kput4_any hok (h.quiet o) (hb.quiet o) hbl hbs hx hxn hy hyn)
 have HLn:Hid ((layD f x y 4 b).pix.length=f.pix.length∧0<f.pix.length):=lh ⟨layD_len (n:=4) hok hx hxn hy hyn hbl hbs,hok.pos.1⟩
 have HQ1:=lh hq1
 obtain ⟨ba,bcap,rfl,-⟩:=hb.open
 clear h hb hbl hbs hok hx hxn hy hyn hq1
 generalize (layD f x y 4 b).pix=LP at *
 go_enter Tryz.func116,Tryz.ntmps116
 go_wp2_with fail
 generalize hW1:World.alloc (World.alloc w _) _=W1 at *
 clear hW1
 go_at_call 169
 refine (HPu.out W1 HQ1.out).mono ?_
 rintro e w2 ⟨v2,rfl,hown,hq2⟩
 obtain ⟨g,gcap,rfl,hg1,hg2⟩:=hown.form (by have:=HLn.out;omega)
 rw [HLn.out.1] at hown ⊢
 have hn:=(Only.new w2 (.cells #[.int .i64 f.W,.int .i64 f.H,.slice (some ⟨g,0,none⟩) f.pix.length gcap] 24)).q (Only.new _ (.cells #[.int .i64 0,.slice none 0 0] 39))
 have HR3:=lh ((hq2.q hn).row HR2.out)
 obtain ⟨z0,z1,z2⟩:=frame_cells HR3.out
 have fz0:=frozen_of_row _ _ 0 _ _ HR3.out
 have fz1:=frozen_of_row _ _ 1 _ _ HR3.out
 have fz2:=frozen_of_row _ _ 2 _ _ HR3.out
 obtain ⟨hrow,hon⟩:=row3_set (x:=.int .i64 f.W) (y:=.int .i64 f.H) (z:=.slice (some ⟨g,0,none⟩) f.pix.length gcap) HR3.out
 have HO3:=lh (hown.quiet hn)
 have HQ3:=lh (HQ1.out.q (hq2.q hn))
 have Hrow:=lh hrow
 have Hon:=lh hon
 have Hg:=lh hg1
 clear hown hq2 hn hg1 hg2 hrow hon
 go_wp2_with fail
 refine bodyPost_ret (v:=.agg #[.int .i64 f.W,.int .i64 f.H,.slice (some ⟨g,0,none⟩) f.pix.length gcap]) (results_cell_row Tryz.results116 _ _ (w.heap.size+1) _ _ _ _ rfl Hrow.out Tryz.underlying24 rfl (by kernel_rfl)) rfl (HPost.out _ _ ⟨_,rfl,?_,?_⟩)
 ·exact (HO3.out.only Hon.out (fun x hx hh=>by rw [mSg] at hx;subst hx;simp only [Value.ownBlock] at hh;injection hh with hh;have:=Hg.out;have:=Hz1.out;omega)).lower HQ1.out.size
 ·exact HQ3.out.trans Hon.out (U:=[]) (by simp) (fun x hx hlt=>by rw [mSg] at hx;omega)
end
section
theorem clipK_in (p r:List Int):SamOk (clipK p r):=by
 intro x hx
 unfold clipK at hx
 obtain ⟨i,hi,rfl⟩:=List.mem_iff_getElem.1 hx
 rw [List.getElem_zipWith]
 exact clipD_in _
end
section
theorem ksq_info {k mo:Int} {ms:List Int} {vx vy:Int} {lv:Value} {vs:List Value} (hm:ms.length=4) (hv:vs.length=4):(Tryz.prog.info? 68).map (·.size)=some (sqL k mo ms vx vy lv vs).toArray.size:=by
 rw [show (sqL k mo ms vx vy lv vs).toArray.size=13 from sqL_size hm hv];kernel_rfl
theorem qDRkSm0 {p:Prop} (h:p:=by
 clear hK K
 try simp only [Act.put,List.setIfInBounds_toArray,List.set_cons_zero,List.set_cons_succ]
 refine rdy (rdc 11 104 (fun K hK=>?_) .nil)
 go_simp
 go_at_call 116
 refine (HPu.out _ (by first | exact o10.out | exact o10.out.drew) _ _ _ (by first | exact HC10.out | exact HC10.out.quiet (Only.refl _ _).drew)).mono ?_
 rintro e v11 ⟨nv,rfl,hop,hq⟩
 have o11:=lh (o10.out.q (by first | exact hq | exact (Only.refl _ _).drew.q hq):Only [] W12 v11)
 obtain ⟨gn,cn,rfl,hgn,-⟩:=hop.form HNp.out
 have HN11:=lh hop
 have HGn:=lh (Nat.le_trans o10.out.size (by first | exact hgn | (simpa using hgn)):W12.heap.size≤gn)
 have hfr:=o11.out.row HF12.out
 obtain ⟨z0,z1,z2⟩:=frame_cells hfr
 have y0:=frozen_of_row v11 w.heap.size 0 _ _ hfr
 have y1:=frozen_of_row v11 w.heap.size 1 _ _ hfr
 have y2:=frozen_of_row v11 w.heap.size 2 _ _ hfr
 obtain ⟨hset,hons⟩:=row3_set (x:=.int .i64 f.W) (y:=.int .i64 f.H) (z:=.slice (some ⟨gn,0,none⟩) NP.pix.length cn) hfr
 have cL11:=o11.out.cell cL (by simp)
 have cL12:=hons.cell cL11 (by rw [mSg];exact HNe.out)
 have HSet:=lh hset
 have HOns:=lh hons
 clear hop hq hfr hset hons hgn
 refine hK.out _ _ ?_ (fun hHeld=>?_)
 ·exact cL11
 clear hK K
 try simp only [Act.put,List.setIfInBounds_toArray,List.set_cons_zero,List.set_cons_succ]
 refine rdy (rdn 12 (fun K hK=>?_) .nil)
 go_simp
 refine hK.out _ _ ?_ (fun hHeld=>?_)
 ·exact cL12
 clear hK K
 try simp only [Act.put,List.setIfInBounds_toArray,List.set_cons_zero,List.set_cons_succ]
 refine wpAnyH_done (by kernel_rfl) ?_ _
 go_wp2_with fail
 have hAll:Only [w.heap.size,BS] wr _:=((HQ12.out.mono (U:=[w.heap.size,BS]) (fun g h _=>by rw [mSg] at h;subst h;simp)).trans (o11.out.mono (U:=[w.heap.size,BS]) (by simp)) (U:=[w.heap.size,BS]) (fun _ h _=>h) (fun _ h _=>h)).trans HOns.out (U:=[w.heap.size,BS]) (fun _ h _=>h) (fun g h _=>by rw [mSg] at h;subst h;simp)
 have z5:=HQ12.out.size
 have z6:=o11.out.size
 have z7:=HOns.out.size
 have z8:=HQk.out.size
 have z9:=HZ6.out
 have z10:=o10.out.size
 have z11:=HLl.out
 have z12:=HWs.out
 have hsr:=HOns.out.rowAt (o11.out.row HS12.out) (by rw [mSg];omega)
 refine ⟨⟨k+1,NP.pix,ms.set k bm,vs.set k (.slice (some ⟨gL,0,none⟩) 16 capL),ls ++ [L],c+4*bs,.slice (some ⟨gn,0,none⟩) NP.pix.length cn,W12.heap.size,_,by omega,by go_num,rfl,HFr,lh HSet.out,lh ⟨(HN11.out.ints.only HOns.out (fun g hg=>by rw [mSg] at hg;omega)).mono ?_ (Nat.le_refl _),.inr (by omega),by omega⟩,lh hsr,lh ⟨by rw [List.length_set];exact Hln.out.1,by rw [List.length_set];exact Hln.out.2.1,by rw [List.length_append,Hln.out.2.2];rfl⟩,lh (fun j hj=>?_),lh ?_,lh ?_,lh (HQk.out.trans hAll (fun _ h _=>h) (fun _ h _=>h))⟩,by simp [intOf];omega⟩
 ·exact Nat.le_trans (Nat.le_refl _) (by first | exact o10.out.size | exact o10.out.drew.size)
 ·by_cases hjk:j=k
  ·subst hjk
   have e2:(ls ++ [L]).getD j []=L:=by
    rw [List.getD_eq_getElem?_getD,List.getElem?_append_right (by rw [Hln.out.2.2];exact Nat.le_refl _),Hln.out.2.2,Nat.sub_self];rfl
   rw [getD_set_self (by have:=Hln.out.2.1;omega),e2]
   exact ((HL12.out.quiet o11.out).only HOns.out (fun g hg=>by rw [mSg] at hg;omega)).mono (by have:=HLl.out;omega) (by omega)
  ·have hjl:j<k:=by omega
   have e2:(ls ++ [L]).getD j []=ls.getD j []:=by
    rw [List.getD_eq_getElem?_getD,List.getElem?_append_left (by rw [Hln.out.2.2];exact hjl),← List.getD_eq_getElem?_getD]
   rw [getD_set_ne hjk,e2]
   exact ((Hins.out j hjl).only hAll (fun g hg=>by simp only [List.mem_cons,List.not_mem_nil,or_false] at hg;omega)).mono (Nat.le_refl _) hAll.size
 ·rw [take_set4 Hln.out.1 hlt,← Hgo.out,HStep.out]
 ·have:=Hc.out;have:=HBs.out;omega):p:=h
theorem qDRkSm1 {p:Prop} (h:p:=by
 clear hK K
 try simp only [Act.put,List.setIfInBounds_toArray,List.set_cons_zero,List.set_cons_succ]
 refine rdy (rdc 10 103 (fun K hK=>?_) .nil)
 go_simp
 go_at_call 117
 refine (HCl.out _ (by first | exact o9.out | exact o9.out.drew) _ _ _ (by first | exact HR9.out | exact HR9.out.quiet (Only.refl _ _).drew) HAb.out).mono ?_
 rintro e v10 ⟨⟨cv,rfl,hoc⟩,hq⟩
 have o10:=lh (o9.out.q (by first | exact hq | exact (Only.refl _ _).drew.q hq):Only [] W12 v10)
 obtain ⟨gc,cc2,rfl,-,-⟩:=hoc.form (by rw [HCl2.out];omega)
 have HC10:=lh hoc.ints
 obtain ⟨a0',a1',a2'⟩:=frame_cells (o10.out.row HF12.out)
 clear hoc hq
 refine hK.out _ _ ?_ (fun hHeld=>?_)
 ·exact o10.out.cell cL (by simp)
 exact qDRkSm0):p:=h
theorem ksmall_any {q lo hi lo2 hi2:Nat} {pv bv:Value} {f:FrameD} {b:List Int} {w:World} (hok:FrOk f) (h:Ints .i64 lo hi w pv f.pix) (hhi:hi≤w.heap.size) (hb:Ints .i64 lo2 hi2 w bv b) (lb:b.length=64) (sb:SamOk b) (x y:Int) (hx:0≤x) (hxn:x+8≤f.W) (hy:0≤y) (hyn:y+8≤f.H) (hq:q≤15) :
  Calls Tryz.prog 109 #[bv,.agg #[.int .i64 f.W,.int .i64 f.H,pv],.int .i64 x,.int .i64 y,.int .i64 q] w fun e w'=>(∃ vs,e=.returned (.tuple #[.agg (sqL 3 0 (fourE f b x y q).1 0 0 nilS vs).toArray,.int .i64 (fourE f b x y q).2.2])∧(fourE f b x y q).1.length=4∧SqIn w.heap.size w'.heap.size w' nilS vs [] (fourE f b x y q).2.1∧Only [] w w'):=by
 refine hidQ fun Q HPost=>?_
 have hlen:=hok.len
 have hWW:=hok.w0
 have hHH:=hok.h0
 have hW1:=hok.w1
 have hH1:=hok.h1
 have HQu:=lh (fun (W:World) (o:Only [] w W)=>kquarter_any (hb.quiet o) lb)
 have HDk:=lh (fun (P:List Int) (hP:FrOk ⟨f.W,f.H,P⟩) (c:List Int) (lc:c.length=16) (sc:SamOk c) (ax ay:Int) (hx:0≤ax) (hxn:ax+4≤f.W) (hy:0≤ay) (hyn:ay+4≤f.H)=>(⟨oneL_ok (n:=4) (q:=q) (.inl rfl) hP.sam lc sc ax ay hq,oneD_ok hP (n:=4) hx hxn hy hyn (oneL_ok (n:=4) (q:=q) (.inl rfl) hP.sam lc sc ax ay hq).1 (by omega) ((bestAt ⟨f.W,f.H,P⟩ c ax ay 4).1:Int) (q:Int),bestAt_le _ _ _ _ _,bestAt_in hP.sam sc ax ay (n:=4) (.inl rfl) lc⟩:((oneL ⟨f.W,f.H,P⟩ c ax ay 4 q).length=16∧LevOk (oneL ⟨f.W,f.H,P⟩ c ax ay 4 q))∧FrOk (oneD ⟨f.W,f.H,P⟩ ax ay 4 ((bestAt ⟨f.W,f.H,P⟩ c ax ay 4).1:Int) (q:Int) (oneL ⟨f.W,f.H,P⟩ c ax ay 4 q))∧(bestAt ⟨f.W,f.H,P⟩ c ax ay 4).1≤3∧0≤(bestAt ⟨f.W,f.H,P⟩ c ax ay 4).2∧(bestAt ⟨f.W,f.H,P⟩ c ax ay 4).2≤16320))
 have HQs:=lh (fun j=>(⟨quarterE_len b j,quarterE_in sb j⟩:(quarterE b j).length=16∧SamOk (quarterE b j)))
 have HE:Hid (fourE f b x y q=fourGo b x y q 4 0 ⟨f.W,f.H,f.pix⟩ [] [] 24):=lh rfl
 have Hok:=lh hok
 have Hq:=lh hq
 have HP:=lh h
 have HHi:=lh hhi
 obtain ⟨pa,pc,rfl,-⟩:=h.open
 obtain ⟨qa,qc,rfl,-⟩:=hb.open
 rw [lb]
 rw [lb] at HQu
 obtain ⟨FE,hFE⟩:∃ z,z=fourE f b x y q:=⟨_,rfl⟩
 rw [← hFE] at HE HPost
 clear h hb lb sb hok hq hlen hFE hhi
 have HQ3:Hid (Only [] w (((w.alloc (.cells #[.int .i64 f.W,.int .i64 f.H,.slice pa f.pix.length pc] 24)).alloc (.cells #[.int .i64 0,.int .i64 0,.int .i64 0,.int .i64 0,.int .i64 0,.int .i64 0,.int .i64 0,.int .i64 0,.slice none 0 0,.slice none 0 0,.slice none 0 0,.slice none 0 0,.slice none 0 0] 68)).alloc (.cells (sqL 3 0 [0,0,0,0] 0 0 nilS [nilS,nilS,nilS,nilS]).toArray 68))):=lh (((Only.new w _).alloc _).alloc _)
 have HR0:Hid ((((w.alloc (.cells #[.int .i64 f.W,.int .i64 f.H,.slice pa f.pix.length pc] 24)).alloc (.cells #[.int .i64 0,.int .i64 0,.int .i64 0,.int .i64 0,.int .i64 0,.int .i64 0,.int .i64 0,.int .i64 0,.slice none 0 0,.slice none 0 0,.slice none 0 0,.slice none 0 0,.slice none 0 0] 68)).alloc (.cells (sqL 3 0 [0,0,0,0] 0 0 nilS [nilS,nilS,nilS,nilS]).toArray 68)).heap[w.heap.size]?=some (.cells #[.int .i64 f.W,.int .i64 f.H,.slice pa f.pix.length pc] 24 (0,0))):=lh (((Only.new (w.alloc _) _).alloc _).row (heap_alloc_new w _))
 have HR1:Hid ((((w.alloc (.cells #[.int .i64 f.W,.int .i64 f.H,.slice pa f.pix.length pc] 24)).alloc (.cells #[.int .i64 0,.int .i64 0,.int .i64 0,.int .i64 0,.int .i64 0,.int .i64 0,.int .i64 0,.int .i64 0,.slice none 0 0,.slice none 0 0,.slice none 0 0,.slice none 0 0,.slice none 0 0] 68)).alloc (.cells (sqL 3 0 [0,0,0,0] 0 0 nilS [nilS,nilS,nilS,nilS]).toArray 68)).heap[w.heap.size+1]?=some (.cells (sqL 0 0 [0,0,0,0] 0 0 nilS [nilS,nilS,nilS,nilS]).toArray 68 (0,0))):=lh ((Only.new ((w.alloc _).alloc _) _).row (heap_alloc_new' (by simp)))
 have HR2:Hid ((((w.alloc (.cells #[.int .i64 f.W,.int .i64 f.H,.slice pa f.pix.length pc] 24)).alloc (.cells #[.int .i64 0,.int .i64 0,.int .i64 0,.int .i64 0,.int .i64 0,.int .i64 0,.int .i64 0,.int .i64 0,.slice none 0 0,.slice none 0 0,.slice none 0 0,.slice none 0 0,.slice none 0 0] 68)).alloc (.cells (sqL 3 0 [0,0,0,0] 0 0 nilS [nilS,nilS,nilS,nilS]).toArray 68)).heap[w.heap.size+1+1]?=some (.cells (sqL 3 0 [0,0,0,0] 0 0 nilS [nilS,nilS,nilS,nilS]).toArray 68 (0,0))):=lh (heap_alloc_new' (by simp))
 have HZ3:Hid ((((w.alloc (.cells #[.int .i64 f.W,.int .i64 f.H,.slice pa f.pix.length pc] 24)).alloc (.cells #[.int .i64 0,.int .i64 0,.int .i64 0,.int .i64 0,.int .i64 0,.int .i64 0,.int .i64 0,.int .i64 0,.slice none 0 0,.slice none 0 0,.slice none 0 0,.slice none 0 0,.slice none 0 0] 68)).alloc (.cells (sqL 3 0 [0,0,0,0] 0 0 nilS [nilS,nilS,nilS,nilS]).toArray 68)).heap.size=w.heap.size+1+1+1):=lh (by simp)
 go_enter Tryz.func109,Tryz.ntmps109
 go_wp2_with fail
 have hw3:(((w.alloc (.cells #[.int .i64 f.W,.int .i64 f.H,.slice pa f.pix.length pc] 24)).alloc (.cells #[.int .i64 0,.int .i64 0,.int .i64 0,.int .i64 0,.int .i64 0,.int .i64 0,.int .i64 0,.int .i64 0,.slice none 0 0,.slice none 0 0,.slice none 0 0,.slice none 0 0,.slice none 0 0] 68)).alloc (.cells #[.int .i64 3,.int .i64 0,.int .i64 0,.int .i64 0,.int .i64 0,.int .i64 0,.int .i64 0,.int .i64 0,.slice none 0 0,.slice none 0 0,.slice none 0 0,.slice none 0 0,.slice none 0 0] 68))=(((w.alloc (.cells #[.int .i64 f.W,.int .i64 f.H,.slice pa f.pix.length pc] 24)).alloc (.cells #[.int .i64 0,.int .i64 0,.int .i64 0,.int .i64 0,.int .i64 0,.int .i64 0,.int .i64 0,.int .i64 0,.slice none 0 0,.slice none 0 0,.slice none 0 0,.slice none 0 0,.slice none 0 0] 68)).alloc (.cells (sqL 3 0 [0,0,0,0] 0 0 nilS [nilS,nilS,nilS,nilS]).toArray 68)):=rfl
 rw [hw3]
 clear hw3
 generalize hW3:World.alloc (World.alloc (World.alloc w _) _) _=W3 at *
 clear hW3
 obtain ⟨BS,hBS⟩:∃ z,z=w.heap.size+1+1:=⟨_,rfl⟩
 rw [← hBS] at HR2 HZ3 ⊢
 have HBS:=lh hBS
 clear hBS
 go_at_call 158
 refine (HQu.out W3 HQ3.out).mono ?_
 rintro e w5 ⟨qs,rfl,hqr,hqf,hq5⟩
 have hqn:=Only.new w5 (.cells #[.int .i64 0,.slice none 0 0] 39)
 obtain ⟨GQ,hGQ⟩:∃ z,z=W3.heap.size+1:=⟨_,rfl⟩
 rw [← hGQ] at hqr hqf ⊢
 have HGQ:=lh hGQ
 have HQA:=lh (hqn.row hqr)
 have HQI:=lh (fun j (hj:j<4)=>((hqf.own j hj).ints.quiet hqn:Ints .i64 (GQ+1) w5.heap.size _ (qs.getD j nilS) (quarterE b j)))
 have HQl:=lh hqf.len
 have HQ36:=lh (hq5.q hqn)
 have HZ5:Hid (W3.heap.size≤w5.heap.size):=lh hq5.size
 clear hqr hqf hq5 hqn hGQ HQu
 go_wp2_with fail
 generalize hW6:World.alloc w5 _=W6 at *
 clear hW6
 have HQ6:=lh (HQ3.out.q HQ36.out)
 have HZ6:Hid (w.heap.size<BS∧w.heap.size+1<BS∧BS<GQ∧GQ<W6.heap.size):=lh (by have:=HBS.out;have:=HZ3.out;have:=HGQ.out;have:=(Array.getElem?_eq_some_iff.1 HQA.out).1;omega)
 go_loopw [16,15,17,18,19,20,21,22,23,24,25,26] (fun i cv _ _ _ _ _ _ _ _ _ _ wr=>∃ (k:Nat) (P ms:List Int) (vs:List Value) (ls:List (List Int)) (c:Int) (fv:Value) (l1 h1:Nat),k≤4∧i=.int .i64 k∧cv=.int .i64 c∧Hid (FrOk ⟨f.W,f.H,P⟩)∧Hid (wr.heap[w.heap.size]?=some (.cells #[.int .i64 f.W,.int .i64 f.H,fv] 24 (0,0)))∧Hid (Ints .i64 l1 h1 wr fv P∧(h1≤w.heap.size∨BS<l1)∧h1≤wr.heap.size)∧Hid (wr.heap[BS]?=some (.cells (sqL 3 0 ms 0 0 nilS vs).toArray 68 (0,0)))∧Hid (ms.length=4∧vs.length=4∧ls.length=k)∧Hid (∀ j,j<k→Ints .i64 (BS+1) wr.heap.size wr (vs.getD j nilS) (ls.getD j []))∧Hid (fourGo b x y q (4-k) k ⟨f.W,f.H,P⟩ (ms.take k) ls c=FE)∧Hid (0≤c∧c≤24+70000*k)∧Hid (Only [w.heap.size,BS] W6 wr)) (fun i _ _ _ _ _ _ _ _ _ _ _ _=>4-(intOf i).toNat)
 case atStart=>exact ⟨0,f.pix,[0,0,0,0],[nilS,nilS,nilS,nilS],[],24,.slice pa f.pix.length pc,lo,hi,by omega,rfl,rfl,Hok,lh (HQ36.out.row HR0.out),lh ⟨HP.out.quiet HQ6.out,.inl HHi.out,by have:=HHi.out;have:=HQ6.out.size;omega⟩,lh (HQ36.out.row HR2.out),lh ⟨rfl,rfl,rfl⟩,lh (fun j hj=>absurd hj (by omega)),lh HE.out.symm,lh (by omega),lh (Only.refl _ _)⟩
 case round =>
  obtain ⟨k,P,ms,vs,ls,c,fv,l1,h1,hk,rfl,rfl,HPk,HFk,HIk,HSk,Hln,Hins,Hgo,Hc,HQk⟩:=hrel
  by_cases hlt:k<4
  ·have hki:(k:Int)<4:=by omega
   have hk0:(0:Int)≤(k:Int):=by omega
   obtain ⟨fa,fc,rfl,-⟩:=HIk.out.1.open
   obtain ⟨a0,a1,a2⟩:=frame_cells HFk.out
   have hqa:=HQk.out.rowAt HQA.out (by have:=HZ6.out;simp only [List.mem_cons,List.not_mem_nil,or_false];omega)
   have cq:wr.cell? ⟨GQ,k,none⟩=some (qs.getD k nilS):=by
    rw [cell_of_row _ _ _ _ _ _ hqa,List.getElem?_toArray,List.getD_eq_getElem?_getD,List.getElem?_eq_getElem (by have:=HQl.out;omega)];rfl
   have hqi:=(HQI.out k hlt).only HQk.out (fun g hg=>by have:=HZ6.out;simp only [List.mem_cons,List.not_mem_nil,or_false] at hg;omega)
   have hqs:=HQs.out k
   obtain ⟨ca,cc,hcv,-⟩:=hqi.open
   rw [hqs.1] at hcv
   rw [hcv] at cq hqi
   have HQi:=lh hqi
   have Hqs:=lh hqs
   have HCq:=lh cq
   clear hqa hqi hqs hcv
   have d1:(k:Int).tmod 2=((k % 2:Nat):Int):=by rw [Int.tmod_eq_emod_of_nonneg hk0];rfl
   have d2:(k:Int).tdiv 2=((k / 2:Nat):Int):=by rw [Int.tdiv_eq_ediv_of_nonneg hk0];rfl
   have d3:IntKind.i64.wrap (((k % 2:Nat):Int)*4)=((k % 2:Nat):Int)*4:=by rw [IntKind.wrap_i64];omega
   have d4:IntKind.i64.wrap ((k / 2:Nat):Int)=((k / 2:Nat):Int):=by rw [IntKind.wrap_i64];omega
   have d5:IntKind.i64.wrap (((k / 2:Nat):Int)*4)=((k / 2:Nat):Int)*4:=by rw [IntKind.wrap_i64];omega
   obtain ⟨AX,hAX⟩:∃ z,z=x+((k % 2:Nat):Int)*4:=⟨_,rfl⟩
   obtain ⟨AY,hAY⟩:∃ z,z=y+((k / 2:Nat):Int)*4:=⟨_,rfl⟩
   have bx:0≤AX∧AX+4≤f.W:=by omega
   have bY:0≤AY∧AY+4≤f.H:=by omega
   have d6:IntKind.i64.wrap (x+((k % 2:Nat):Int)*4)=AX:=by rw [← hAX,IntKind.wrap_i64];omega
   have d7:IntKind.i64.wrap (y+((k / 2:Nat):Int)*4)=AY:=by rw [← hAY,IntKind.wrap_i64];omega
   have HB:=lh (And.intro bx bY)
   have HStep:Hid (fourGo b x y q (4-k) k ⟨f.W,f.H,P⟩ (ms.take k) ls c=fourGo b x y q (4-(k+1)) (k+1) (oneD ⟨f.W,f.H,P⟩ AX AY 4 (bestAt ⟨f.W,f.H,P⟩ (quarterE b k) AX AY 4).1 q (oneL ⟨f.W,f.H,P⟩ (quarterE b k) AX AY 4 q)) (ms.take k ++ [((bestAt ⟨f.W,f.H,P⟩ (quarterE b k) AX AY 4).1:Int)]) (ls ++ [oneL ⟨f.W,f.H,P⟩ (quarterE b k) AX AY 4 q]) (c+4*(bestAt ⟨f.W,f.H,P⟩ (quarterE b k) AX AY 4).2)):=lh (by
    obtain ⟨k3,hk3⟩:∃ k3,4-k=k3+1:=⟨3-k,by omega⟩
    rw [hk3,show 4-(k+1)=k3 by omega,hAX,hAY]
    rfl)
   have hdk:=HDk.out P HPk.out (quarterE b k) Hqs.out.1 Hqs.out.2 AX AY bx.1 bx.2 bY.1 bY.2
   have HLev:=lh hdk.1
   have HFr:=lh hdk.2.1
   obtain ⟨hm3,hs0,hs1⟩:=hdk.2.2
   have HBs:=lh (And.intro hs0 hs1)
   have HEd:=lh (kedges_any (f:=⟨f.W,f.H,P⟩) HPk.out HIk.out.1 AX AY 4 (.inl rfl) bx.1 bx.2 bY.1 bY.2)
   have htl:=topD_len ⟨f.W,f.H,P⟩ AX AY 4
   have hll:=leftD_len ⟨f.W,f.H,P⟩ AX AY 4
   have hts:=topD_in HPk.out.sam AX AY 4
   have hls:=leftD_in HPk.out.sam AX AY 4
   have hcs:=sampleD_in HPk.out.sam (AX-1) (AY-1)
   have HBe:=lh (fun (W:World) (l1 h1 l2 h2 l3 h3:Nat) (v0 v1 v2:Value) (i0:Ints .i64 l3 h3 W v0 (quarterE b k)) (i1:Ints .i64 l1 h1 W v1 (topD ⟨f.W,f.H,P⟩ AX AY 4)) (i2:Ints .i64 l2 h2 W v2 (leftD ⟨f.W,f.H,P⟩ AX AY 4))=>kbest_any (n:=4) (.inl rfl) i0 i1 i2 Hqs.out.1 htl hll Hqs.out.2 hts hls hcs)
   rw [show bestE (quarterE b k) (topD ⟨f.W,f.H,P⟩ AX AY 4) (leftD ⟨f.W,f.H,P⟩ AX AY 4) (sampleD ⟨f.W,f.H,P⟩ (AX-1) (AY-1))=bestAt ⟨f.W,f.H,P⟩ (quarterE b k) AX AY 4 from rfl] at HBe
   have HPr:=lh (fun (W:World) (l1 h1 l2 h2:Nat) (v1 v2:Value) (i1:Ints .i64 l1 h1 W v1 (topD ⟨f.W,f.H,P⟩ AX AY 4)) (i2:Ints .i64 l2 h2 W v2 (leftD ⟨f.W,f.H,P⟩ AX AY 4))=>kpredict4_any i1 i2 htl hll hts hls hcs (mode:=((bestAt ⟨f.W,f.H,P⟩ (quarterE b k) AX AY 4).1:Int)) (by omega))
   rw [show predD ((bestAt ⟨f.W,f.H,P⟩ (quarterE b k) AX AY 4).1:Int) (topD ⟨f.W,f.H,P⟩ AX AY 4) (leftD ⟨f.W,f.H,P⟩ AX AY 4) (sampleD ⟨f.W,f.H,P⟩ (AX-1) (AY-1))=predE ⟨f.W,f.H,P⟩ AX AY 4 (bestAt ⟨f.W,f.H,P⟩ (quarterE b k) AX AY 4).1 from rfl] at HPr
   have hpo:=predE_ok HPk.out.sam AX AY (n:=4) (by omega) (bestAt ⟨f.W,f.H,P⟩ (quarterE b k) AX AY 4).1
   have HLv:=lh (fun (W:World) (l1 h1 l2 h2:Nat) (v0 v1:Value) (i0:Ints .i64 l2 h2 W v0 (quarterE b k)) (i1:Ints .i64 l1 h1 W v1 (predE ⟨f.W,f.H,P⟩ AX AY 4 (bestAt ⟨f.W,f.H,P⟩ (quarterE b k) AX AY 4).1))=>klev4_any i0 i1 Hqs.out.1 hpo.1 Hqs.out.2 hpo.2 q Hq.out)
   rw [show levelsE (quarterE b k) (predE ⟨f.W,f.H,P⟩ AX AY 4 (bestAt ⟨f.W,f.H,P⟩ (quarterE b k) AX AY 4).1) q=oneL ⟨f.W,f.H,P⟩ (quarterE b k) AX AY 4 q from rfl] at HLv
   have HOneD:Hid (oneD ⟨f.W,f.H,P⟩ AX AY 4 ((bestAt ⟨f.W,f.H,P⟩ (quarterE b k) AX AY 4).1:Int) q (oneL ⟨f.W,f.H,P⟩ (quarterE b k) AX AY 4 q)=layD ⟨f.W,f.H,P⟩ AX AY 4 (clipK (predE ⟨f.W,f.H,P⟩ AX AY 4 (bestAt ⟨f.W,f.H,P⟩ (quarterE b k) AX AY 4).1) (restD (oneL ⟨f.W,f.H,P⟩ (quarterE b k) AX AY 4 q) q))):=lh rfl
   have HPo:=lh hpo
   have HTl:=lh (And.intro htl hll)
   generalize hbe:bestAt ⟨f.W,f.H,P⟩ (quarterE b k) AX AY 4=BE at *
   obtain ⟨bm,bs⟩:=BE
   simp only at hm3 hs0 hs1 HStep HFr HBe HPr HLv HPo HOneD HBs
   generalize hL:oneL ⟨f.W,f.H,P⟩ (quarterE b k) AX AY 4 q=L at *
   generalize hPP:predE ⟨f.W,f.H,P⟩ AX AY 4 bm=PP at *
   obtain ⟨hc0,hc1⟩:=Hc.out
   have e1:IntKind.i64.wrap (4*bs)=4*bs:=by rw [IntKind.wrap_i64];omega
   have e2:IntKind.i64.wrap (c+4*bs)=c+4*bs:=by rw [IntKind.wrap_i64];omega
   have hbm0:(0:Int)≤(bm:Int):=by omega
   clear hdk bx bY hAX hAY hbe hL hPP hpo htl hll hts hls hcs
   generalize ((k % 2:Nat):Int)=D1 at *
   generalize ((k / 2:Nat):Int)=D2 at *
   go_wp2_with fail
   clear d1 d2 d3 d4 d5 d6 d7 a0 a1 a2
   go_at_call 106
   refine HEd.out.mono ?_
   rintro e w7 ⟨v1,v2,rfl,ho1,ho2,hq7⟩
   obtain ⟨gt,ct,rfl,-,-⟩:=ho1.form (by rw [HTl.out.1];omega)
   obtain ⟨gl,cl,rfl,-,-⟩:=ho2.form (by rw [HTl.out.2];omega)
   rw [HTl.out.1] at ho1 ⊢
   rw [HTl.out.2] at ho2 ⊢
   have HT7:=lh (And.intro ho1.ints ho2.ints)
   have HX7:=lh hq7
   have cq7:=hq7.cell cq (by simp)
   clear ho1 ho2 hq7 cq
   go_wp2_with fail
   clear cq7
   go_at_call 107
   refine (HBe.out w7 _ _ _ _ _ _ _ _ _ (HQi.out.quiet HX7.out) HT7.out.1 HT7.out.2).mono ?_
   rintro e w8 ⟨rfl,hq8⟩
   have hn9:=Only.new w8 (.cells #[.int .i64 0,.slice none 0 0] 39)
   have HX9:=lh (HX7.out.q (hq8.q hn9))
   have HT9:=lh (And.intro ((HT7.out.1.quiet hq8).quiet hn9) ((HT7.out.2.quiet hq8).quiet hn9))
   clear hq8 hn9
   go_wp2_with fail
   generalize hW9:World.alloc w8 _=W9 at *
   clear hW9
   go_at_call 108
   refine (HPr.out W9 _ _ _ _ _ _ HT9.out.1 HT9.out.2).mono ?_
   rintro e w10 ⟨⟨vp,rfl,hop⟩,hq10⟩
   obtain ⟨gp,cp,rfl,-,-⟩:=hop.form (by rw [HPo.out.1];omega)
   rw [HPo.out.1] at hop ⊢
   have hn11:=Only.new w10 (.cells #[.int .i64 0,.slice none 0 0] 39)
   have HX11:=lh (HX9.out.q (hq10.q hn11))
   have HP11:=lh (hop.ints.quiet hn11)
   clear hop hq10 hn11
   have hs11:=HX11.out.row HSk.out
   have x1:(w10.alloc (.cells #[.int .i64 0,.slice none 0 0] 39)).cell? ⟨BS,2+k,none⟩=some (.int .i64 (ms.getD k 0)):=by rw [cell_of_row _ _ _ _ _ _ hs11];exact sqL_mode Hln.out.1 hlt
   have y1:=frozen_of_row _ BS (2+k) _ _ hs11
   have hsA:=heap_setCell_same _ BS (2+k) _ _ (.int .i64 (bm:Int)) hs11
   rw [sqL_setMode Hln.out.1 hlt (bm:Int)] at hsA
   have hoA:Only [BS] (w10.alloc (.cells #[.int .i64 0,.slice none 0 0] 39)) ((w10.alloc (.cells #[.int .i64 0,.slice none 0 0] 39)).setCell ⟨BS,2+k,none⟩ (.int .i64 (bm:Int))):=(Only.refl _ _).setCell (by simp) _
   have hml:(ms.set k (bm:Int)).length=4:=by rw [List.length_set];exact Hln.out.1
   have cq11:=hoA.cell (HX11.out.cell HCq.out (by simp)) (by rw [mSg];have:=HZ6.out;simp only;omega)
   have HSA:=lh hsA
   have HOA:=lh (HX11.out.trans hoA (U:=[BS]) (by simp) (fun _ h _=>h))
   have HPA:=lh (HP11.out.only hoA (fun g hg=>by rw [mSg] at hg;have h1:=HX9.out.size;have h2:=HQk.out.size;have h3:=HZ6.out;omega))
   have HMl:=lh hml
   clear hs11 hsA hoA hml
   go_wp2_with fail
   clear x1 y1 cq11
   generalize hWA:World.setCell (World.alloc w10 _) _ _=WA at *
   clear hWA
   go_at_call 102
   refine (HLv.out WA _ _ _ _ _ _ (HQi.out.only HOA.out (fun g hg=>by rw [mSg] at hg;have:=HZ6.out;omega)) HPA.out).mono ?_
   rintro e w11 ⟨⟨lv,rfl,hol⟩,hq11⟩
   obtain ⟨gL,capL,rfl,hgL,-⟩:=hol.form (by rw [HLev.out.1];omega)
   rw [HLev.out.1] at hol ⊢
   have hs11:=hq11.row HSA.out
   have x2:w11.cell? ⟨BS,9+k,none⟩=some (vs.getD k nilS):=by rw [cell_of_row _ _ _ _ _ _ hs11];exact sqL_small HMl.out Hln.out.2.1 hlt
   have y2:=frozen_of_row _ BS (9+k) _ _ hs11
   have hsB:=heap_setCell_same _ BS (9+k) _ _ (.slice (some ⟨gL,0,none⟩) 16 capL) hs11
   rw [sqL_setSmall HMl.out Hln.out.2.1 hlt] at hsB
   have hoB:Only [BS] w11 (w11.setCell ⟨BS,9+k,none⟩ (.slice (some ⟨gL,0,none⟩) 16 capL)):=(Only.refl _ _).setCell (by simp) _
   have HS12:=lh hsB
   have HWs:=lh hoB.size
   have HQ12:=lh ((HOA.out.trans hq11 (U:=[BS]) (fun _ h _=>h) (by simp)).trans hoB (U:=[BS]) (fun _ h _=>h) (fun _ h _=>h))
   have z4:=HQk.out.size
   have z3:=HOA.out.size
   have z2:=HZ6.out
   have HL12:=lh (hol.ints.only hoB (fun g hg=>by rw [mSg] at hg;omega))
   have HLl:Hid (BS+1≤WA.heap.size):=lh (by omega)
   have HP12:=lh ((HPA.out.quiet hq11).only hoB (fun g hg=>by rw [mSg] at hg;have h1:=HX9.out.size;have h2:=HQk.out.size;have h3:=HZ6.out;omega))
   have HF12:=lh (HQ12.out.rowAt HFk.out (by rw [mSg];omega))
   clear hol hq11 hs11 hsB hoB hgL z4 z3 z2
   go_upto_region 14 with (fail)
   generalize hW12:World.setCell w11 _ _=W12 at *
   clear hW12 x2 y2
   have HI12:=lh (HIk.out.1.only HQ12.out (fun g hg=>by rw [mSg] at hg;have h1:=HIk.out.2.1;have h3:=HZ6.out;omega))
   have HRl:Hid ((restD L q).length=16):=lh (by rw [restD_len];exact HLev.out.1)
   have HCl2:Hid ((clipK PP (restD L q)).length=16):=lh (by rw [clipK_len (by rw [HPo.out.1,HRl.out])];exact HPo.out.1)
   have HRe:=lh (fun (W:World) (o:Only [] W12 W)=>krest_any (HL12.out.quiet o) (.inl HLev.out.1) HLev.out.2 q Hq.out)
   have HCl:=lh (fun (W:World) (o:Only [] W12 W) (l h:Nat) (v:Value) (hv:Ints .i64 l h W v (restD L q)) (hab:AbsLe 401080320 (restD L q))=>kclips_any (HP12.out.quiet o) hv (by rw [HPo.out.1,HRl.out]) (by rw [HPo.out.1];omega) HPo.out.2 hab)
   have HPu:=lh (fun (W:World) (o:Only [] W12 W) (l h:Nat) (v:Value) (hv:Ints .i64 l h W v (clipK PP (restD L q)))=>kput21_4 (f:=⟨f.W,f.H,P⟩) HPk.out (HI12.out.quiet o) hv HCl2.out (clipK_in _ _) HB.out.1.1 HB.out.1.2 HB.out.2.1 HB.out.2.2)
   rw [HOneD.out] at HStep HFr
   have HNq:Hid ((⟨f.W,f.H,(layD ⟨f.W,f.H,P⟩ AX AY 4 (clipK PP (restD L q))).pix⟩:FrameD)=(layD ⟨f.W,f.H,P⟩ AX AY 4 (clipK PP (restD L q)))):=lh rfl
   generalize (layD ⟨f.W,f.H,P⟩ AX AY 4 (clipK PP (restD L q)))=NP at *
   rw [← HNq.out] at HFr HStep
   have HNp:Hid (0<NP.pix.length):=lh (by have h1:=HFr.out.len;simp only at h1;have h2:8*8≤f.W*f.H:=Int.mul_le_mul (by omega) (by omega) (by omega) (by omega);omega)
   have HNe:Hid (¬ BS=w.heap.size):=lh (by have:=HZ6.out;omega)
   have cL:W12.cell? ⟨BS,9+k,none⟩=some (.slice (some ⟨gL,0,none⟩) 16 capL):=by rw [cell_of_row _ _ _ _ _ _ HS12.out];exact (sqL_small HMl.out (by rw [List.length_set];exact Hln.out.2.1) hlt).trans (by rw [getD_set_self (by rw [Hln.out.2.1];exact hlt)])
   obtain ⟨a0,a1,a2⟩:=frame_cells HF12.out
   refine wp_region_held_drew (S:=(fun w'=>w'.cell? ⟨BS,9+k,none⟩=some (.slice (some ⟨gL,0,none⟩) 16 capL))) (by kernel_rfl) ?_ (fun hHeld=>?_)
   ·exact cL
   refine tk 1 94 ?_
   refine tk 2 95 ?_
   refine tk 3 96 ?_
   refine tk 4 97 ?_
   refine tk 5 98 ?_
   refine tk 6 99 ?_
   refine tk 7 100 ?_
   refine tk 8 101 ?_
   refine rdy (rdc 0 93 (fun K hK=>?_) (rdc 9 102 (fun K hK=>?_) .nil))
   ·go_simp
    refine hK.out _ _ ?_ (fun hHeld=>?_)
    ·first | exact cL | exact o9.out.cell cL (by simp) | exact o10.out.cell cL (by simp) | exact o9.out.drew.cell cL (by simp) | exact o10.out.drew.cell cL (by simp)
    clear hK K
    try simp only [Act.put,List.setIfInBounds_toArray,List.set_cons_zero,List.set_cons_succ]
    refine rdy (rdc 9 102 (fun K hK=>?_) .nil)
    go_simp
    go_at_call 118
    refine (HRe.out _ (by first | exact Only.refl _ _ | exact (Only.refl _ _).drew)).mono ?_
    rintro e v9 ⟨⟨rv,rfl,hor⟩,hab,hq⟩
    have o9:=lh ((by first | exact hq | exact (Only.refl _ _).drew.q hq):Only [] W12 v9)
    obtain ⟨gr,cr,rfl,-,-⟩:=hor.form (by rw [HRl.out];omega)
    have HR9:=lh hor.ints
    have HAb:=lh hab
    obtain ⟨a0,a1,a2⟩:=frame_cells (o9.out.row HF12.out)
    clear hor hab hq
    refine hK.out _ _ ?_ (fun hHeld=>?_)
    ·exact o9.out.cell cL (by simp)
    exact qDRkSm1
   ·go_simp
    go_at_call 118
    refine (HRe.out _ (by first | exact Only.refl _ _ | exact (Only.refl _ _).drew)).mono ?_
    rintro e v9 ⟨⟨rv,rfl,hor⟩,hab,hq⟩
    have o9:=lh ((by first | exact hq | exact (Only.refl _ _).drew.q hq):Only [] W12 v9)
    obtain ⟨gr,cr,rfl,-,-⟩:=hor.form (by rw [HRl.out];omega)
    have HR9:=lh hor.ints
    have HAb:=lh hab
    obtain ⟨a0,a1,a2⟩:=frame_cells (o9.out.row HF12.out)
    clear hor hab hq
    refine hK.out _ _ ?_ (fun hHeld=>?_)
    ·exact o9.out.cell cL (by simp)
    clear hK K
    try simp only [Act.put,List.setIfInBounds_toArray,List.set_cons_zero,List.set_cons_succ]
    refine rdy (rdc 0 93 (fun K hK=>?_) (rdc 10 103 (fun K hK=>?_) .nil))
    ·go_simp
     refine hK.out _ _ ?_ (fun hHeld=>?_)
     ·first | exact cL | exact o9.out.cell cL (by simp) | exact o10.out.cell cL (by simp) | exact o9.out.drew.cell cL (by simp) | exact o10.out.drew.cell cL (by simp)
     exact qDRkSm1
    ·go_simp
     go_at_call 117
     refine (HCl.out _ (by first | exact o9.out | exact o9.out.drew) _ _ _ (by first | exact HR9.out | exact HR9.out.quiet (Only.refl _ _).drew) HAb.out).mono ?_
     rintro e v10 ⟨⟨cv,rfl,hoc⟩,hq⟩
     have o10:=lh (o9.out.q (by first | exact hq | exact (Only.refl _ _).drew.q hq):Only [] W12 v10)
     obtain ⟨gc,cc2,rfl,-,-⟩:=hoc.form (by rw [HCl2.out];omega)
     have HC10:=lh hoc.ints
     obtain ⟨a0',a1',a2'⟩:=frame_cells (o10.out.row HF12.out)
     clear hoc hq
     refine hK.out _ _ ?_ (fun hHeld=>?_)
     ·exact o10.out.cell cL (by simp)
     clear hK K
     try simp only [Act.put,List.setIfInBounds_toArray,List.set_cons_zero,List.set_cons_succ]
     refine rdy (rdc 0 93 (fun K hK=>?_) .nil)
     go_simp
     refine hK.out _ _ ?_ (fun hHeld=>?_)
     ·first | exact cL | exact o9.out.cell cL (by simp) | exact o10.out.cell cL (by simp) | exact o9.out.drew.cell cL (by simp) | exact o10.out.drew.cell cL (by simp)
     exact qDRkSm0
  ·obtain rfl:k=4:=by omega
   have hki:¬ ((4:Nat):Int)<4:=by omega
   have HF:Hid (FE=(ms,ls,c)):=lh (by rw [← Hgo.out,List.take_of_length_le (by have:=Hln.out.1;omega)];rfl)
   have hin:SqIn (BS+1) wr.heap.size wr nilS vs [] ls:=⟨Ints.nil _ _ _ _,Hln.out.2.1,fun i hi=>Hins.out i hi⟩
   have HIn:=lh hin
   have HInf:=lh (ksq_info (k:=3) (mo:=0) (ms:=ms) (vx:=0) (vy:=0) (lv:=nilS) (vs:=vs) Hln.out.1 Hln.out.2.1)
   have HOc:=lh (sqL_one (k:=3) (mo:=0) (ms:=ms) (vx:=0) (vy:=0) (lv:=nilS) (vs:=vs) rfl hin.one.2)
   have HSz:=lh (sqL_sizes (k:=0) (mo:=0) (ms:=[0,0,0,0]) (vx:=0) (vy:=0) (lv:=nilS) (vs:=[nilS,nilS,nilS,nilS]) (k':=3) (mo':=0) (ms':=ms) (vx':=0) (vy':=0) (lv':=nilS) (vs':=vs) rfl rfl Hln.out.1 Hln.out.2.1)
   have HUnd:=lh Tryz.underlying68
   have HRt:=lh (HQk.out.rowAt (HQ36.out.row HR1.out) (by have:=HZ6.out;have:=HBS.out;simp only [List.mem_cons,List.not_mem_nil,or_false];omega))
   have HFn:=lh (setRow_heap wr (w.heap.size+1) _ (sqL 3 0 ms 0 0 nilS vs).toArray _ _ HRt.out)
   have HSo:=lh (Only.setRow (S:=[w.heap.size+1]) (Only.refl _ wr) (g:=w.heap.size+1) (fun _=>by simp) (sqL 3 0 ms 0 0 nilS vs).toArray)
   clear hin
   go_wp2_with (first
    | (refine wpList_load_row rfl (.tmp 12) 68 rfl rfl HSk.out HUnd.out rfl HInf.out ?_)
    | (refine wpList_store_row rfl (.tmp 10) (.tmp 105) 68 rfl rfl rfl HRt.out HInf.out HSz.out HOc.out ?_)
    | fail)
   rw [HF.out] at HPost
   have z1:=HSo.out.size
   have z2:=HQk.out.size
   have z3:=HZ6.out
   have z4:=HQ6.out.size
   refine bodyPost_ret (v:=.tuple #[.agg (sqL 3 0 ms 0 0 nilS vs).toArray,.int .i64 c]) (results_cell_row2 Tryz.results109 _ _ (w.heap.size+1) _ _ _ _ _ rfl rfl HFn.out HUnd.out rfl HInf.out) rfl (HPost.out _ _ ⟨vs,rfl,Hln.out.1,?_,?_⟩)
   ·have hin2:=HIn.out.only HSo.out (fun g hg=>by rw [mSg] at hg;omega)
    exact ⟨hin2.large.mono (by omega) (by omega),hin2.len,fun i hi=>(hin2.small i hi).mono (by omega) (by omega)⟩
   ·exact ((HQ6.out.trans HQk.out (U:=[]) (by simp) (fun g hg hlt=>by simp only [List.mem_cons,List.not_mem_nil,or_false] at hg;omega))).trans HSo.out (U:=[]) (by simp) (fun g hg hlt=>by rw [mSg] at hg;omega)
end
end Go.Proofs.YtmgbbgffkakcaaaGreatDoor
