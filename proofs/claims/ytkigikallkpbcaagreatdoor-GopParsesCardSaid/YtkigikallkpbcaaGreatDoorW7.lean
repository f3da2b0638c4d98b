/- Joined texts: EQua, EFour, ETake, EGet. Conditions: each part names its own. -/
import Derived.Test.YtkigikallkpbcaaGreatDoorT1
import Derived.Test.YtkigikallkpbcaaGreatDoorW5
import Derived.Test.YtkigikallkpbcaaGreatDoorK6
import Derived.Test.YtkigikallkpbcaaGreatDoorW6
import Derived.Test.YtkigikallkpbcaaGreatDoorS8
import Derived.Test.YtkigikallkpbcaaGreatDoorS6
import Derived.Test.YtkigikallkpbcaaGreatDoorW2
namespace Go.Proofs.YtkigikallkpbcaaGreatDoor
open Go.RowKit
set_option linter.unusedVariables false
set_option linter.unusedSimpArgs false
set_option maxRecDepth 100000
set_option maxHeartbeats 16000000
def qIdx (i:Nat):Nat:=i / 32*2+i % 8 / 4
/-- a quarter's numbers among the first k -/
def qPre (b:List Int) (j k:Nat):List Int:=((List.range k).filter fun i=>qIdx i == j).map fun i=>b.getD i 0
theorem qPre_more (b:List Int) (j k:Nat):qPre b j (k+1)=if qIdx k=j then qPre b j k ++ [b.getD k 0] else qPre b j k:=by
 unfold qPre
 rw [List.range_succ,List.filter_append,List.map_append]
 split
 ·rename_i h;simp [h]
 ·rename_i h;simp [h]
theorem qPre_len (b:List Int) (j k:Nat):(qPre b j k).length≤k:=by
 unfold qPre
 rw [List.length_map]
 exact Nat.le_trans (List.length_filter_le _ _) (by simp)
theorem qPre_all (b:List Int) {j:Nat} (h:j<4):qPre b j 64=quarterE b j:=by
 have e:((List.range 64).filter fun i=>qIdx i == j)=(List.range 16).map fun k:Nat=>(j / 2*4+k / 4)*8+j % 2*4+k % 4:=by
  match j,h with
  | 0,_=>decide +kernel
  | 1,_=>decide +kernel
  | 2,_=>decide +kernel
  | 3,_=>decide +kernel
 unfold qPre quarterE
 rw [e,List.map_map]
 rfl
/-- four lists in rows of their own, apart from one another -/
structure Four (base:Nat) (w:World) (vs:List Value) (L:Nat→List Int):Prop where
 len:vs.length=4
 own:∀ j,j<4→Own .i64 3 base w (vs.getD j nilS) (L j)
 apart:∀ i j,i<4→j<4→i≠j→∀ g,(vs.getD i nilS).ownBlock=some g→(vs.getD j nilS).ownBlock≠some g
theorem Four.quiet {base:Nat} {w w':World} {vs:List Value} {L:Nat→List Int} (h:Four base w vs L) (o:Only [] w w'):Four base w' vs L:=⟨h.len,fun j hj=>(h.own j hj).quiet o,h.apart⟩
theorem Four.out {base B:Nat} {w w':World} {vs:List Value} {L:Nat→List Int} (h:Four base w vs L) (o:Only [B] w w') (hB:B<base):Four base w' vs L :=
 ⟨h.len,fun j hj=>(h.own j hj).only o (fun g hg e=>by rw [mSg] at hg;have:=(h.own j hj).at g e;omega),h.apart⟩
theorem getD_set_self {vs:List Value} {k:Nat} (h:k<vs.length) (v:Value):(vs.set k v).getD k nilS=v:=by
 rw [List.getD_eq_getElem?_getD,List.getElem?_set_self h];rfl
theorem getD_set_ne {vs:List Value} {k j:Nat} (h:j≠k) (v:Value):(vs.set k v).getD j nilS=vs.getD j nilS:=by
 rw [List.getD_eq_getElem?_getD,List.getElem?_set_ne (Ne.symm h),← List.getD_eq_getElem?_getD]
theorem Four.grow {base:Nat} {w w':World} {vs:List Value} {L L':Nat→List Int} {k:Nat} {v:Value} (h:Four base w vs L) (hk:k<4) (a:Acc (vs.getD k nilS) w v w') (ho:Own .i64 3 base w' v (L' k)) (hL:∀ j,j<4→j≠k→L' j=L j):Four base w' (vs.set k v) L':=by
 have hl:=h.len
 refine ⟨by rw [List.length_set];exact hl,fun j hj=>?_,fun i j hi hj hij g hg e=>?_⟩
 ·by_cases hjk:j=k
  ·subst hjk
   rw [getD_set_self (by omega)]
   exact ho
  ·rw [getD_set_ne hjk,hL j hj hjk]
   exact (h.own j hj).only a.only (fun g hg e=>h.apart k j hk hj (Ne.symm hjk) g (by simpa using hg) e)
 ·by_cases hik:i=k
  ·subst hik
   have hji:j≠i:=Ne.symm hij
   rw [getD_set_self (by omega)] at hg
   rw [getD_set_ne hji] at e
   rcases a.at_ with x | x
   ·exact h.apart i j hi hj hij g (by rw [← x];exact hg) e
   ·have h1:=x g hg
    have h2:=(h.own j hj).at g e
    omega
  ·rw [getD_set_ne hik] at hg
   by_cases hjk:j=k
   ·subst hjk
    rw [getD_set_self (by omega)] at e
    rcases a.at_ with x | x
    ·exact h.apart i j hi hj hij g hg (by rw [← x];exact e)
    ·have h1:=x g e
     have h2:=(h.own i hi).at g hg
     omega
   ·rw [getD_set_ne hjk] at e
    exact h.apart i j hi hj hij g hg e
section
theorem quarter_any {lo hi:Nat} {bv:Value} {b:List Int} {w:World} (h:Ints .i64 lo hi w bv b) (lb:b.length=64) :
  Calls Tryz.prog 159 #[bv] w fun e w'=>∃ vs,e=.returned (.tuple #[.slice (some ⟨w.heap.size,0,none⟩) 4 4,.nilIface])∧w'.heap[w.heap.size]?=some (.cells vs.toArray 49 (0,0))∧Four (w.heap.size+1) w' vs (fun j=>quarterE b j)∧Only [] w w':=by
 refine hidQ fun Q HPost=>?_
 have hI:=h.2
 have HIn:=lh (fun k:Nat=>(by
  by_cases hk:k<b.length
  ·exact h.2 _ (by rw [List.getD_eq_getElem?_getD,List.getElem?_eq_getElem hk];exact List.getElem_mem _)
  ·rw [List.getD_eq_getElem?_getD,List.getElem?_eq_none (by omega)];simp [InK]:InK .i64 (b.getD k 0)))
 obtain ⟨la,lcap,rfl,-,-,hat,hcell⟩:=h.open
 rw [lb] at hat hcell ⊢
 have Hat:=lh hat
 have Hcell:=lh hcell
 have HMore:=lh (qPre_more b)
 have HLen:=lh (qPre_len b)
 have HAll:=lh (fun j (h:j<4)=>qPre_all b h)
 have hmk:(Instr.makeSlice 268 (.int .i64 4) (.int .i64 4)).run Tryz.prog w=.ok (.slice (some ⟨w.heap.size,0,none⟩) 4 4) (w.alloc (.cells (madeCells #[.slice none 0 0] 4) 49)):=run_make_row' (P:=Tryz.prog) 268 49 (.slice none 0 0) 24 Tryz.underlying268 (by kernel_rfl) rfl .i64 .i64 4 (by omega) (by omega) w
 have hm4:madeCells #[.slice none 0 0] 4=[nilS,nilS,nilS,nilS].toArray:=by kernel_rfl
 have HRow0:=lh (heap_alloc_new w (.cells (madeCells #[.slice none 0 0] 4) 49))
 rw [hm4] at hmk HRow0
 have HQ0:=lh (Only.new w (.cells [nilS,nilS,nilS,nilS].toArray 49))
 have HZ0:Hid ((w.alloc (.cells [nilS,nilS,nilS,nilS].toArray 49)).heap.size=w.heap.size+1):=lh (by simp)
 clear h lb hI hat hcell hm4
 go_enter Tryz.func159,Tryz.ntmps159
 go_wp2_with fail
 clear hmk
 generalize hW1:World.alloc w _=W1 at *
 clear hW1
 go_loopw [15,5,6,7] (fun i _ _ _ wr=>∃ (k:Nat) (vs:List Value),k≤64∧i=.int .i64 k∧Hid (wr.heap[w.heap.size]?=some (.cells vs.toArray 49 (0,0)))∧Hid (Four (w.heap.size+1) wr vs (fun j=>qPre b j k))∧Hid (∀ j,From (w.heap.size+1) (vs.getD j nilS))∧Hid (Only [w.heap.size] W1 wr)) (fun i _ _ _ _=>64-(intOf i).toNat)
 case atStart=>exact ⟨0,[nilS,nilS,nilS,nilS],by omega,rfl,lh HRow0.out,lh ⟨rfl,fun j hj=>(by match j,hj with
  | 0,_=>exact Own.nil _ _ _ _
  | 1,_=>exact Own.nil _ _ _ _
  | 2,_=>exact Own.nil _ _ _ _
  | 3,_=>exact Own.nil _ _ _ _),fun i j hi hj hij g hg=>(by match i,hi with
  | 0,_=>simp [Value.ownBlock] at hg
  | 1,_=>simp [Value.ownBlock] at hg
  | 2,_=>simp [Value.ownBlock] at hg
  | 3,_=>simp [Value.ownBlock] at hg)⟩,lh (fun j=>(by match j with
  | 0=>exact From.nil _
  | 1=>exact From.nil _
  | 2=>exact From.nil _
  | 3=>exact From.nil _
  | (n+4)=>exact From.nil _)),lh (Only.refl _ _)⟩
 case round =>
  obtain ⟨k,vs,hk,rfl,HRow,HFour,HFrom,HQk⟩:=hrel
  by_cases hlt:k<64
  ·have hki:(k:Int)<64:=by omega
   have hk0:(0:Int)≤(k:Int):=by omega
   obtain ⟨lb,off,rfl,-,-⟩:=Hat.out k hlt
   have c1:=Hcell.out lb off rfl k hlt
   have hlb:=block_lt_of_cell c1
   have c0:=HQk.out.cell (HQ0.out.cell c1 (by simp)) (by rw [mSg];simp only;simp only at hlb;omega)
   have HK4:Hid (qIdx k<4):=lh (by unfold qIdx;omega)
   obtain ⟨kk,hkk⟩:∃ z,z=qIdx k:=⟨_,rfl⟩
   have d1:(k:Int).tdiv 32=((k / 32:Nat):Int):=by rw [Int.tdiv_eq_ediv_of_nonneg hk0];rfl
   have d2:(k:Int).tmod 8=((k % 8:Nat):Int):=by rw [Int.tmod_eq_emod_of_nonneg hk0];rfl
   have d3:((k % 8:Nat):Int).tdiv 4=((k % 8 / 4:Nat):Int):=by rw [Int.tdiv_eq_ediv_of_nonneg (by omega)];rfl
   have d4:IntKind.i64.wrap ((k / 32:Nat):Int)=((k / 32:Nat):Int):=by rw [IntKind.wrap_i64];omega
   have d5:IntKind.i64.wrap (((k / 32:Nat):Int)*2)=((k / 32:Nat):Int)*2:=by rw [IntKind.wrap_i64];omega
   have d6:IntKind.i64.wrap ((k % 8 / 4:Nat):Int)=((k % 8 / 4:Nat):Int):=by rw [IntKind.wrap_i64];omega
   have d7:IntKind.i64.wrap (((k / 32:Nat):Int)*2+((k % 8 / 4:Nat):Int))=(kk:Int):=by rw [hkk,IntKind.wrap_i64];unfold qIdx;omega
   generalize ((k / 32:Nat):Int)=D1 at *
   generalize ((k % 8:Nat):Int)=D2 at *
   generalize ((k % 8 / 4:Nat):Int)=D3 at *
   rw [← hkk] at HK4
   have hk4:kk<4:=HK4.out
   have hk4i:(kk:Int)<4:=by omega
   have hk4j:(0:Int)≤(kk:Int):=by omega
   have hvl:=HFour.out.len
   have cv:wr.cell? ⟨w.heap.size,kk,none⟩=some (vs.getD kk nilS):=by
    rw [cell_of_row _ _ _ _ _ _ HRow.out,List.getElem?_toArray,List.getD_eq_getElem?_getD,List.getElem?_eq_getElem (by omega)];rfl
   have HOwn:=lh (HFour.out.own kk hk4)
   have HFk:=lh (HFrom.out kk)
   have hx:=HIn.out k
   have HM1:Hid (qPre b kk (k+1)=qPre b kk k ++ [b.getD k 0]):=lh (by rw [HMore.out,if_pos hkk.symm])
   have HM2:Hid (∀ j,j<4→j≠kk→qPre b j (k+1)=qPre b j k):=lh (fun j hj hne=>by rw [HMore.out,if_neg (fun e=>hne (by rw [hkk,e]))])
   generalize b.getD k 0=x at *
   have hin:∀ y∈[x],InK .i64 y:=by simp only [mSg,forall_eq];exact hx
   have hsrc:=lh (fun (W:World)=>ints_newG (k:=.i64) (w:=W) (t:=3) (l:=[x]) rfl (by simp [maxLen]) hin 1 rfl rfl)
   have hby:=lh (show ((qPre b kk k).length+[x].length)*8≤140737488355328 by have:=HLen.out kk k;simp;omega)
   have hba:=lh (fun (o:Obj)=>(show w.heap.size+1≤(wr.alloc o).heap.size by have:=HQk.out.size;have:=HZ0.out;simp;omega))
   have Hvl:=lh hvl
   have HCv:=lh cv
   obtain ⟨vk,hvk⟩:∃ z,z=vs.getD kk nilS:=⟨_,rfl⟩
   rw [← hvk] at cv HOwn HFk
   have Hvk:=lh hvk
   clear hin hx hvl hlb c1 hkk hvk
   go_wp2_with (first
    | (at_builtin;refine wpList_append_ints rfl (.tmp 32) (.tmp 34) _ rfl EI (HOwn.out.quiet (Only.new _ _)) rfl (hsrc.out _) rfl hby.out (hba.out _) (fun v1 w3 hown1 ho1=>?_);obtain ⟨g1,cap1,hv1,_,_⟩:=hown1.form (by simp);have HO1:=lh hown1;have HA1:=lh ho1;have hr3:w3.heap[w.heap.size]?=some (.cells vs.toArray 49 (0,0)):=HA1.out.only.rowAt ((Only.new wr _).rowAt HRow.out (by simp)) (fun hm=>by have:=HFk.out w.heap.size (by simpa using hm);omega);have cx3:w3.cell? ⟨w.heap.size,kk,none⟩=some vk:=(by rw [cell_of_row _ _ _ _ _ _ hr3,← cell_of_row _ _ _ _ _ _ HRow.out];exact cv);have fx3:=frozen_of_row w3 w.heap.size kk _ _ hr3;have HR3:=lh hr3;clear hown1 ho1 hr3;obtain ⟨N1,hN1⟩:∃ z,z=(qPre b kk k ++ [x]).length:=⟨_,rfl⟩;rw [← hN1] at hv1;subst hv1;clear hN1)
    | fail)
   have hset:=heap_setCell_same w3 w.heap.size kk _ _ (.slice (some ⟨g1,0,none⟩) N1 cap1) HR3.out
   rw [List.setIfInBounds_toArray] at hset
   have hso:Only [w.heap.size] w3 (w3.setCell ⟨w.heap.size,kk,none⟩ (.slice (some ⟨g1,0,none⟩) N1 cap1)):=(Only.refl _ _).setCell (by simp) _
   have hA:Acc (vs.getD kk nilS) (wr.alloc (.cells #[.int .i64 x] 3)) (.slice (some ⟨g1,0,none⟩) N1 cap1) w3:=by rw [← Hvk.out];exact HA1.out
   have hgrow:=((HFour.out.quiet (Only.new wr (.cells #[.int .i64 x] 3))).grow (L':=fun j=>qPre b j (k+1)) hk4 hA (by rw [HM1.out];exact HO1.out) (fun j hj hne=>HM2.out j hj hne)).out hso (by omega)
   refine ⟨⟨k+1,vs.set kk (.slice (some ⟨g1,0,none⟩) N1 cap1),by omega,by go_num,lh hset,lh hgrow,lh (fun j=>?_),lh ?_⟩,by simp [intOf];omega⟩
   ·by_cases hjk:j=kk
    ·subst hjk
     rw [getD_set_self (by rw [Hvl.out];exact hk4)]
     exact HA1.out.from_ HFk.out (hba.out _)
    ·rw [getD_set_ne hjk];exact HFrom.out j
   ·exact (HQk.out.trans ((Only.new wr _).trans HA1.out.only (U:=vk.ownBlock.toList) (by simp) (fun g h _=>h)) (U:=[w.heap.size]) (fun _ h _=>h) (fun g hg hlt=>by have h1:=HFk.out g (by simpa using hg);have h2:=HZ0.out;omega)).trans hso (fun _ h _=>h) (fun _ h _=>h)
  ·obtain rfl:k=64:=by omega
   have hki:¬ ((64:Nat):Int)<64:=by omega
   go_wp2_with fail
   refine HPost.out _ _ ⟨vs,rfl,HRow.out,⟨HFour.out.len,fun j hj=>?_,HFour.out.apart⟩,HQ0.out.trans HQk.out (by simp) (fun g hg hlt=>by rw [mSg] at hg;omega)⟩
   rw [← HAll.out j hj]
   exact HFour.out.own j hj
end
theorem bestGo_in {b top left:List Int} {corner:Int} (h:∀ m:Nat,sadD b (predD m top left corner)≤16320):∀ (ms:List Nat) (r:Nat×Int),r.2≤16320→(r.2<0→ms≠[])→0≤(bestGo b top left corner ms r).2∧(bestGo b top left corner ms r).2≤16320
 | [],r,h1,h2=>⟨by (have:¬ r.2<0:=fun e=>h2 e rfl);show 0≤r.2;omega,h1⟩
 | m :: ms,r,h1,h2=>by
  unfold bestGo
  have h3:=sadD_nonneg b (predD m top left corner)
  refine bestGo_in h ms _ ?_ ?_
  ·split
   ·exact h m
   ·exact h1
  ·split
   ·intro e;simp only at e;omega
   ·rename_i hn;intro e;exact absurd (Or.inl e) hn
theorem bestAt_in {f:FrameD} (hs:SamOk f.pix) {b:List Int} (sb:SamOk b) (x y:Int) {n:Nat} (hn:n=4∨n=8) (lb:b.length=n*n):0≤(bestAt f b x y n).2∧(bestAt f b x y n).2≤16320:=by
 refine bestGo_in (fun m=>?_) _ _ (by decide) (by simp)
 have hp:=predE_ok hs x y (n:=n) (by rcases hn with rfl | rfl <;> omega) m
 exact (sadD_in (by rw [lb];rcases hn with rfl | rfl <;> omega) sb hp.2).2
section
theorem mfour_any {q lo hi lo2 hi2:Nat} {pv bv:Value} {f:FrameD} {b:List Int} {w:World} (hok:FrOk f) (h:Ints .i64 lo hi w pv f.pix) (hb:Ints .i64 lo2 hi2 w bv b) (lb:b.length=64) (sb:SamOk b) (x y:Int) (hx:0≤x) (hxn:x+8≤f.W) (hy:0≤y) (hyn:y+8≤f.H) (hq:q≤15) :
  Calls Tryz.prog 134 #[.agg #[.int .i64 f.W,.int .i64 f.H,pv],bv,.int .i64 x,.int .i64 y,.int .i64 q] w fun e w'=>∃ vs,e=.returned (.tuple #[.agg (sqL 3 0 (fourE f b x y q).1 0 0 nilS vs).toArray,.int .i64 (fourE f b x y q).2.2])∧(fourE f b x y q).1.length=4∧SqIn w.heap.size w'.heap.size w' nilS vs [] (fourE f b x y q).2.1∧Only [] w w':=by
 refine hidQ fun Q HPost=>?_
 have hlen:=hok.len
 have hWW:=hok.w0
 have hHH:=hok.h0
 have hW1:=hok.w1
 have hH1:=hok.h1
 have hWH:f.W*f.H≤32*32:=Int.mul_le_mul hok.w1 hok.h1 (by omega) (by omega)
 have hWH0:8*8≤f.W*f.H:=Int.mul_le_mul hok.w0 hok.h0 (by omega) (by omega)
 have HCl:=lh (fun (W:World) (o:Only [] w W)=>clone_any (h.quiet o) (by omega) (by omega))
 have HQu:=lh (fun (W:World) (o:Only [] w W)=>quarter_any (hb.quiet o) lb)
 have HOne:=lh (fun (W:World) (P:List Int) (l1 h1 l2 h2:Nat) (v1 v2:Value) (c:List Int) (ax ay:Int) (hP:FrOk ⟨f.W,f.H,P⟩) (i1:Ints .i64 l1 h1 W v1 P) (i2:Ints .i64 l2 h2 W v2 c) (lc:c.length=16) (sc:SamOk c) (hx:0≤ax) (hxn:ax+4≤f.W) (hy:0≤ay) (hyn:ay+4≤f.H)=>mone_any (n:=4) (q:=q) (f:=⟨f.W,f.H,P⟩) (.inl rfl) hP i1 i2 lc sc ax ay hx hxn hy hyn hq)
 have HDec:=lh (fun (W:World) (P:List Int) (lo hi g cap base:Nat) (lv:Value) (l:List Int) (ax ay mode:Int) (hP:FrOk ⟨f.W,f.H,P⟩) (hp:Own .i64 3 base W (.slice (some ⟨g,0,none⟩) P.length cap) P) (hl:Ints .i64 lo hi W lv l) (hg:g<lo∨hi≤g) (hll:l.length=16) (hlev:LevOk l) (hm:0≤mode∧mode≤3) (hx:0≤ax) (hxn:ax+4≤f.W) (hy:0≤ay) (hyn:ay+4≤f.H)=>one_any (n:=4) (q:=q) (f:=⟨f.W,f.H,P⟩) hP hp hl hg (.inl rfl) hll hlev hq hm hx hxn hy hyn)
 have HDk:=lh (fun (P:List Int) (hP:FrOk ⟨f.W,f.H,P⟩) (c:List Int) (lc:c.length=16) (sc:SamOk c) (ax ay:Int) (hx:0≤ax) (hxn:ax+4≤f.W) (hy:0≤ay) (hyn:ay+4≤f.H)=>(⟨oneL_ok (n:=4) (q:=q) (.inl rfl) hP.sam lc sc ax ay hq,oneD_ok hP (n:=4) hx hxn hy hyn (oneL_ok (n:=4) (q:=q) (.inl rfl) hP.sam lc sc ax ay hq).1 (by omega) ((bestAt ⟨f.W,f.H,P⟩ c ax ay 4).1:Int) (q:Int),bestAt_le _ _ _ _ _,bestAt_in hP.sam sc ax ay (n:=4) (.inl rfl) lc⟩:((oneL ⟨f.W,f.H,P⟩ c ax ay 4 q).length=16∧LevOk (oneL ⟨f.W,f.H,P⟩ c ax ay 4 q))∧FrOk (oneD ⟨f.W,f.H,P⟩ ax ay 4 ((bestAt ⟨f.W,f.H,P⟩ c ax ay 4).1:Int) (q:Int) (oneL ⟨f.W,f.H,P⟩ c ax ay 4 q))∧(bestAt ⟨f.W,f.H,P⟩ c ax ay 4).1≤3∧0≤(bestAt ⟨f.W,f.H,P⟩ c ax ay 4).2∧(bestAt ⟨f.W,f.H,P⟩ c ax ay 4).2≤16320))
 have HQs:=lh (fun j=>(⟨quarterE_len b j,quarterE_in sb j⟩:(quarterE b j).length=16∧SamOk (quarterE b j)))
 have HE:Hid (fourE f b x y q=fourGo b x y q 4 0 ⟨f.W,f.H,f.pix⟩ [] [] 24):=lh rfl
 have Hok:=lh hok
 have HLen:=lh (fun (P:List Int) (hP:FrOk ⟨f.W,f.H,P⟩)=>(by have h1:(P.length:Int)=f.W*f.H:=hP.len;omega:P.length=f.pix.length))
 obtain ⟨pa,pc,rfl,-⟩:=h.open
 obtain ⟨qa,qc,rfl,-⟩:=hb.open
 rw [lb]
 rw [lb] at HQu
 have HLp:Hid (0<f.pix.length):=lh (by omega)
 obtain ⟨FE,hFE⟩:∃ z,z=fourE f b x y q:=⟨_,rfl⟩
 rw [← hFE] at HE HPost
 clear h hb lb sb hok hq hlen hWH hWH0 hFE
 generalize f.pix.length=NL at *
 have HP0:=lh (HLen.out f.pix Hok.out)
 have HQ2:Hid (Only [] w ((w.alloc (.cells #[.int .i64 f.W,.int .i64 f.H,.slice pa NL pc] 73)).alloc (.cells #[.int .i64 0,.int .i64 0,.int .i64 0,.int .i64 0,.int .i64 0,.int .i64 0,.int .i64 0,.int .i64 0,.slice none 0 0,.slice none 0 0,.slice none 0 0,.slice none 0 0,.slice none 0 0] 158))):=lh ((Only.new w _).alloc _)
 have HR0:Hid (((w.alloc (.cells #[.int .i64 f.W,.int .i64 f.H,.slice pa NL pc] 73)).alloc (.cells #[.int .i64 0,.int .i64 0,.int .i64 0,.int .i64 0,.int .i64 0,.int .i64 0,.int .i64 0,.int .i64 0,.slice none 0 0,.slice none 0 0,.slice none 0 0,.slice none 0 0,.slice none 0 0] 158)).heap[w.heap.size]?=some (.cells #[.int .i64 f.W,.int .i64 f.H,.slice pa NL pc] 73 (0,0))):=lh ((Only.new (w.alloc _) _).row (heap_alloc_new w _))
 have HR1:Hid (SqRow (w.heap.size+1) ((w.alloc (.cells #[.int .i64 f.W,.int .i64 f.H,.slice pa NL pc] 73)).alloc (.cells #[.int .i64 0,.int .i64 0,.int .i64 0,.int .i64 0,.int .i64 0,.int .i64 0,.int .i64 0,.int .i64 0,.slice none 0 0,.slice none 0 0,.slice none 0 0,.slice none 0 0,.slice none 0 0] 158)) 0 0 [0,0,0,0] 0 0 nilS [nilS,nilS,nilS,nilS]):=lh (heap_alloc_new' (by simp))
 have HZ2:Hid (w.heap.size+1<((w.alloc (.cells #[.int .i64 f.W,.int .i64 f.H,.slice pa NL pc] 73)).alloc (.cells #[.int .i64 0,.int .i64 0,.int .i64 0,.int .i64 0,.int .i64 0,.int .i64 0,.int .i64 0,.int .i64 0,.slice none 0 0,.slice none 0 0,.slice none 0 0,.slice none 0 0,.slice none 0 0] 158)).heap.size):=lh (by simp)
 obtain ⟨a0,a1,a2⟩:=frame_cells HR0.out
 go_enter Tryz.func134,Tryz.ntmps134
 go_wp2_with fail
 generalize hW2:World.alloc (World.alloc w _) _=W2 at *
 clear hW2 a0 a1 a2
 go_at_call 85
 refine (HCl.out W2 HQ2.out).mono ?_
 rintro e w3 ⟨v3,rfl,ho3,hq3⟩
 obtain ⟨g0,cap0,rfl,hg0,hg0'⟩:=ho3.form (by rw [HP0.out];exact HLp.out)
 rw [HP0.out] at ho3 ⊢
 have HO3:=lh ho3
 have HQ3:=lh hq3
 have HG0:=lh (And.intro hg0 hg0')
 have HR03:=lh (hq3.row HR0.out)
 clear ho3 hq3 hg0 hg0' HCl
 obtain ⟨a0,a1,a2⟩:=frame_cells HR03.out
 have f2:=frozen_of_row w3 w.heap.size 2 _ _ HR03.out
 have hrow4:=heap_setCell_same w3 w.heap.size 2 _ _ (.slice (some ⟨g0,0,none⟩) NL cap0) HR03.out
 have hon4:Only [w.heap.size] w3 (w3.setCell ⟨w.heap.size,2,none⟩ (.slice (some ⟨g0,0,none⟩) NL cap0)):=(Only.refl _ _).setCell (by simp) _
 have HR4:Hid ((w3.setCell ⟨w.heap.size,2,none⟩ (.slice (some ⟨g0,0,none⟩) NL cap0)).heap[w.heap.size]?=some (.cells #[.int .i64 f.W,.int .i64 f.H,.slice (some ⟨g0,0,none⟩) NL cap0] 73 (0,0))):=lh hrow4
 have HON4:=lh hon4
 clear hrow4 hon4
 go_wp2_with fail
 have hsz4:(w3.setCell ⟨w.heap.size,2,none⟩ (.slice (some ⟨g0,0,none⟩) NL cap0)).heap.size=w3.heap.size:=by simp [World.setCell]
 have HSz4:=lh hsz4
 clear hsz4
 generalize hW4:World.setCell w3 _ _=W4 at *
 clear hW4 a0 a1 a2 f2
 have HQ4:Hid (Only [] w W4):=lh ((HQ2.out.q HQ3.out).trans HON4.out (by simp) (fun g hg hlt=>by rw [mSg] at hg;omega))
 go_at_call 159
 refine (HQu.out W4 HQ4.out).mono ?_
 rintro e w5 ⟨qs,rfl,hqr,hqf,hq5⟩
 have HQR:=lh hqr
 have HQF:=lh hqf
 have HQ5:=lh hq5
 clear hqr hqf hq5 HQu
 go_wp2_with fail
 have hz4:W4.heap.size=w3.heap.size:=HSz4.out
 have HN:Hid (w.heap.size+1<W2.heap.size∧W2.heap.size≤g0∧g0<W4.heap.size∧W4.heap.size<w5.heap.size):=lh ⟨HZ2.out,HG0.out.1,by rw [hz4];exact HG0.out.2,(Array.getElem?_eq_some_iff.1 HQR.out).1⟩
 obtain ⟨BS,hBS⟩:∃ z,z=w5.heap.size:=⟨_,rfl⟩
 obtain ⟨GQ,hGQ⟩:∃ z,z=W4.heap.size:=⟨_,rfl⟩
 have hqn:Only [] w5 (w5.alloc (.cells (sqL 3 0 [0,0,0,0] 0 0 nilS [nilS,nilS,nilS,nilS]).toArray 158)):=Only.new _ _
 have HRS:Hid (SqRow BS (w5.alloc (.cells (sqL 3 0 [0,0,0,0] 0 0 nilS [nilS,nilS,nilS,nilS]).toArray 158)) 3 0 [0,0,0,0] 0 0 nilS [nilS,nilS,nilS,nilS]):=lh (by rw [hBS];exact heap_alloc_new _ _)
 have HR6:=lh (hqn.row (HQ5.out.row HR4.out))
 have HR16:Hid (SqRow (w.heap.size+1) (w5.alloc (.cells (sqL 3 0 [0,0,0,0] 0 0 nilS [nilS,nilS,nilS,nilS]).toArray 158)) 0 0 [0,0,0,0] 0 0 nilS [nilS,nilS,nilS,nilS]):=lh (hqn.row (HQ5.out.row (HON4.out.rowAt (HQ3.out.row HR1.out) (by simp))))
 have HQA:=lh (hqn.row HQR.out)
 have HQI:=lh (fun j (hj:j<4)=>((HQF.out.own j hj).ints.quiet hqn:Ints .i64 (W4.heap.size+1) w5.heap.size _ (qs.getD j nilS) (quarterE b j)))
 have HQl:=lh HQF.out.len
 have HO6:=lh ((((HO3.out.only HON4.out (fun g hg e=>by rw [mSg] at hg;simp only [Value.ownBlock,Option.some.injEq] at e;have:=HN.out;omega)).quiet HQ5.out).quiet hqn).lower (base':=w.heap.size) HQ2.out.size)
 have HQ6:=lh ((HQ4.out.q HQ5.out).q hqn)
 have HZ6:Hid (BS<(w5.alloc (.cells (sqL 3 0 [0,0,0,0] 0 0 nilS [nilS,nilS,nilS,nilS]).toArray 158)).heap.size):=lh (by rw [hBS];simp)
 rw [← hBS] at HN HQI
 rw [← hGQ] at HN HQA HQI ⊢
 rw [← hBS]
 have hw6:w5.alloc (.cells #[.int .i64 3,.int .i64 0,.int .i64 0,.int .i64 0,.int .i64 0,.int .i64 0,.int .i64 0,.int .i64 0,.slice none 0 0,.slice none 0 0,.slice none 0 0,.slice none 0 0,.slice none 0 0] 158)=w5.alloc (.cells (sqL 3 0 [0,0,0,0] 0 0 nilS [nilS,nilS,nilS,nilS]).toArray 158):=rfl
 rw [hw6]
 clear hw6 hqn hz4 hBS hGQ HQR HQF HQ5 HR4 HON4 HQ3 HR03 HR0 HR1 HO3 HSz4 HQ4 HQ2 HG0 HZ2
 generalize World.alloc w5 _=W6 at *
 have HK0:Hid (w.heap.size∉[g0,BS]∧w.heap.size+1∉[g0,BS]∧GQ∉[g0,BS]∧BS≠g0):=lh (by have:=HN.out;simp only [List.mem_cons,List.not_mem_nil,or_false];omega)
 go_loopw [35,15] (fun i cv wr=>∃ (k:Nat) (P ms:List Int) (vs:List Value) (ls:List (List Int)) (c:Int),k≤4∧i=.int .i64 k∧cv=.int .i64 c∧Hid (FrOk ⟨f.W,f.H,P⟩)∧Hid (Own .i64 3 w.heap.size wr (.slice (some ⟨g0,0,none⟩) NL cap0) P)∧Hid (SqRow BS wr 3 0 ms 0 0 nilS vs)∧Hid (ms.length=4∧vs.length=4∧ls.length=k)∧Hid (∀ j,j<k→Ints .i64 (BS+1) wr.heap.size wr (vs.getD j nilS) (ls.getD j []))∧Hid (fourGo b x y q (4-k) k ⟨f.W,f.H,P⟩ (ms.take k) ls c=FE)∧Hid (0≤c∧c≤24+70000*k)∧Hid (Only [g0,BS] W6 wr)) (fun i _ _=>4-(intOf i).toNat)
 case atStart=>exact ⟨0,f.pix,[0,0,0,0],[nilS,nilS,nilS,nilS],[],24,by omega,rfl,rfl,Hok,HO6,HRS,lh ⟨rfl,rfl,rfl⟩,lh (fun j hj=>absurd hj (by omega)),lh HE.out.symm,lh (by omega),lh (Only.refl _ _)⟩
 case round =>
  obtain ⟨k,P,ms,vs,ls,c,hk,rfl,rfl,HPk,HOk,HSk,Hln,Hins,Hgo,Hc,HQk⟩:=hrel
  by_cases hlt:k<4
  ·have hki:(k:Int)<4:=by omega
   have hk0:(0:Int)≤(k:Int):=by omega
   have HPl:Hid (P.length=NL):=lh (HLen.out P HPk.out)
   obtain ⟨a0,a1,a2⟩:=frame_cells (HQk.out.rowAt HR6.out HK0.out.1)
   have hqa:=HQk.out.rowAt HQA.out HK0.out.2.2.1
   have cq:wr.cell? ⟨GQ,k,none⟩=some (qs.getD k nilS):=by
    rw [cell_of_row _ _ _ _ _ _ hqa,List.getElem?_toArray,List.getD_eq_getElem?_getD,List.getElem?_eq_getElem (by have:=HQl.out;omega)];rfl
   have hqi:=(HQI.out k hlt).only HQk.out (fun g hg=>by have:=HN.out;simp only [List.mem_cons,List.not_mem_nil,or_false] at hg;omega)
   have hqs:=HQs.out k
   obtain ⟨ca,cc,hcv,-⟩:=hqi.open
   rw [hqs.1] at hcv
   rw [hcv] at cq hqi
   have HQi:=lh hqi
   have Hqs:=lh hqs
   clear hqa hqi hqs hcv
   have d1:(k:Int).tmod 2=((k % 2:Nat):Int):=by rw [Int.tmod_eq_emod_of_nonneg hk0];rfl
   have d2:(k:Int).tdiv 2=((k / 2:Nat):Int):=by rw [Int.tdiv_eq_ediv_of_nonneg hk0];rfl
   have d3:IntKind.i64.wrap (((k % 2:Nat):Int)*4)=((k % 2:Nat):Int)*4:=by rw [IntKind.wrap_i64];omega
   have d4:IntKind.i64.wrap ((k / 2:Nat):Int)=((k / 2:Nat):Int):=by rw [IntKind.wrap_i64];omega
   have d5:IntKind.i64.wrap (((k / 2:Nat):Int)*4)=((k / 2:Nat):Int)*4:=by rw [IntKind.wrap_i64];omega
   obtain ⟨AX,hAX⟩:∃ z,z=x+((k % 2:Nat):Int)*4:=⟨_,rfl⟩
   obtain ⟨AY,hAY⟩:∃ z,z=y+((k / 2:Nat):Int)*4:=⟨_,rfl⟩
   have bx:0≤AX∧AX+4≤f.W:=by omega
   have bY:0≤AY∧AY+4≤f.H:=by omega
   have d6:IntKind.i64.wrap (x+((k % 2:Nat):Int)*4)=AX:=by rw [← hAX,IntKind.wrap_i64];omega
   have d7:IntKind.i64.wrap (y+((k / 2:Nat):Int)*4)=AY:=by rw [← hAY,IntKind.wrap_i64];omega
   have HB:=lh (And.intro bx bY)
   have HStep:Hid (fourGo b x y q (4-k) k ⟨f.W,f.H,P⟩ (ms.take k) ls c=fourGo b x y q (4-(k+1)) (k+1) (oneD ⟨f.W,f.H,P⟩ AX AY 4 (bestAt ⟨f.W,f.H,P⟩ (quarterE b k) AX AY 4).1 q (oneL ⟨f.W,f.H,P⟩ (quarterE b k) AX AY 4 q)) (ms.take k ++ [((bestAt ⟨f.W,f.H,P⟩ (quarterE b k) AX AY 4).1:Int)]) (ls ++ [oneL ⟨f.W,f.H,P⟩ (quarterE b k) AX AY 4 q]) (c+4*(bestAt ⟨f.W,f.H,P⟩ (quarterE b k) AX AY 4).2)):=lh (by
    obtain ⟨k3,hk3⟩:∃ k3,4-k=k3+1:=⟨3-k,by omega⟩
    rw [hk3,show 4-(k+1)=k3 by omega,hAX,hAY]
    rfl)
   have hdk:=HDk.out P HPk.out (quarterE b k) Hqs.out.1 Hqs.out.2 AX AY bx.1 bx.2 bY.1 bY.2
   have hone:=HOne.out wr P _ _ _ _ _ _ (quarterE b k) AX AY HPk.out HOk.out.ints HQi.out Hqs.out.1 Hqs.out.2 bx.1 bx.2 bY.1 bY.2
   have HLev:=lh hdk.1
   have HFr:=lh hdk.2.1
   obtain ⟨hm3,hs0,hs1⟩:=hdk.2.2
   have HOn:=lh hone
   generalize hbe:bestAt ⟨f.W,f.H,P⟩ (quarterE b k) AX AY 4=BE at *
   obtain ⟨bm,bs⟩:=BE
   simp only at hm3 hs0 hs1 HStep HFr HOn
   generalize hL:oneL ⟨f.W,f.H,P⟩ (quarterE b k) AX AY 4 q=L at *
   obtain ⟨hc0,hc1⟩:=Hc.out
   have e1:IntKind.i64.wrap (4*bs)=4*bs:=by rw [IntKind.wrap_i64];omega
   have e2:IntKind.i64.wrap (c+4*bs)=c+4*bs:=by rw [IntKind.wrap_i64];omega
   clear hdk hone bx bY hAX hAY hbe hL
   generalize ((k % 2:Nat):Int)=D1 at *
   generalize ((k / 2:Nat):Int)=D2 at *
   go_wp2_with fail
   clear d1 d2 d3 d4 d5 d6 d7
   go_at_call 133
   refine HOn.out.mono ?_
   rintro e w7 ⟨v7,rfl,ho7,hq7⟩
   obtain ⟨gL,capL,rfl,hgL,hgL'⟩:=ho7.form (by rw [HLev.out.1];omega)
   rw [HLev.out.1] at ho7 ⊢
   have HO7:=lh ho7
   have HQ7:=lh hq7
   have hs7:SqRow BS w7 3 0 ms 0 0 nilS vs:=hq7.row HSk.out
   clear ho7 hq7 a0 a1 a2 cq HOn
   have x1:=hs7.cell (sqL_mode Hln.out.1 hlt)
   have y1:=frozen_of_row w7 BS (2+k) _ _ hs7
   obtain ⟨hsA,hoA⟩:=hs7.set (sqL_setMode Hln.out.1 hlt (bm:Int))
   have hml:(ms.set k (bm:Int)).length=4:=by rw [List.length_set];exact Hln.out.1
   have x2:=hsA.cell (sqL_small hml Hln.out.2.1 hlt)
   have y2:=frozen_of_row _ BS (9+k) _ _ hsA
   obtain ⟨hsB,hoB⟩:=hsA.set (sqL_setSmall hml Hln.out.2.1 hlt (.slice (some ⟨gL,0,none⟩) 16 capL))
   have HSB:=lh hsB
   have HOB:=lh (hoA.trans hoB (U:=[BS]) (fun _ h _=>h) (fun _ h _=>h))
   have hbm0:(0:Int)≤(bm:Int):=by omega
   clear hs7 hsA hoA hsB hoB hml
   have r7:=HQ7.out.row (HQk.out.rowAt HR6.out HK0.out.1)
   have r8:=HOB.out.rowAt r7 (by have:=HK0.out;simp only [mSg,List.mem_cons,List.not_mem_nil,or_false] at this ⊢;omega)
   obtain ⟨a0,a1,a2⟩:=frame_cells r8
   go_wp2_with fail
   clear x1 y1 x2 y2 r7 a0 a1 a2
   generalize hW8:World.setCell (World.setCell w7 _ _) _ _=W8 at *
   clear hW8 r8
   have HO8:=lh ((HOk.out.quiet HQ7.out).only HOB.out (fun g hg e=>by rw [mSg] at hg;simp only [Value.ownBlock,Option.some.injEq] at e;have:=HK0.out.2.2.2;omega))
   have HI8:=lh (HO7.out.ints.only HOB.out (fun g hg=>by rw [mSg] at hg;have:=HQk.out.size;have:=HZ6.out;omega))
   have hg0r:g0<wr.heap.size:=by have:=HN.out;have:=HQk.out.size;have:=HZ6.out;omega
   have hdec:=HDec.out W8 P _ _ g0 cap0 w.heap.size _ L AX AY (bm:Int) HPk.out (by rw [HPl.out];exact HO8.out) HI8.out (.inl hg0r) HLev.out.1 HLev.out.2 ⟨hbm0,by omega⟩ HB.out.1.1 HB.out.1.2 HB.out.2.1 HB.out.2.2
   rw [HPl.out] at hdec
   have HDe:=lh hdec
   clear hdec
   go_at_call 119
   refine HDe.out.mono ?_
   rintro e w9 ⟨rfl,ho9,hq9⟩
   have HO9:=lh ho9
   have HQ9:=lh hq9
   clear ho9 hq9 HDe
   go_wp2_with fail
   have z1:=HQ7.out.size
   have z2:=HOB.out.size
   have z3:=HQ9.out.size
   have z4:=HQk.out.size
   have z5:=HZ6.out
   have hAll:Only [g0,BS] wr w9:=((HQ7.out.mono (U:=[g0,BS]) (by simp)).trans HOB.out (U:=[g0,BS]) (fun _ h _=>h) (fun g h _=>by rw [mSg] at h;subst h;simp)).trans HQ9.out (U:=[g0,BS]) (fun _ h _=>h) (fun g h _=>by rw [mSg] at h;subst h;simp)
   refine ⟨⟨k+1,(oneD ⟨f.W,f.H,P⟩ AX AY 4 bm q L).pix,ms.set k bm,vs.set k (.slice (some ⟨gL,0,none⟩) 16 capL),ls ++ [L],c+4*bs,by omega,by go_num,rfl,HFr,HO9,lh (HQ9.out.rowAt HSB.out (by have:=HK0.out.2.2.2;simp only [mSg];omega)),lh ⟨by rw [List.length_set];exact Hln.out.1,by rw [List.length_set];exact Hln.out.2.1,by rw [List.length_append,Hln.out.2.2];rfl⟩,lh (fun j hj=>?_),lh ?_,lh ?_,lh (HQk.out.trans hAll (fun _ h _=>h) (fun _ h _=>h))⟩,by simp [intOf];omega⟩
   ·by_cases hjk:j=k
    ·subst hjk
     have e2:(ls ++ [L]).getD j []=L:=by
      rw [List.getD_eq_getElem?_getD,List.getElem?_append_right (by rw [Hln.out.2.2];exact Nat.le_refl _),Hln.out.2.2,Nat.sub_self];rfl
     rw [getD_set_self (by have:=Hln.out.2.1;omega),e2]
     exact (HI8.out.only HQ9.out (fun g hg=>by rw [mSg] at hg;omega)).mono (by omega) (by omega)
    ·have hjl:j<k:=by omega
     have e2:(ls ++ [L]).getD j []=ls.getD j []:=by
      rw [List.getD_eq_getElem?_getD,List.getElem?_append_left (by rw [Hln.out.2.2];exact hjl),← List.getD_eq_getElem?_getD]
     rw [getD_set_ne hjk,e2]
     exact ((Hins.out j hjl).only hAll (fun g hg=>by have:=HN.out;simp only [List.mem_cons,List.not_mem_nil,or_false] at hg;omega)).mono (Nat.le_refl _) hAll.size
   ·rw [take_set4 Hln.out.1 hlt,← Hgo.out,HStep.out];rfl
   ·have:=Hc.out;omega
  ·obtain rfl:k=4:=by omega
   have hki:¬ ((4:Nat):Int)<4:=by omega
   have HF:Hid (FE=(ms,ls,c)):=lh (by rw [← Hgo.out,List.take_of_length_le (by have:=Hln.out.1;omega)];rfl)
   have hin:SqIn (BS+1) wr.heap.size wr nilS vs [] ls:=⟨Ints.nil _ _ _ _,Hln.out.2.1,fun i hi=>Hins.out i hi⟩
   have HIn:=lh hin
   have HInf:=lh (sqL_info (k:=3) (mo:=0) (ms:=ms) (vx:=0) (vy:=0) (lv:=nilS) (vs:=vs) Hln.out.1 Hln.out.2.1)
   have HOc:=lh (sqL_one (k:=3) (mo:=0) (ms:=ms) (vx:=0) (vy:=0) (lv:=nilS) (vs:=vs) rfl hin.one.2)
   have HSz:=lh (sqL_sizes (k:=0) (mo:=0) (ms:=[0,0,0,0]) (vx:=0) (vy:=0) (lv:=nilS) (vs:=[nilS,nilS,nilS,nilS]) (k':=3) (mo':=0) (ms':=ms) (vx':=0) (vy':=0) (lv':=nilS) (vs':=vs) rfl rfl Hln.out.1 Hln.out.2.1)
   have HUnd:=lh Tryz.underlying158
   have HRt:=lh (HQk.out.rowAt HR16.out HK0.out.2.1)
   have HFn:=lh (show SqRow (w.heap.size+1) (wr.setRow (w.heap.size+1) (sqL 3 0 ms 0 0 nilS vs).toArray) 3 0 ms 0 0 nilS vs from setRow_heap wr (w.heap.size+1) _ _ _ _ HRt.out)
   have HSo:=lh (Only.setRow (S:=[w.heap.size+1]) (Only.refl _ wr) (g:=w.heap.size+1) (fun _=>by simp) (sqL 3 0 ms 0 0 nilS vs).toArray)
   clear hin
   go_wp2_with (first
    | (refine wpList_load_row rfl (.tmp 14) 158 rfl rfl HSk.out HUnd.out rfl HInf.out ?_)
    | (refine wpList_store_row rfl (.tmp 10) (.tmp 80) 158 rfl rfl rfl HRt.out HInf.out HSz.out HOc.out ?_)
    | fail)
   rw [HF.out] at HPost
   have z1:=HSo.out.size
   have z2:=HQk.out.size
   have z3:=HN.out
   have z4:=HZ6.out
   refine bodyPost_ret (v:=.tuple #[.agg (sqL 3 0 ms 0 0 nilS vs).toArray,.int .i64 c]) (results_cell_row2 Tryz.results134 _ _ (w.heap.size+1) _ _ _ _ _ rfl rfl HFn.out HUnd.out rfl HInf.out) rfl (HPost.out _ _ ⟨vs,rfl,Hln.out.1,?_,?_⟩)
   ·have hin2:=HIn.out.only HSo.out (fun g hg=>by rw [mSg] at hg;omega)
    exact ⟨hin2.large.mono (by omega) (by omega),hin2.len,fun i hi=>(hin2.small i hi).mono (by omega) (by omega)⟩
   ·exact ((HQ6.out.trans HQk.out (U:=[]) (by simp) (fun g hg hlt=>by simp only [List.mem_cons,List.not_mem_nil,or_false] at hg;omega))).trans HSo.out (U:=[]) (by simp) (fun g hg hlt=>by rw [mSg] at hg;omega)
end
/-- the best square so far, in block BQ; what it costs, in block LB; its lists from base on -/
structure BestAt (BQ LB base:Nat) (w:World) (r:SqD×Int):Prop where
 least:w.heap[LB]?=some (.cells #[.int .i64 r.2] 3 (0,0))
 best:∃ lv vs,SqRow BQ w r.1.kind r.1.mode r.1.modes r.1.vx r.1.vy lv vs∧SqIn base w.heap.size w lv vs r.1.large r.1.small
 ml:r.1.modes.length=4
 lt:BQ<base∧LB<base∧BQ≠LB
theorem BestAt.quiet {BQ LB base:Nat} {w w':World} {r:SqD×Int} (h:BestAt BQ LB base w r) (o:Only [] w w'):BestAt BQ LB base w' r:=by
 obtain ⟨lv,vs,h1,h2⟩:=h.best
 have h3:=h2.only o (by simp)
 exact ⟨o.row h.least,⟨lv,vs,o.row h1,⟨h3.large.mono (Nat.le_refl _) o.size,h3.len,fun i hi=>(h3.small i hi).mono (Nat.le_refl _) o.size⟩⟩,h.ml,h.lt⟩
theorem SqIn.grown {lo:Nat} {w w':World} {lv:Value} {vs:List Value} {L:List Int} {S:List (List Int)} (h:SqIn lo w.heap.size w lv vs L S) {T:List Nat} (o:Only T w w') (hT:∀ g∈T,g<lo):SqIn lo w'.heap.size w' lv vs L S:=by
 have h3:=h.only o (fun g hg=>.inl (hT g hg))
 exact ⟨h3.large.mono (Nat.le_refl _) o.size,h3.len,fun i hi=>(h3.small i hi).mono (Nat.le_refl _) o.size⟩
section
theorem qETake0 {p:Prop} (h:p:=by
 clear hc
 go_enter Tryz.func128,Tryz.ntmps128
 go_wp2_with (first
  | (refine wpList_load_row rfl (.tmp 4) 158 rfl rfl HNew.out HUnd.out rfl HI.out ?_)
  | (refine wpList_store_row rfl (.tmp 3) (.tmp 13) 158 rfl rfl rfl HB.out HI.out HS.out H1.out ?_)
  | fail)
 exact bodyPost_end (results_none Tryz.results128 _ _ _) rfl (HPost.out _ _ ⟨rfl,hfin.out⟩)):p:=h
theorem mtake_any {LB BQ:Nat} {C C':Array Value} {ls c:Int} {w:World} (hl:w.heap[LB]?=some (.cells #[.int .i64 ls] 3 (0,0))) (hb:w.heap[BQ]?=some (.cells C 158 (0,0))) (hne:BQ≠LB) (h1:C'.all (·.oneCell')=true) (hs:C.size=C'.size) (hi:(Tryz.prog.info? 158).map (·.size)=some C'.size) :
  Calls Tryz.prog 128 #[.agg C',.int .i64 c,.pointer (some ⟨LB,0,none⟩),.pointer (some ⟨BQ,0,none⟩)] w fun e w'=>e=.returned (.tuple #[])∧w'.heap[LB]?=some (.cells #[.int .i64 (if ls<0∨c<ls then c else ls)] 3 (0,0))∧w'.heap[BQ]?=some (.cells (if ls<0∨c<ls then C' else C) 158 (0,0))∧Only [LB,BQ] w w':=by
 refine hidQ fun Q HPost=>?_
 have hq:=Only.new w (.cells C' 158)
 have HNew:=lh (heap_alloc_new w (.cells C' 158))
 have HL:=lh (hq.row hl)
 have HB:=lh (hq.row hb)
 have HQ:=lh hq
 have HI:=lh hi
 have HS:=lh hs
 have H1:=lh h1
 have hlw:=(Array.getElem?_eq_some_iff.1 hl).1
 have hbw:=(Array.getElem?_eq_some_iff.1 hb).1
 have HUnd:=lh Tryz.underlying158
 have c0:(w.alloc (.cells C' 158)).cell? ⟨LB,0,none⟩=some (.int .i64 ls):=by rw [cell_of_row _ _ _ _ _ _ HL.out];rfl
 clear hq hi hs h1
 have way:(ls<0∨c<ls)→Calls Tryz.prog 128 #[.agg C',.int .i64 c,.pointer (some ⟨LB,0,none⟩),.pointer (some ⟨BQ,0,none⟩)] w Q:=by
  intro hc
  rw [if_pos hc,if_pos hc] at HPost
  have hr2:=setRow_heap (w.alloc (.cells C' 158)) BQ _ C' _ _ HB.out
  have ho2:=Only.setRow (S:=[BQ]) (Only.refl _ (w.alloc (.cells C' 158))) (g:=BQ) (fun _=>by simp) C'
  have hl2:=ho2.rowAt HL.out (by simp only [mSg];omega)
  have c2:((w.alloc (.cells C' 158)).setRow BQ C').cell? ⟨LB,0,none⟩=some (.int .i64 ls):=by rw [cell_of_row _ _ _ _ _ _ hl2];rfl
  have f2:=frozen_of_row _ LB 0 _ _ hl2
  have HR2:=lh hr2
  have HO2:=lh ho2
  have hr3:=heap_setCell_same _ LB 0 _ _ (.int .i64 c) hl2
  have ho3:Only [LB] ((w.alloc (.cells C' 158)).setRow BQ C') (((w.alloc (.cells C' 158)).setRow BQ C').setCell ⟨LB,0,none⟩ (.int .i64 c)):=(Only.refl _ _).setCell (by simp) _
  have HR3:=lh hr3
  have HO3:=lh ho3
  clear hr2 ho2 hl2 hr3 ho3 hl hb
  have hfin:Hid ((((w.alloc (.cells C' 158)).setRow BQ C').setCell ⟨LB,0,none⟩ (.int .i64 c)).heap[LB]?=some (.cells #[.int .i64 c] 3 (0,0))∧(((w.alloc (.cells C' 158)).setRow BQ C').setCell ⟨LB,0,none⟩ (.int .i64 c)).heap[BQ]?=some (.cells C' 158 (0,0))∧Only [LB,BQ] w (((w.alloc (.cells C' 158)).setRow BQ C').setCell ⟨LB,0,none⟩ (.int .i64 c))):=lh ⟨HR3.out,HO3.out.rowAt HR2.out (by simp only [mSg];omega),((HQ.out.mono (U:=[LB,BQ]) (by simp)).trans HO2.out (U:=[LB,BQ]) (fun _ h _=>h) (fun g h _=>by rw [mSg] at h;subst h;simp)).trans HO3.out (fun _ h _=>h) (fun g h _=>by rw [mSg] at h;subst h;simp)⟩
  by_cases hn:ls<0
  ·exact qETake0
  ·have hc2:c<ls:=hc.elim (fun h=>absurd h hn) id
   exact qETake0
 by_cases hc:ls<0∨c<ls
 ·exact way hc
 ·rw [if_neg hc,if_neg hc] at HPost
  have n1:¬ ls<0:=fun h=>hc (.inl h)
  have n2:¬ c<ls:=fun h=>hc (.inr h)
  clear hc way hl hb
  go_enter Tryz.func128,Tryz.ntmps128
  go_wp2_with fail
  exact bodyPost_end (results_none Tryz.results128 _ _ _) rfl (HPost.out _ _ ⟨rfl,HL.out,HB.out,HQ.out.mono (by simp)⟩)
theorem mtakeB_any {BQ LB base:Nat} {r:SqD×Int} {s:SqD} {c:Int} {w:World} {lv:Value} {vs:List Value} (h:BestAt BQ LB base w r) (hm:s.modes.length=4) (hin:SqIn base w.heap.size w lv vs s.large s.small) :
  Calls Tryz.prog 128 #[.agg (sqL s.kind s.mode s.modes s.vx s.vy lv vs).toArray,.int .i64 c,.pointer (some ⟨LB,0,none⟩),.pointer (some ⟨BQ,0,none⟩)] w fun e w'=>e=.returned (.tuple #[])∧BestAt BQ LB base w' (betterE r s c)∧Only [LB,BQ] w w':=by
 obtain ⟨lv0,vs0,hr,hin0⟩:=h.best
 obtain ⟨l1,l2,l3⟩:=h.lt
 refine (mtake_any h.least hr l3 (sqL_one hin.one.1 hin.one.2) (sqL_sizes h.ml hin0.len hm hin.len) (sqL_info hm hin.len)).mono ?_
 rintro e w' ⟨rfl,hl',hb',hq'⟩
 have hT:∀ g∈[LB,BQ],g<base:=by intro g hg;simp only [List.mem_cons,List.not_mem_nil,or_false] at hg;omega
 refine ⟨rfl,?_,hq'⟩
 unfold betterE
 by_cases hc:r.2<0∨c<r.2
 ·rw [if_pos hc] at hl' hb' ⊢
  exact ⟨hl',⟨lv,vs,hb',hin.grown hq' hT⟩,hm,h.lt⟩
 ·rw [if_neg hc] at hl' hb' ⊢
  exact ⟨hl',⟨lv0,vs0,hb',hin0.grown hq' hT⟩,h.ml,h.lt⟩
end
section
theorem pat_any {lo hi:Nat} {pv:Value} {w:World} {f:FrameD} (hok:FrOk f) (h:Ints .i64 lo hi w pv f.pix) (x y:Int) (hx:0≤x∧x<f.W) (hy:0≤y∧y<f.H) :
  Calls Tryz.prog 149 #[.agg #[.int .i64 f.W,.int .i64 f.H,pv],.int .i64 x,.int .i64 y] w fun e w'=>e=.returned (.int .i64 (f.pix.getD (y*f.W+x).toNat 0))∧Only [] w w':=by
 have hW:8≤f.W∧f.W≤32:=⟨hok.w0,hok.w1⟩
 have hH:8≤f.H∧f.H≤32:=⟨hok.h0,hok.h1⟩
 obtain ⟨i1,i2,i3,i4⟩:=atD_idx hW hH x y
 rw [show min (max y 0) (f.H-1)=y by omega] at i1 i2
 rw [show min (max x 0) (f.W-1)=x by omega] at i2
 have hlen:=hok.len
 obtain ⟨b,off,cap,rfl,-,-,hc⟩:=h.at (i:=(y*f.W+x).toNat) (by omega)
 have HQ:=lh (Only.new w (.cells #[.int .i64 f.W,.int .i64 f.H,.slice (some ⟨b,off,none⟩) f.pix.length cap] 73))
 have hc2:=(Only.new w (.cells #[.int .i64 f.W,.int .i64 f.H,.slice (some ⟨b,off,none⟩) f.pix.length cap] 73)).cell hc (by simp)
 have HR:=lh (heap_alloc_new w (.cells #[.int .i64 f.W,.int .i64 f.H,.slice (some ⟨b,off,none⟩) f.pix.length cap] 73))
 generalize f.pix.getD (y*f.W+x).toNat 0=v at *
 generalize f.pix.length=N at *
 generalize f.W=W at *
 generalize f.H=H at *
 obtain ⟨k,hk⟩:∃ k:Nat,(y*W+x).toNat=k:=⟨_,rfl⟩
 have hk2:y*W+x=(k:Int):=by omega
 rw [hk] at hc hc2
 obtain ⟨hx0,hx1⟩:=hx
 obtain ⟨hy0,hy1⟩:=hy
 obtain ⟨hW1,hW2⟩:=hW
 obtain ⟨hH1,hH2⟩:=hH
 have p1:¬ y<0:=by omega
 have p2:¬ H-1<y:=by omega
 have p3:¬ x<0:=by omega
 have p4:¬ W-1<x:=by omega
 have a1:IntKind.i64.wrap (H-1)=H-1:=by rw [IntKind.wrap_i64];omega
 have a2:IntKind.i64.wrap (W-1)=W-1:=by rw [IntKind.wrap_i64];omega
 have hm1:0≤y*W:=i1
 have a3:IntKind.i64.wrap (y*W)=y*W:=by rw [IntKind.wrap_i64];omega
 have a4:IntKind.i64.wrap (y*W+x)=(k:Int):=by rw [hk2,IntKind.wrap_i64];omega
 have q0:(0:Int)≤(k:Int):=by omega
 have q1:(k:Int)<(N:Int):=by omega
 clear hc h hok hlen i1 i2 i3 i4 hk hk2 hm1
 obtain ⟨r0,r1,r2⟩:=frame_cells HR.out
 go_enter Tryz.func149,Tryz.ntmps149
 go_wp2_with fail
 go_ret
 exact ⟨rfl,HQ.out⟩
def getK (f:FrameD) (x y:Int) (k:Nat):List Int:=(List.range k).map fun i:Nat=>f.pix.getD ((y+((i / 8:Nat):Int))*f.W+(x+((i % 8:Nat):Int))).toNat 0
theorem getK_len (f:FrameD) (x y:Int) (k:Nat):(getK f x y k).length=k:=by simp [getK]
theorem getK_more (f:FrameD) (x y:Int) {j i:Nat} (hi:i<8):getK f x y (j*8+i+1)=getK f x y (j*8+i) ++ [f.pix.getD ((y+(j:Int))*f.W+(x+(i:Int))).toNat 0]:=by
 have e1:(j*8+i) / 8=j:=by omega
 have e2:(j*8+i) % 8=i:=by omega
 unfold getK
 rw [List.range_succ,List.map_append,List.map_cons,List.map_nil,e1,e2]
theorem getK_all (f:FrameD) (x y:Int):getK f x y 64=getSq f x y 8:=by
 unfold getK getSq
 have e:∀ i:Nat,((y+((i / 8:Nat):Int))*f.W+(x+((i % 8:Nat):Int)))=(y+((i / 8:Nat):Int))*f.W+x+((i % 8:Nat):Int):=fun i=>by omega
 simp only [e]
 rfl
theorem pget_any {lo hi:Nat} {pv:Value} {w:World} {f:FrameD} (hok:FrOk f) (h:Ints .i64 lo hi w pv f.pix) (x y:Int) (hx:0≤x∧x+8≤f.W) (hy:0≤y∧y+8≤f.H) :
  Calls Tryz.prog 127 #[.agg #[.int .i64 f.W,.int .i64 f.H,pv],.int .i64 x,.int .i64 y,.int .i64 8] w fun e w'=>∃ v',e=.returned v'∧Own .i64 3 w.heap.size w' v' (getSq f x y 8)∧Only [] w w':=by
 refine hidQ fun Q HPost=>?_
 obtain ⟨a,cap,rfl,-⟩:=h.open
 have hq1:=Only.new w (.cells #[.int .i64 f.W,.int .i64 f.H,.slice a f.pix.length cap] 73)
 have HR1:=lh (heap_alloc_new w (.cells #[.int .i64 f.W,.int .i64 f.H,.slice a f.pix.length cap] 73))
 have HQ1:=lh hq1
 have HI:=lh (h.quiet hq1)
 have HM:=lh (fun (W:World) (o:Ints .i64 lo hi W (.slice a f.pix.length cap) f.pix)=>by have:=pmay_any f.W f.H o;rw [show mayF ⟨f.W,f.H,f.pix⟩=true from mayF_iff.2 hok] at this;exact this)
 have HA:=lh (fun (W:World) (o:Ints .i64 lo hi W (.slice a f.pix.length cap) f.pix) (x y:Int) (hx:0≤x∧x<f.W) (hy:0≤y∧y<f.H)=>pat_any hok o x y hx hy)
 have Hin:=lh (fun k=>hok.sam.at k)
 have HD:=lh (getK_all f x y)
 have hw1:=hok.w1
 have hh1:=hok.h1
 obtain ⟨hx0,hx1⟩:=hx
 obtain ⟨hy0,hy1⟩:=hy
 have x2:x≤24:=by omega
 have y2:y≤24:=by omega
 clear h hq1 hok
 obtain ⟨r0,r1,r2⟩:=frame_cells HR1.out
 go_enter Tryz.func127,Tryz.ntmps127
 go_wp2_with fail
 clear r0 r1 r2
 generalize hW1:World.alloc w _=W1 at *
 have HZ1:Hid (w.heap.size<W1.heap.size):=lh (by rw [← hW1];simp)
 clear hW1
 go_at_call 79
 refine (HM.out W1 HI.out).mono ?_
 rintro e w2 ⟨rfl,hq2⟩
 have HQ2:=lh hq2
 clear hq2 HM
 go_wp2_with fail
 go_loopw [40,9,44] (fun j r _ wr=>∃ (k:Nat),k≤8∧j=.int .i64 k∧Hid (Own .i64 3 W1.heap.size wr r (getK f x y (k*8)))∧Hid (From W1.heap.size r)∧Hid (Only [] W1 wr)) (fun j _ _ _=>8-(intOf j).toNat)
 case atStart=>exact ⟨0,by omega,rfl,lh (Own.nil _ _ _ _),lh (From.nil _),HQ2⟩
 case round =>
  obtain ⟨k,hk,rfl,HOk,HFk,HQk⟩:=hrel
  by_cases hlt:k<8
  ·have hki:(k:Int)<8:=by omega
   have hk0:(0:Int)≤(k:Int):=by omega
   go_wp2_with fail
   go_loopw [44,9] (fun i r wr=>∃ (n:Nat),n≤8∧i=.int .i64 n∧Hid (Own .i64 3 W1.heap.size wr r (getK f x y (k*8+n)))∧Hid (From W1.heap.size r)∧Hid (Only [] W1 wr)) (fun i _ _=>8-(intOf i).toNat)
   case atStart=>exact ⟨0,by omega,rfl,HOk,HFk,HQk⟩
   case round =>
    obtain ⟨n,hn,rfl,HOn,HFn,HQn⟩:=hrel
    by_cases hnlt:n<8
    ·have hni:(n:Int)<8:=by omega
     have hn0:(0:Int)≤(n:Int):=by omega
     have Hmore:=lh (getK_more f x y (j:=k) hnlt)
     have HC:=lh (fun W o=>HA.out W o (x+(n:Int)) (y+(k:Int)) (by omega) (by omega))
     have hin:=Hin.out ((y+(k:Int))*f.W+(x+(n:Int))).toNat
     generalize f.pix.getD ((y+(k:Int))*f.W+(x+(n:Int))).toNat 0=hv at *
     have hink:∀ z∈[hv],InK .i64 z:=by simp only [mSg,forall_eq,InK];omega
     have hsrc:=lh (fun (W:World)=>ints_newG (k:=.i64) (w:=W) (t:=3) (l:=[hv]) rfl (by simp [maxLen]) hink 1 rfl rfl)
     have hby:=lh (show ((getK f x y (k*8+n)).length+[hv].length)*8≤140737488355328 by rw [getK_len];simp;omega)
     have Hlen:Hid ((getK f x y (k*8+n) ++ [hv]).length=k*8+n+1):=lh (by rw [List.length_append,getK_len];rfl)
     obtain ⟨ra,rcap,rfl,-⟩:=HOn.out.ints.open
     rw [getK_len] at HOn HFn ⊢
     obtain ⟨r0,r1,r2⟩:=frame_cells (HQn.out.row HR1.out)
     have HIn:=lh (HI.out.quiet HQn.out)
     clear hink hin
     go_wp2_with fail
     go_at_call 149
     refine (HC.out _ HIn.out).mono ?_
     rintro e w3 ⟨rfl,hq3⟩
     have HQ3:=lh hq3
     have HO3:=lh (HOn.out.quiet hq3)
     have hba:=lh (fun (o:Obj)=>(show W1.heap.size≤(w3.alloc o).heap.size by have:=HQn.out.size;have:=hq3.size;simp;omega))
     clear hq3
     go_wp2_with (first
      | (at_builtin;refine wpList_append_ints rfl (.tmp 47) (.tmp 56) _ rfl EI (HO3.out.quiet (Only.new _ _)) rfl (hsrc.out _) rfl hby.out (hba.out _) (fun v1 w4 hown1 ho1=>?_);obtain ⟨x1,x1cap,hx1,_⟩:=hown1.ints.open;subst hx1;rw [Hlen.out] at hown1 ho1 ⊢;have HO1:=lh hown1;have HA1:=lh ho1;clear hown1 ho1)
      | fail)
     refine ⟨⟨n+1,by omega,by go_num,lh ?_,lh (HA1.out.from_ HFn.out (hba.out _)),lh (((HQn.out.q HQ3.out).q (Only.new _ _)).acc HA1.out HFn.out)⟩,by simp [intOf];omega⟩
     rw [← Nat.add_assoc,Hmore.out]
     exact HO1.out
    ·obtain rfl:n=8:=by omega
     have hni:¬ ((8:Nat):Int)<8:=by omega
     have HO8:Hid (getK f x y (k*8+8)=getK f x y ((k+1)*8)):=lh (by rw [show (k+1)*8=k*8+8 by omega])
     rw [HO8.out] at HOn
     go_wp2_with fail
     exact ⟨⟨k+1,by omega,by go_num,HOn,HFn,HQn⟩,by simp [intOf];omega⟩
  ·obtain rfl:k=8:=by omega
   have hki:¬ ((8:Nat):Int)<8:=by omega
   have HO8:Hid (getK f x y (8*8)=getSq f x y 8):=HD
   rw [HO8.out] at HOk
   go_wp2_with fail
   exact HPost.out _ _ ⟨_,rfl,HOk.out.lower (Nat.le_of_lt HZ1.out),HQ1.out.q HQk.out⟩
end
end Go.Proofs.YtkigikallkpbcaaGreatDoor
