/- Joined texts: DModel, DModR, DNums. Conditions: each part names its own. -/
import Derived.Test.YtmdobcffijnaoaaGreatDoorT1
import Derived.Test.YtmdobcffijnaoaaGreatDoorK4
import Derived.Deep.WholeRow
namespace Go.Proofs.YtmdobcffijnaoaaGreatDoor
open Go.RowKit
set_option linter.unusedVariables false
set_option linter.unusedSimpArgs false
set_option maxRecDepth 100000
set_option maxHeartbeats 16000000
/-- a whole row into its block -/
theorem Only.setRow {S:List Nat} {w w1:World} (h:Only S w w1) {g:Nat} (hg:g<w.heap.size→g∈S) (cs:Array Value):Only S w (w1.setRow g cs) :=
 ⟨h.os,h.tape,h.output,by rw [size_setRow];exact h.size,fun k hk hn=>by
  have hne:k≠g:=fun e=>hn (by rw [e];exact hg (by rw [← e];exact hk))
  rw [setRow_other _ _ _ _ hne]
  exact h.block k hk hn⟩
section
variable {P:Program}
/-- the load of a whole row -/
theorem wpList_load_row {w:World} {ops:Array Oper} {rest:List Oper} {o:Oper} {a:Act} {Q:Exit→Act→World→Prop} (hgd:o.guard=none) (x:Operand) (t:TypeId) (ho:o.op=.load t x)
  {g:Nat} {c:Array Value} {ty:TypeId} {fr:Nat×Nat} {d:TypeDesc} (hx:a.eval x=.pointer (some ⟨g,0,none⟩)) (hr:w.heap[g]?=some (.cells c ty fr)) (hu:P.underlying t=some d) (hd:(match d with | .struct _ | .array _ _=>true | _=>false)=true)
  (hi:(P.info? t).map (·.size)=some c.size) (h:wpList P ops Q rest (a.put o.dst (.agg c)) w):wpList P ops Q (o :: rest) a w :=
 wpList_plain hgd fun _ hK=>by
  unfold Oper.wp execOp
  simp only [ho,hx,Instr.loadAt,Instr.sureAddr,Sem.run_bind,Sem.run_pure,Result.andThen_ok,run_loadVar_row w g ty t c fr d hr hu hd hi]
  exact hK _ _ h
/-- the store of a whole row -/
theorem wpList_store_row {w:World} {ops:Array Oper} {rest:List Oper} {o:Oper} {a:Act} {Q:Exit→Act→World→Prop} (hgd:o.guard=none) (x y:Operand) (t:TypeId) (ho:o.op=.store t x y)
  {g:Nat} {c c':Array Value} {ty:TypeId} (hx:a.eval x=.pointer (some ⟨g,0,none⟩)) (hy:a.eval y=.agg c') (hr:w.heap[g]?=some (.cells c ty (0,0))) (hi:(P.info? t).map (·.size)=some c'.size) (hs:c.size=c'.size) (h1:c'.all (·.oneCell')=true)
  (h:wpList P ops Q rest (a.put o.dst undef) (w.setRow g c')):wpList P ops Q (o :: rest) a w :=
 wpList_plain hgd fun _ hK=>by
  unfold Oper.wp execOp
  simp only [ho,hx,hy,Instr.storeAt,Instr.sureAddr,Sem.run_bind,Sem.run_pure,Result.andThen_ok,run_storeVar_row w g ty t c c' hr hi hs h1]
  exact hK _ _ h
end
/-- a row half filled -/
def fillV (k:Nat) (a b:Value) (n:Nat):List Value:=List.replicate k a ++ List.replicate (n-k) b
theorem fillV_set {k n:Nat} (h:k<n) (a b:Value):(fillV k a b n).toArray.setIfInBounds k a=(fillV (k+1) a b n).toArray:=by
 unfold fillV
 rw [List.setIfInBounds_toArray]
 congr 1
 rw [List.set_append_right _ _ (by simp),List.length_replicate,Nat.sub_self,show n-k=(n-(k+1))+1 by omega,List.replicate_succ,List.set_cons_zero,List.replicate_succ',List.append_assoc]
 rfl
theorem fillV_at {k n:Nat} (h:k<n) (a b:Value):(fillV k a b n).toArray[k]?=some b:=by
 unfold fillV
 rw [List.getElem?_toArray,List.getElem?_append_right (by simp),List.length_replicate,Nat.sub_self,show n-k=(n-(k+1))+1 by omega,List.replicate_succ]
 rfl
theorem begin_any (w:World):Calls Tryz.prog 94 #[] w fun e w'=>e=.returned (.agg (List.replicate 64 (.int .i64 1024)).toArray)∧Only [] w w':=by
 refine hidQ fun Q HPost=>?_
 go_enter Tryz.func94,Tryz.ntmps94
 go_wp2_with fail
 generalize hWg:World.alloc (World.alloc w _) _=W0
 have r0:W0.heap[w.heap.size]?=some (.cells (fillV 0 (.int .i64 1024) (.int .i64 0) 64).toArray 194 (0,0)):=by
  rw [← hWg];exact (Below.heap_alloc _ _ _ (by simp)).trans (heap_alloc_new _ _)
 have r1:W0.heap[w.heap.size+1]?=some (.cells (fillV 0 (.int .i64 1024) (.int .i64 0) 64).toArray 194 (0,0)):=by
  rw [← hWg];exact heap_alloc_new' (by simp)
 have hq0:Only [] w W0:=by rw [← hWg];exact (Only.new _ _).q (Only.new _ _)
 have H0:=lh (And.intro r0 (And.intro r1 hq0))
 clear hWg r0 r1 hq0
 go_loopw [2,3] (fun _ i wr=>∃ k:Nat,k≤64∧i=.int .i64 k∧wr.heap[w.heap.size+1]?=some (.cells (fillV k (.int .i64 1024) (.int .i64 0) 64).toArray 194 (0,0))∧Only [w.heap.size+1] W0 wr) (fun _ i _=>64-(intOf i).toNat)
 case atStart=>exact ⟨0,by omega,rfl,H0.out.2.1,Only.refl _ _⟩
 case round =>
  obtain ⟨k,hk,rfl,hr,hq⟩:=hrel
  by_cases hlt:k<64
  ·have hlti:(k:Int)<64:=by omega
   have hx:(0:Int)≤(k:Int):=by omega
   have c1:wr.cell? ⟨w.heap.size+1,k,none⟩=some (.int .i64 0):=by rw [cell_of_row _ _ _ _ _ _ hr];exact fillV_at hlt _ _
   have f1:=frozen_of_row wr (w.heap.size+1) k _ _ hr
   have hset:=heap_setCell_same wr (w.heap.size+1) k _ _ (.int .i64 1024) hr
   rw [fillV_set hlt] at hset
   have o1:Only [w.heap.size+1] wr (wr.setCell ⟨w.heap.size+1,k,none⟩ (.int .i64 1024)):=(Only.refl _ _).setCell (by simp) _
   have HS:=lh (And.intro hset (hq.trans o1 (fun g h _=>h) (fun g h _=>h)))
   clear hr hset o1 hq
   go_wp2_with fail
   go_roundw
   case rel=>exact ⟨k+1,by omega,by go_num,HS.out.1,HS.out.2⟩
   case measure=>simp [intOf];omega
  ·obtain rfl:k=64:=by omega
   have hr':wr.heap[w.heap.size+1]?=some (.cells (List.replicate 64 (.int .i64 1024)).toArray 194 (0,0)):=by rw [hr];simp [fillV]
   have r0:=hq.rowAt H0.out.1 (by simp)
   have h64:(List.replicate 64 (Value.int .i64 1024)).length=64:=by simp
   have h1:∀ v∈List.replicate 64 (Value.int .i64 1024),v.oneCell'=true:=fun v hv=>by rw [(List.mem_replicate.1 hv).2];rfl
   generalize List.replicate 64 (Value.int .i64 1024)=C at *
   have h1a:(C.toArray).all (·.oneCell')=true:=by rw [Array.all_eq_true_iff_forall_mem];intro v hv;exact h1 v (by simpa using hv)
   have hinfo:(Tryz.prog.info? 194).map (·.size)=some C.toArray.size:=by rw [List.size_toArray,h64];kernel_rfl
   have hsz:(fillV 0 (Value.int .i64 1024) (.int .i64 0) 64).toArray.size=C.toArray.size:=by rw [List.size_toArray,List.size_toArray,h64];rfl
   have r2:=setRow_heap wr w.heap.size _ C.toArray _ _ r0
   have hO:Only [] w (wr.setRow w.heap.size C.toArray):=(H0.out.2.2.trans hq (by simp) (fun g hg hlt=>by rw [mSg] at hg;omega)).setRow (fun h=>absurd h (by omega)) _
   have H:=lh (And.intro hr' (And.intro r0 (And.intro h1a (And.intro hinfo (And.intro hsz (And.intro r2 hO))))))
   clear hr hr' r0 hq r2 hO h1 h1a hinfo hsz h64
   go_wp2_with (first
    | (refine wpList_load_row rfl (.tmp 1) 194 rfl rfl H.out.1 Tryz.underlying194 rfl H.out.2.2.2.1 ?_)
    | (refine wpList_store_row rfl (.tmp 0) (.tmp 9) 194 rfl rfl rfl H.out.2.1 H.out.2.2.2.1 H.out.2.2.2.2.1 H.out.2.2.1 ?_)
    | fail)
   refine bodyPost_ret (v:=.agg C.toArray) (results_cell_row Tryz.results94 _ _ w.heap.size _ _ _ _ rfl H.out.2.2.2.2.2.1 Tryz.underlying194 rfl H.out.2.2.2.1) rfl (HPost.out _ _ ⟨rfl,H.out.2.2.2.2.2.2⟩)
section
variable {P:Program}
/-- a struct or an array built whole -/
theorem wpList_build {w:World} {ops:Array Oper} {rest:List Oper} {o:Oper} {a:Act} {Q:Exit→Act→World→Prop} (hgd:o.guard=none) (t:TypeId) (parts:List (Nat×Operand)) (ho:o.op=.build t parts.toArray) {v:Value}
  (hr:(Instr.build t (parts.map fun p=>(p.1,a.eval p.2)).toArray).run P w=.ok v w) (h:wpList P ops Q rest (a.put o.dst v) w):wpList P ops Q (o :: rest) a w :=
 wpList_plain hgd fun _ hK=>by
  unfold Oper.wp execOp
  simp only [ho,List.map_toArray,Sem.run_bind,Sem.run_pure,Result.andThen_ok,hr]
  exact hK _ _ h
end
/-- the cells of a coder that reads -/
def modCells (p:List Int) (D:Nat):List Value:=p.map (Value.int .i64) ++ [.pointer (some ⟨D,0,none⟩)]
/-- a coder that reads, in block R, its decoder in block D -/
structure ModAt (lo hi R D:Nat) (bv:Value) (w:World) (m:Mod):Prop where
 row:w.heap[R]?=some (.cells (modCells m.p D).toArray 199 (0,0))
 dec:DecAt lo hi D w bv m.d
 ok:ModOk m
 hR:hi≤R
 ne:R≠D
section
variable {lo hi R D:Nat} {bv:Value} {w w':World} {m:Mod} {S:List Nat}
theorem ModAt.lt (h:ModAt lo hi R D bv w m):R<w.heap.size∧D<w.heap.size:=⟨(Array.getElem?_eq_some_iff.1 h.row).1,h.dec.lt⟩
theorem ModAt.only (h:ModAt lo hi R D bv w m) (o:Only S w w') (hS:∀ g∈S,hi≤g∧g≠R∧g≠D):ModAt lo hi R D bv w' m :=
 ⟨o.rowAt h.row (fun hm=>(hS R hm).2.1 rfl),h.dec.only o (fun g hg=>⟨(hS g hg).1,(hS g hg).2.2⟩),h.ok,h.hR,h.ne⟩
theorem ModAt.quiet (h:ModAt lo hi R D bv w m) (o:Only [] w w'):ModAt lo hi R D bv w' m:=h.only o (by simp)
theorem modCells_at {p:List Int} (h:p.length=64) (D:Nat) {c:Nat} (hc:c<64):(modCells p D).toArray[c]?=some (.int .i64 (p.getD c 0)):=by
 unfold modCells
 rw [List.getElem?_toArray,List.getElem?_append_left (by simp;omega),List.getElem?_map,List.getElem?_eq_getElem (by omega)]
 simp [h,hc]
theorem modCells_ptr {p:List Int} (h:p.length=64) (D:Nat):(modCells p D).toArray[64]?=some (.pointer (some ⟨D,0,none⟩)):=by
 unfold modCells
 rw [List.getElem?_toArray,List.getElem?_append_right (by simp;omega)]
 simp [h]
theorem ModAt.cell (h:ModAt lo hi R D bv w m) {c:Nat} (hc:c<64):w.cell? ⟨R,c,none⟩=some (.int .i64 (m.p.getD c 0)):=by
 rw [cell_of_row _ _ _ _ _ _ h.row];exact modCells_at h.ok.len D hc
theorem ModAt.ptr (h:ModAt lo hi R D bv w m):w.cell? ⟨R,64,none⟩=some (.pointer (some ⟨D,0,none⟩)):=by
 rw [cell_of_row _ _ _ _ _ _ h.row];exact modCells_ptr h.ok.len D
theorem modCells_set {p:List Int} (h:p.length=64) (D:Nat) {c:Nat} (hc:c<64) (x:Int):(modCells p D).toArray.setIfInBounds c (.int .i64 x)=(modCells (p.set c x) D).toArray:=by
 unfold modCells
 rw [List.setIfInBounds_toArray]
 congr 1
 rw [List.set_append_left _ _ (by simp;omega),List.map_set]
end
theorem mnew_any {lo hi:Nat} {v:Value} {l:List Int} {w:World} (h:Ints .u8 lo hi w v l) (hl:l.length≤100000000) :
  Calls Tryz.prog 51 #[v] w fun e w'=>∃ R D bv hi',e=.returned (.pointer (some ⟨R,0,none⟩))∧ModAt w.heap.size hi' R D bv w' (modNew l)∧Only [] w w'∧w.heap.size≤R∧w.heap.size≤D:=by
 refine hidQ fun Q HPost=>?_
 have Hok:=lh (modNew_ok h.2)
 obtain ⟨a,cap,hv,_⟩:=h.open
 subst hv
 have Hn:=lh (fun (w':World) (o:Only [] w w')=>dnew_any (h.quiet o) hl)
 clear h hl
 go_enter Tryz.func51,Tryz.ntmps51
 go_wp2_with fail
 go_at_call 94
 refine (begin_any w).mono ?_
 rintro e w1 ⟨rfl,hq1⟩
 have HQ1:=lh hq1
 clear hq1
 obtain ⟨C,hC⟩:∃ C:Array Value,C=(List.replicate 64 (Value.int .i64 1024)).toArray:=⟨_,rfl⟩
 rw [← hC]
 have HC:=lh hC
 clear hC
 go_wp2_with fail
 go_at_call 95
 refine (Hn.out w1 HQ1.out).mono ?_
 rintro e w2 ⟨D,bv,hi',rfl,hd,hq2,hz1,hz2⟩
 have HD:=lh hd
 have HQ2:=lh hq2
 clear hd hq2
 obtain ⟨C2,hC2⟩:∃ C:Array Value,C=(modCells (List.replicate 64 1024) D).toArray:=⟨_,rfl⟩
 have hb:(Instr.build 199 #[(0,.agg C),(1,.pointer (some ⟨D,0,none⟩))]).run Tryz.prog w2=.ok (.agg C2) w2:=by rw [HC.out,hC2];kernel_rfl
 have Hb:=lh hb
 have HC2:=lh hC2
 clear hb hC2
 rename_i K0 hK0
 simp only []
 refine hK0 _ _ ?_
 clear hK0
 refine wpList_build rfl 199 [(0,.tmp 3),(1,.tmp 5)] rfl Hb.out ?_
 go_wp2_with fail
 have hqn:=Only.new w2 (.cells C2 199)
 have hz3:=HQ1.out.size
 have hz4:=HD.out.lt
 refine HPost.out _ _ ⟨w2.heap.size,D,bv,hi',rfl,⟨?_,⟨(HD.out.quiet hqn).row,(HD.out.quiet hqn).bytes.mono hz3 (Nat.le_refl _),hz2⟩,Hok.out,by omega,by omega⟩,(HQ1.out.q HQ2.out).q hqn,by omega,by omega⟩
 rw [HC2.out]
 exact heap_alloc_new _ _
theorem ModAt.learn {lo hi R D:Nat} {bv:Value} {w:World} {m:Mod} (h:ModAt lo hi R D bv w m) {c:Nat} (hc:c<64) {x:Int} (hx:31≤x∧x≤2017) :
  ModAt lo hi R D bv (w.setCell ⟨R,c,none⟩ (.int .i64 x)) ⟨m.p.set c x,m.d⟩∧Only [R] w (w.setCell ⟨R,c,none⟩ (.int .i64 x)):=by
 have o:Only [R] w (w.setCell ⟨R,c,none⟩ (.int .i64 x)):=(Only.refl _ _).setCell (by simp) _
 have hr:=heap_setCell_same w R c _ _ (.int .i64 x) h.row
 rw [modCells_set h.ok.len D hc] at hr
 refine ⟨⟨hr,h.dec.only o (fun g hg=>by rw [mSg] at hg;subst hg;exact ⟨h.hR,h.ne⟩),⟨by rw [List.length_set];exact h.ok.len,fun y hy=>?_,h.ok.d⟩,h.hR,h.ne⟩,o⟩
 rcases List.mem_or_eq_of_mem_set hy with hy | rfl
 ·exact h.ok.ch y hy
 ·exact hx
theorem qDModR0 {p:Prop} (h:p:=by
 go_enter Tryz.func249,Tryz.ntmps249
 go_wp2_with fail
 go_region
 go_wp2_with fail
 refine bodyPost_end (results_none Tryz.results249 _ _ _) rfl (HPost.out _ _ ⟨rfl,?_,?_⟩)
 ·exact HL.out.1.quiet (Only.refl _ _).drew
 ·exact HL.out.2.drew):p:=h
theorem learn_any {lo hi R D:Nat} {bv:Value} {w:World} {m:Mod} (h:ModAt lo hi R D bv w m) {c:Nat} (hc:c<64) (b:Bool) :
  Calls Tryz.prog 249 #[.pointer (some ⟨R,0,none⟩),.int .i64 c,.bool b] w fun e w'=>e=.returned (.tuple #[])∧ModAt lo hi R D bv w' ⟨m.p.set c (learnV (m.p.getD c 0) b),m.d⟩∧Only [R] w w':=by
 refine hidQ fun Q HPost=>?_
 have hx:=ch_at h.ok hc
 have c0:=h.cell hc
 have f0:=frozen_of_row w R c _ _ h.row
 have HL:=lh (h.learn hc (learn_in b hx))
 have hci:(0:Int)≤(c:Int):=by omega
 have hci2:(c:Int)<64:=by omega
 clear h
 generalize m.p.getD c 0=x at *
 cases b with
 | true =>
  exact qDModR0
 | false =>
  exact qDModR0
theorem context_any (c:Nat) (hc:c<64) (w:World):Calls Tryz.prog 247 #[.int .i64 c] w fun e w'=>e=.returned (.bool true)∧w=w':=by
 have h0:(0:Int)≤(c:Int):=by omega
 have h1:(c:Int)<64:=by omega
 go_enter Tryz.func247,Tryz.ntmps247
 go_wp2
 go_ret
 exact ⟨rfl,rfl⟩
/-- a coder's range decoder, gone on -/
theorem ModAt.dec' {lo hi R D:Nat} {bv:Value} {w w':World} {m:Mod} (h:ModAt lo hi R D bv w m) {d:Rac} (o:Only [D] w w') (hd:DecAt lo hi D w' bv d) (hok:RacOk d):ModAt lo hi R D bv w' ⟨m.p,d⟩ :=
 ⟨o.rowAt h.row (by rw [mSg];exact h.ne),hd,⟨h.ok.len,h.ok.ch,hok⟩,h.hR,h.ne⟩
theorem bit_any {lo hi R D:Nat} {bv:Value} {w:World} {m:Mod} (h:ModAt lo hi R D bv w m) {c:Nat} (hc:c<64) (b:Bool) (hp:m.d.pos≤1000000000) :
  Calls Tryz.prog 244 #[.pointer (some ⟨R,0,none⟩),.int .i64 c,.bool b] w fun e w'=>e=.returned (.bool (bitD c m).1)∧ModAt lo hi R D bv w' (bitD c m).2∧Only [R,D] w w':=by
 refine hidQ fun Q HPost=>?_
 have hx:=ch_at h.ok hc
 have c0:=h.cell hc
 have c1:=h.ptr
 obtain ⟨q1,q2⟩:=chance_w h.ok.d.lo h.ok.d.hi (p:=m.p.getD c 0) (by omega) (by omega)
 have HN:=lh (narrow_ok h.ok.d q1 q2)
 have HK:=lh h
 have hci:(0:Int)≤(c:Int):=by omega
 have hci2:(c:Int)<64:=by omega
 have HC:=lh (fun (w':World) (o:Only [] w w')=>dcode_any (h.quiet o).dec h.ok.d (p:=m.p.getD c 0) (by omega) (by omega) hp)
 have HB:Hid ((bitD c m)=((m.d.narrow (m.d.r / 2048*m.p.getD c 0)).1,⟨m.p.set c (learnV (m.p.getD c 0) (m.d.narrow (m.d.r / 2048*m.p.getD c 0)).1),(m.d.narrow (m.d.r / 2048*m.p.getD c 0)).2⟩)):=lh rfl
 generalize hnw:m.d.narrow (m.d.r / 2048*m.p.getD c 0)=NW at *
 obtain ⟨nb,nd⟩:=NW
 clear h q1 q2 hnw
 go_enter Tryz.func244,Tryz.ntmps244
 go_wp2_with fail
 go_at_call 247
 refine (context_any c hc _).mono ?_
 rintro e w1 ⟨rfl,rfl⟩
 go_wp2_with fail
 go_region_with (first
  | (go_at_call 248;refine (HC.out _ (Only.refl _ _).drew).mono ?_;rintro e w2 ⟨rfl,hd2,hq2⟩;have hm2:=(HK.out.quiet (Only.refl _ _).drew).dec' hq2 hd2 HN.out.1;have Hm2:=lh hm2;have Hq2:=lh hq2;clear hd2 hq2 hm2)
  | fail)
 all_goals
  go_wp2_with fail
  go_at_call 249
  refine (learn_any Hm2.out hc nb).mono ?_
  rintro e w3 ⟨rfl,hm3,hq3⟩
  have Hm3:=lh hm3
  have Hq3:=lh hq3
  clear hm3 hq3
  go_wp2_with fail
  refine HPost.out _ _ ?_
  rw [HB.out]
  refine ⟨rfl,Hm3.out,?_⟩
  exact (((Only.refl [] _).drew.mono (U:=[R,D]) (by simp)).trans Hq2.out (fun g h _=>h) (fun g h _=>by rw [mSg] at h;simp [h])).trans Hq3.out (fun g h _=>h) (fun g h _=>by rw [mSg] at h;simp [h])
theorem flat_any {lo hi R D:Nat} {bv:Value} {w:World} {m:Mod} (h:ModAt lo hi R D bv w m) (b:Bool) (hp:m.d.pos≤1000000000) :
  Calls Tryz.prog 245 #[.pointer (some ⟨R,0,none⟩),.bool b] w fun e w'=>e=.returned (.bool (flatD m).1)∧ModAt lo hi R D bv w' (flatD m).2∧Only [R,D] w w':=by
 have c1:=h.ptr
 have r0:=h.ok.d.lo
 have r1:=h.ok.d.hi
 have HN:=lh (narrow_ok h.ok.d (w:=m.d.r / 2) (by omega) (by omega))
 have HK:=lh h
 have HC:=lh (dflat_any h.dec h.ok.d hp)
 clear h
 go_enter Tryz.func245,Tryz.ntmps245
 go_wp2_with fail
 go_at_call 250
 refine HC.out.mono ?_
 rintro e w2 ⟨rfl,hd2,hq2⟩
 go_wp2_with fail
 go_ret
 exact ⟨rfl,HK.out.dec' hq2 hd2 HN.out.1,hq2.mono (by simp)⟩
/-- a reader as a coder -/
abbrev cv (R:Nat):Value:=.iface 130 (.pointer (some ⟨R,0,none⟩))
theorem mBit (R:Nat) (w:World):(Go.method 444 130 (.pointer (some ⟨R,0,none⟩)) "Bit").run Tryz.prog w=.ok (244,.pointer (some ⟨R,0,none⟩)) w:=by kernel_rfl
theorem mFlat (R:Nat) (w:World):(Go.method 444 130 (.pointer (some ⟨R,0,none⟩)) "Flat").run Tryz.prog w=.ok (245,.pointer (some ⟨R,0,none⟩)) w:=by kernel_rfl
/-- what a number told to the coder's caller is -/
def NumP (lo hi R D:Nat) (bv:Value) (w:World) (r:Int×Mod) (e:Ending) (w':World):Prop:=e=.returned (.int .i64 r.1)∧ModAt lo hi R D bv w' r.2∧Only [R,D] w w'
theorem onesD_step {f:Nat→Nat} {k n:Nat} {m:Mod} (h:(bitD (f n) m).1=true):onesD f (k+1) n m=onesD f k (n+1) (bitD (f n) m).2:=if_pos h
theorem onesD_stop {f:Nat→Nat} {k n:Nat} {m:Mod} (h:(bitD (f n) m).1=false):onesD f (k+1) n m=(n,(bitD (f n) m).2):=if_neg (by rw [h];simp)
theorem Only.both {R D:Nat} {a b c:World} (h:Only [R,D] a b) (g:Only [R,D] b c):Only [R,D] a c:=h.trans g (fun g h _=>h) (fun g h _=>h)
theorem bound_any (v a b:Int) (w:World):Calls Tryz.prog 140 #[.int .i64 v,.int .i64 a,.int .i64 b] w fun e w'=>e=.returned (.int .i64 (min (max v a) b))∧w=w':=by
 go_enter Tryz.func140,Tryz.ntmps140
 go_wp2
 all_goals
  go_ret
  exact ⟨ret_int (by omega),rfl⟩
theorem mkind_any {lo hi R D:Nat} {bv:Value} {w:World} {m:Mod} (h:ModAt lo hi R D bv w m) (k:Int) (hp:m.d.pos≤900000000) :
  Calls Tryz.prog 98 #[cv R,.int .i64 k] w (NumP lo hi R D bv w (((kindD m).1:Int),(kindD m).2)):=by
 refine hidQ fun Q HPost=>?_
 have HK:=lh h
 have mb:=mBit R
 clear h
 go_enter Tryz.func98,Tryz.ntmps98
 go_wp2_with fail
 go_at_call 140
 refine (bound_any _ _ _ _).mono ?_
 rintro e w1 ⟨rfl,rfl⟩
 generalize min (max k 0) 3=k0 at *
 go_wp2_with fail
 go_loopw [5] (fun i wr=>∃ (n:Nat) (mc:Mod),n≤3∧i=.int .i64 n∧Hid (ModAt lo hi R D bv wr mc)∧Hid (onesD (fun n=>min n 63) (3-n) n mc=onesD (fun n=>min n 63) 3 0 m)∧mc.d.pos≤m.d.pos+2*n∧Only [R,D] w wr) (fun i _=>3-(intOf i).toNat)
 case atStart=>exact ⟨0,m,by omega,rfl,HK,lh rfl,by omega,Only.refl _ _⟩
 case round =>
  obtain ⟨n,mc,hn,rfl,Hk,He,hpos,hq⟩:=hrel
  have HQ:=lh hq
  clear hq
  by_cases hlt:n<3
  ·have hlti:(n:Int)<3:=by omega
   have hadv:=bitD_adv Hk.out.ok (c:=n) (by omega)
   have HA:=lh hadv
   have HB:=lh (fun (b:Bool)=>bit_any Hk.out (c:=n) (by omega) b (by omega))
   have hmn:min n 63=n:=by omega
   obtain ⟨k3,hk3⟩:∃ k3,3-n=k3+1:=⟨3-n-1,by omega⟩
   have hk3':3-(n+1)=k3:=by omega
   have Hn3:=lh (And.intro hmn (And.intro hk3 hk3'))
   clear hadv hmn hk3 hk3'
   have hfin:Hid (kindD m=onesD (fun n=>min n 63) (k3+1) n mc):=lh (by rw [← Hn3.out.2.1,He.out];rfl)
   cases hb:(bitD n mc).1 with
   | true =>
    rw [hb] at HB
    have Hb:=lh hb
    clear hb
    go_wp2_with fail
    go_at_call 244
    refine (HB.out _).mono ?_
    rintro e w2 ⟨rfl,hk2,hq2⟩
    have Hk2:=lh hk2
    have HQ2:=lh (HQ.out.both hq2)
    clear hk2 hq2
    go_wp2_with fail
    go_roundw
    case rel=>exact ⟨n+1,_,by omega,by go_num,Hk2,lh (by rw [Hn3.out.2.2,← He.out,Hn3.out.2.1,onesD_step (by simp only [Hn3.out.1];exact Hb.out)];simp only [Hn3.out.1]),by have:=HA.out.pos;omega,HQ2.out⟩
    case measure=>simp [intOf];omega
   | false =>
    rw [hb] at HB
    have Hb:=lh hb
    clear hb
    go_wp2_with fail
    go_at_call 244
    refine (HB.out _).mono ?_
    rintro e w2 ⟨rfl,hk2,hq2⟩
    have Hk2:=lh hk2
    have HQ2:=lh (HQ.out.both hq2)
    clear hk2 hq2
    go_wp2_with fail
    refine HPost.out _ _ ?_
    rw [hfin.out,onesD_stop (by simp only [Hn3.out.1];exact Hb.out)]
    simp only [Hn3.out.1]
    exact ⟨rfl,Hk2.out,HQ2.out⟩
  ·obtain rfl:n=3:=by omega
   have hlti:¬ ((3:Nat):Int)<3:=by omega
   go_wp2_with fail
   refine HPost.out _ _ ?_
   have hfin:kindD m=(3,mc):=(He.out.symm.trans rfl)
   rw [hfin]
   exact ⟨rfl,Hk.out,HQ.out⟩
theorem qDNums0 {p:Prop} (h:p:=by
 clear HM
 go_enter Tryz.func141,Tryz.ntmps141
 go_wp2_with fail
 go_at_call 140
 refine (bound_any _ _ _ _).mono ?_
 rintro e w1 ⟨rfl,rfl⟩
 generalize hk0:min (max k 0) 3=k0 at *
 have hk1:0≤k0:=by omega
 clear hk0
 go_wp2_with fail
 go_at_call 244
 refine (HB.out _).mono ?_
 rintro e w2 ⟨rfl,hk2,hq2⟩
 have Hk2:=lh hk2
 have HQ2:=lh hq2
 clear hk2 hq2
 go_wp2_with fail
 go_at_call 244
 refine (HB2.out _ _ Hk2.out).mono ?_
 rintro e w3 ⟨rfl,hk3,hq3⟩
 have Hk3:=lh hk3
 have HQ3:=lh (HQ2.out.both hq3)
 clear hk3 hq3
 go_wp2_with fail
 refine HPost.out _ _ ?_
 rw [HM2.out]
 exact ⟨rfl,Hk3.out,HQ3.out⟩):p:=h
theorem mmode_any {lo hi R D:Nat} {bv:Value} {w:World} {m:Mod} (h:ModAt lo hi R D bv w m) (k:Int) (hp:m.d.pos≤900000000) :
  Calls Tryz.prog 141 #[cv R,.int .i64 k] w (NumP lo hi R D bv w (((modeD m).1:Int),(modeD m).2)):=by
 refine hidQ fun Q HPost=>?_
 have mb:=mBit R
 have hadv:=bitD_adv h.ok (c:=3) (by omega)
 have hap:=hadv.pos
 have HB:=lh (fun (b:Bool)=>bit_any h (c:=3) (by omega) b (by omega))
 have HM:Hid (modeD m=if (bitD 3 m).1 then (if (bitD 5 (bitD 3 m).2).1 then 3 else 2,(bitD 5 (bitD 3 m).2).2) else (if (bitD 4 (bitD 3 m).2).1 then 1 else 0,(bitD 4 (bitD 3 m).2).2)):=lh rfl
 generalize (bitD 3 m).2=m1 at *
 generalize (bitD 3 m).1=b1 at *
 clear h hadv
 cases b1 with
 | true =>
  have HB2:=lh (fun (w':World) (b:Bool) (hk:ModAt lo hi R D bv w' m1)=>bit_any hk (c:=5) (by omega) b (by omega))
  generalize (bitD 5 m1).2=m2 at *
  generalize (bitD 5 m1).1=b2 at *
  cases b2 with
  | true =>
   have HM2:Hid (modeD m=(3,m2)):=lh (by rw [HM.out];rfl)
   exact qDNums0
  | false =>
   have HM2:Hid (modeD m=(2,m2)):=lh (by rw [HM.out];rfl)
   exact qDNums0
 | false =>
  have HB2:=lh (fun (w':World) (b:Bool) (hk:ModAt lo hi R D bv w' m1)=>bit_any hk (c:=4) (by omega) b (by omega))
  generalize (bitD 4 m1).2=m2 at *
  generalize (bitD 4 m1).1=b2 at *
  cases b2 with
  | true =>
   have HM2:Hid (modeD m=(1,m2)):=lh (by rw [HM.out];rfl)
   exact qDNums0
  | false =>
   have HM2:Hid (modeD m=(0,m2)):=lh (by rw [HM.out];rfl)
   exact qDNums0
end Go.Proofs.YtmdobcffijnaoaaGreatDoor
