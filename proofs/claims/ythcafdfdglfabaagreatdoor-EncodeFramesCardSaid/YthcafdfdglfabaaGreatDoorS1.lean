/- Joined texts: DModel, DModR, DNums. Conditions: each part names its own. -/
import Derived.Test.YthcafdfdglfabaaGreatDoorK4
import Derived.Deep.WholeRow
namespace Go.Proofs.YthcafdfdglfabaaGreatDoor
open Go.RowKit
set_option linter.unusedVariables false
set_option linter.unusedSimpArgs false
set_option maxRecDepth 100000
set_option maxHeartbeats 16000000
theorem ae.setRow {S:List Nat} {w w1:World} (h:ae S w w1) {g:Nat} (hg:g<w.heap.size->g∈S) (cs:Array Value):ae S w (w1.setRow g cs) :=
 ⟨h.os,h.tape,h.output,by rw [size_setRow];exact h.size,fun k hk hn=>by
  have OT:k≠g:=fun e=>hn (by rw [e];exact hg (by rw [<- e];exact hk))
  rw [setRow_other _ _ _ _ OT];exact h.block k hk hn⟩
section
variable {P:Program}
theorem az {w:World} {ops:Array Oper} {rest:List Oper} {o:Oper} {a:Act} {Q:Exit->Act->World->Prop} (XE:o.guard=none) (x:Operand) (t:TypeId) (ho:o.op=.load t x)
  {g:Nat} {c:Array Value} {ty:TypeId} {fr:Nat×Nat} {d:TypeDesc} (hx:a.eval x=.pointer (some ⟨g,0,none⟩)) (hr:w.heap[g]?=some (.cells c ty fr)) (hu:P.underlying t=some d) (hd:(match d with | .struct _ | .array _ _=>true | _=>false)=true)
  (hi:(P.info? t).map (·.size)=some c.size) (h:wpList P ops Q rest (a.put o.dst (.agg c)) w):wpList P ops Q (o :: rest) a w :=
 wpList_plain XE fun _ hK=>by
  unfold Oper.wp execOp;simp only [ho,hx,Instr.loadAt,Instr.sureAddr,Sem.run_bind,Sem.run_pure,Result.andThen_ok,run_loadVar_row w g ty t c fr d hr hu hd hi];exact hK _ _ h
theorem aq {w:World} {ops:Array Oper} {rest:List Oper} {o:Oper} {a:Act} {Q:Exit->Act->World->Prop} (XE:o.guard=none) (x y:Operand) (t:TypeId) (ho:o.op=.store t x y)
  {g:Nat} {c c':Array Value} {ty:TypeId} (hx:a.eval x=.pointer (some ⟨g,0,none⟩)) (hy:a.eval y=.agg c') (hr:w.heap[g]?=some (.cells c ty (0,0))) (hi:(P.info? t).map (·.size)=some c'.size) (hs:c.size=c'.size) (h1:c'.all (·.oneCell')=true)
  (h:wpList P ops Q rest (a.put o.dst undef) (w.setRow g c')):wpList P ops Q (o :: rest) a w :=
 wpList_plain XE fun _ hK=>by
  unfold Oper.wp execOp;simp only [ho,hx,hy,Instr.storeAt,Instr.sureAddr,Sem.run_bind,Sem.run_pure,Result.andThen_ok,run_storeVar_row w g ty t c c' hr hi hs h1];exact hK _ _ h
end
def mI (k:Nat) (a b:Value) (n:Nat):List Value:=List.replicate k a ++ List.replicate (n-k) b
theorem Dg {k n:Nat} (h:k<n) (a b:Value):(mI k a b n).toArray.setIfInBounds k a=(mI (k+1) a b n).toArray:=by
 unfold mI;rw [Lg]
 congr 1
 rw [List.set_append_right _ _ Mg,LJ,Nat.sub_self,show n-k=(n-(k+1))+1 by omega,List.replicate_succ,Lj,List.replicate_succ',LR]
 rfl
theorem EO {k n:Nat} (h:k<n) (a b:Value):(mI k a b n).toArray[k]?=some b:=by
 unfold mI;rw [List.getElem?_toArray,Lu Mg,LJ,Nat.sub_self,show n-k=(n-(k+1))+1 by omega,List.replicate_succ]
 rfl
theorem CQ (w:World):Calls Tryz.prog 65 #[] w fun e w'=>e=.returned (.agg (List.replicate 64 (.int .i64 1024)).toArray)/\ae [] w w':=by
 refine aN fun Q MM=>?_
 go_enter Tryz.func65,Tryz.ntmps65;go_wp2_with fail;generalize hWg:World.alloc (World.alloc w _) _=W0;have r0:W0.heap[w.heap.size]?=some (.cells (mI 0 (.int .i64 1024) (.int .i64 0) 64).toArray 130 (0,0)):=by
  rw [<- hWg];exact (Below.heap_alloc _ _ _ Mg).trans (heap_alloc_new _ _)
 have r1:W0.heap[w.heap.size+1]?=some (.cells (mI 0 (.int .i64 1024) (.int .i64 0) 64).toArray 130 (0,0)):=by
  rw [<- hWg];exact ak Mg
 have QH:ae [] w W0:=by rw [<- hWg];exact (ae.new _ _).q (ae.new _ _)
 have H0:=lh (And.intro r0 (And.intro r1 QH));clear hWg r0 r1 QH;go_loopw [2,3] (fun _ i wr=>∃ k:Nat,k<=64/\i=.int .i64 k/\wr.heap[w.heap.size+1]?=some (.cells (mI k (.int .i64 1024) (.int .i64 0) 64).toArray 130 (0,0))/\ae [w.heap.size+1] W0 wr) (fun _ i _=>64-(intOf i).toNat)
 case atStart=>exact ⟨0,Mf,rfl,H0.2.1,ae.refl _ _⟩
 case round =>
  obtain ⟨k,hk,rfl,hr,hq⟩:=hrel;by_cases MO:k<64
  ·have Py:(k:Int)<64:=Mf
   have hx:(0:Int)<=(k:Int):=Mf;have c1:wr.cell? ⟨w.heap.size+1,k,none⟩=some (.int .i64 0):=by rw [cell_of_row _ _ _ _ _ _ hr];exact EO MO _ _
   have f1:=frozen_of_row wr (w.heap.size+1) k _ _ hr;have Qg:=heap_setCell_same wr (w.heap.size+1) k _ _ (.int .i64 1024) hr;rw [Dg MO] at Qg;have o1:ae [w.heap.size+1] wr (wr.setCell ⟨w.heap.size+1,k,none⟩ (.int .i64 1024)):=(ae.refl _ _).setCell Mg _;have HS:=lh (And.intro Qg (hq.trans o1 (fun g h _=>h) (fun g h _=>h)));clear hr Qg o1 hq;go_wp2_with fail;go_roundw
   case rel=>exact ⟨k+1,Mf,Mm,HS.1,HS.2⟩
   case measure=>simp [intOf];omega
  ·obtain rfl:k=64:=Mf
   have hr':wr.heap[w.heap.size+1]?=some (.cells (List.replicate 64 (.int .i64 1024)).toArray 130 (0,0)):=by rw [hr];simp [mI]
   have r0:=hq.rowAt H0.1 Mg;have h64:(List.replicate 64 (Value.int .i64 1024)).length=64:=Mg;have h1:∀ v∈List.replicate 64 (Value.int .i64 1024),v.oneCell'=true:=fun v hv=>by rw [(List.mem_replicate.1 hv).2];rfl
   generalize List.replicate 64 (Value.int .i64 1024)=C at *
   have h1a:(C.toArray).all (·.oneCell')=true:=by rw [Array.all_eq_true_iff_forall_mem];intro v hv;exact h1 v MH
   have JhG:(Tryz.prog.info? 130).map (·.size)=some C.toArray.size:=by rw [List.size_toArray,h64];kernel_rfl
   have YT:(mI 0 (Value.int .i64 1024) (.int .i64 0) 64).toArray.size=C.toArray.size:=by rw [List.size_toArray,List.size_toArray,h64];rfl
   have r2:=setRow_heap wr w.heap.size _ C.toArray _ _ r0;have hO:ae [] w (wr.setRow w.heap.size C.toArray):=(H0.2.2.trans hq Mg (fun g hg MO=>Mj)).setRow (fun h=>absurd h Mf) _;have H:=lh (And.intro hr' (And.intro r0 (And.intro h1a (And.intro JhG (And.intro YT (And.intro r2 hO))))));clear hr hr' r0 hq r2 hO h1 h1a JhG YT h64
   go_wp2_with (first
    | (refine az rfl (.tmp 1) 130 rfl rfl H.1 Tryz.underlying130 rfl H.2.2.2.1 ?_)
    | (refine aq rfl (.tmp 0) (.tmp 9) 130 rfl rfl rfl H.2.1 H.2.2.2.1 H.2.2.2.2.1 H.2.2.1 ?_)
    | fail)
   refine bodyPost_ret (v:=.agg C.toArray) (results_cell_row Tryz.results65 _ _ w.heap.size _ _ _ _ rfl H.2.2.2.2.2.1 Tryz.underlying130 rfl H.2.2.2.1) rfl (MM.out _ _ ⟨rfl,H.2.2.2.2.2.2⟩)
section
variable {P:Program}
theorem kq {w:World} {ops:Array Oper} {rest:List Oper} {o:Oper} {a:Act} {Q:Exit->Act->World->Prop} (XE:o.guard=none) (t:TypeId) (Jib:List (Nat×Operand)) (ho:o.op=.build t Jib.toArray) {v:Value}
  (hr:(Instr.build t (Jib.map fun p=>(p.1,a.eval p.2)).toArray).run P w=.ok v w) (h:wpList P ops Q rest (a.put o.dst v) w):wpList P ops Q (o :: rest) a w :=
 wpList_plain XE fun _ hK=>by
  unfold Oper.wp execOp;simp only [ho,List.map_toArray,Sem.run_bind,Sem.run_pure,Result.andThen_ok,hr];exact hK _ _ h
end
def dZ (p:List Int) (D:Nat):List Value:=p.map (Value.int .i64) ++ [.pointer (some ⟨D,0,none⟩)]
section
variable {lo hi R D:Nat} {bv:Value} {w w':World} {m:Mod} {S:List Nat}
theorem pK {p:List Int} (h:p.length=64) (D:Nat) {c:Nat} (hc:c<64):(dZ p D).toArray[c]?=some (.int .i64 (p.getD c 0)):=by
 unfold dZ;rw [List.getElem?_toArray,Lv Mq,LG,Lf Mf];simp [h,hc]
theorem vh {p:List Int} (h:p.length=64) (D:Nat):(dZ p D).toArray[64]?=some (.pointer (some ⟨D,0,none⟩)):=by
 unfold dZ;rw [List.getElem?_toArray,Lu Mq];simp [h]
theorem vn {p:List Int} (h:p.length=64) (D:Nat) {c:Nat} (hc:c<64) (x:Int):(dZ p D).toArray.setIfInBounds c (.int .i64 x)=(dZ (p.set c x) D).toArray:=by
 unfold dZ;rw [Lg]
 congr 1
 rw [List.set_append_left _ _ Mq,List.map_set]
end
theorem wD (c:Nat) (hc:c<64) (w:World):Calls Tryz.prog 256 #[c] w fun e w'=>e=.returned (.bool true)/\w=w':=by
 have h0:(0:Int)<=(c:Int):=Mf;have h1:(c:Int)<64:=Mf;go_enter Tryz.func256,Tryz.ntmps256;go_wp2;go_ret;exact ⟨rfl,rfl⟩
abbrev cv (R:Nat):Value:=.iface 224 (.pointer (some ⟨R,0,none⟩))
theorem oO (v a b:Int) (w:World):Calls Tryz.prog 142 #[v,a,b] w fun e w'=>e=.returned (.int .i64 (min (max v a) b))/\w=w':=by
 go_enter Tryz.func142,Tryz.ntmps142;go_wp2
 all_goals
  go_ret;exact ⟨dN Mf,rfl⟩
end Go.Proofs.YthcafdfdglfabaaGreatDoor
