/- Joined texts: DModel, DModR, DNums. Conditions: each part names its own. -/
import Derived.Test.YtkigikallkpbcaaGreatDoorT1
import Derived.Test.YtkigikallkpbcaaGreatDoorK4
import Derived.Deep.WholeRow
namespace Go.Proofs.YtkigikallkpbcaaGreatDoor
open Go.RowKit
set_option linter.unusedVariables false
set_option linter.unusedSimpArgs false
set_option maxRecDepth 100000
set_option maxHeartbeats 16000000
/-- a whole row into its block -/
theorem Only.setRow {S:List Nat} {w w1:World} (h:Only S w w1) {g:Nat} (hg:g<w.heap.size→g∈S) (cs:Array Value):Only S w (w1.setRow g cs) :=
 ⟨h.os,h.tape,h.output,by rw [size_setRow];exact h.size,fun k hk hn=>by
  have hne:k≠g:=fun e=>hn (by rw [e];exact hg (by rw [← e];exact hk))
  rw [setRow_other _ _ _ _ hne]
  exact h.block k hk hn⟩
section
variable {P:Program}
/-- the load of a whole row -/
theorem wpList_load_row {w:World} {ops:Array Oper} {rest:List Oper} {o:Oper} {a:Act} {Q:Exit→Act→World→Prop} (hgd:o.guard=none) (x:Operand) (t:TypeId) (ho:o.op=.load t x)
  {g:Nat} {c:Array Value} {ty:TypeId} {fr:Nat×Nat} {d:TypeDesc} (hx:a.eval x=.pointer (some ⟨g,0,none⟩)) (hr:w.heap[g]?=some (.cells c ty fr)) (hu:P.underlying t=some d) (hd:(match d with | .struct _ | .array _ _=>true | _=>false)=true)
  (hi:(P.info? t).map (·.size)=some c.size) (h:wpList P ops Q rest (a.put o.dst (.agg c)) w):wpList P ops Q (o :: rest) a w :=
 wpList_plain hgd fun _ hK=>by
  unfold Oper.wp execOp
  simp only [ho,hx,Instr.loadAt,Instr.sureAddr,Sem.run_bind,Sem.run_pure,Result.andThen_ok,run_loadVar_row w g ty t c fr d hr hu hd hi]
  exact hK _ _ h
/-- the store of a whole row -/
theorem wpList_store_row {w:World} {ops:Array Oper} {rest:List Oper} {o:Oper} {a:Act} {Q:Exit→Act→World→Prop} (hgd:o.guard=none) (x y:Operand) (t:TypeId) (ho:o.op=.store t x y)
  {g:Nat} {c c':Array Value} {ty:TypeId} (hx:a.eval x=.pointer (some ⟨g,0,none⟩)) (hy:a.eval y=.agg c') (hr:w.heap[g]?=some (.cells c ty (0,0))) (hi:(P.info? t).map (·.size)=some c'.size) (hs:c.size=c'.size) (h1:c'.all (·.oneCell')=true)
  (h:wpList P ops Q rest (a.put o.dst undef) (w.setRow g c')):wpList P ops Q (o :: rest) a w :=
 wpList_plain hgd fun _ hK=>by
  unfold Oper.wp execOp
  simp only [ho,hx,hy,Instr.storeAt,Instr.sureAddr,Sem.run_bind,Sem.run_pure,Result.andThen_ok,run_storeVar_row w g ty t c c' hr hi hs h1]
  exact hK _ _ h
end
/-- a row half filled -/
def fillV (k:Nat) (a b:Value) (n:Nat):List Value:=List.replicate k a ++ List.replicate (n-k) b
theorem fillV_set {k n:Nat} (h:k<n) (a b:Value):(fillV k a b n).toArray.setIfInBounds k a=(fillV (k+1) a b n).toArray:=by
 unfold fillV
 rw [List.setIfInBounds_toArray]
 congr 1
 rw [List.set_append_right _ _ (by simp),List.length_replicate,Nat.sub_self,show n-k=(n-(k+1))+1 by omega,List.replicate_succ,List.set_cons_zero,List.replicate_succ',List.append_assoc]
 rfl
theorem fillV_at {k n:Nat} (h:k<n) (a b:Value):(fillV k a b n).toArray[k]?=some b:=by
 unfold fillV
 rw [List.getElem?_toArray,List.getElem?_append_right (by simp),List.length_replicate,Nat.sub_self,show n-k=(n-(k+1))+1 by omega,List.replicate_succ]
 rfl
theorem begin_any (w:World):Calls Tryz.prog 110 #[] w fun e w'=>e=.returned (.agg (List.replicate 64 (.int .i64 1024)).toArray)∧Only [] w w':=by
 refine hidQ fun Q HPost=>?_
 go_enter Tryz.func110,Tryz.ntmps110
 go_wp2_with fail
 generalize hWg:World.alloc (World.alloc w _) _=W0
 have r0:W0.heap[w.heap.size]?=some (.cells (fillV 0 (.int .i64 1024) (.int .i64 0) 64).toArray 191 (0,0)):=by
  rw [← hWg];exact (Below.heap_alloc _ _ _ (by simp)).trans (heap_alloc_new _ _)
 have r1:W0.heap[w.heap.size+1]?=some (.cells (fillV 0 (.int .i64 1024) (.int .i64 0) 64).toArray 191 (0,0)):=by
  rw [← hWg];exact heap_alloc_new' (by simp)
 have hq0:Only [] w W0:=by rw [← hWg];exact (Only.new _ _).q (Only.new _ _)
 have H0:=lh (And.intro r0 (And.intro r1 hq0))
 clear hWg r0 r1 hq0
 go_loopw [2,3] (fun _ i wr=>∃ k:Nat,k≤64∧i=.int .i64 k∧wr.heap[w.heap.size+1]?=some (.cells (fillV k (.int .i64 1024) (.int .i64 0) 64).toArray 191 (0,0))∧Only [w.heap.size+1] W0 wr) (fun _ i _=>64-(intOf i).toNat)
 case atStart=>exact ⟨0,by omega,rfl,H0.out.2.1,Only.refl _ _⟩
 case round =>
  obtain ⟨k,hk,rfl,hr,hq⟩:=hrel
  by_cases hlt:k<64
  ·have hlti:(k:Int)<64:=by omega
   have hx:(0:Int)≤(k:Int):=by omega
   have c1:wr.cell? ⟨w.heap.size+1,k,none⟩=some (.int .i64 0):=by rw [cell_of_row _ _ _ _ _ _ hr];exact fillV_at hlt _ _
   have f1:=frozen_of_row wr (w.heap.size+1) k _ _ hr
   have hset:=heap_setCell_same wr (w.heap.size+1) k _ _ (.int .i64 1024) hr
   rw [fillV_set hlt] at hset
   have o1:Only [w.heap.size+1] wr (wr.setCell ⟨w.heap.size+1,k,none⟩ (.int .i64 1024)):=(Only.refl _ _).setCell (by simp) _
   have HS:=lh (And.intro hset (hq.trans o1 (fun g h _=>h) (fun g h _=>h)))
   clear hr hset o1 hq
   go_wp2_with fail
   go_roundw
   case rel=>exact ⟨k+1,by omega,by go_num,HS.out.1,HS.out.2⟩
   case measure=>simp [intOf];omega
  ·obtain rfl:k=64:=by omega
   have hr':wr.heap[w.heap.size+1]?=some (.cells (List.replicate 64 (.int .i64 1024)).toArray 191 (0,0)):=by rw [hr];simp [fillV]
   have r0:=hq.rowAt H0.out.1 (by simp)
   have h64:(List.replicate 64 (Value.int .i64 1024)).length=64:=by simp
   have h1:∀ v∈List.replicate 64 (Value.int .i64 1024),v.oneCell'=true:=fun v hv=>by rw [(List.mem_replicate.1 hv).2];rfl
   generalize List.replicate 64 (Value.int .i64 1024)=C at *
   have h1a:(C.toArray).all (·.oneCell')=true:=by rw [Array.all_eq_true_iff_forall_mem];intro v hv;exact h1 v (by simpa using hv)
   have hinfo:(Tryz.prog.info? 191).map (·.size)=some C.toArray.size:=by rw [List.size_toArray,h64];kernel_rfl
   have hsz:(fillV 0 (Value.int .i64 1024) (.int .i64 0) 64).toArray.size=C.toArray.size:=by rw [List.size_toArray,List.size_toArray,h64];rfl
   have r2:=setRow_heap wr w.heap.size _ C.toArray _ _ r0
   have hO:Only [] w (wr.setRow w.heap.size C.toArray):=(H0.out.2.2.trans hq (by simp) (fun g hg hlt=>by rw [mSg] at hg;omega)).setRow (fun h=>absurd h (by omega)) _
   have H:=lh (And.intro hr' (And.intro r0 (And.intro h1a (And.intro hinfo (And.intro hsz (And.intro r2 hO))))))
   clear hr hr' r0 hq r2 hO h1 h1a hinfo hsz h64
   go_wp2_with (first
    | (refine wpList_load_row rfl (.tmp 1) 191 rfl rfl H.out.1 Tryz.underlying191 rfl H.out.2.2.2.1 ?_)
    | (refine wpList_store_row rfl (.tmp 0) (.tmp 9) 191 rfl rfl rfl H.out.2.1 H.out.2.2.2.1 H.out.2.2.2.2.1 H.out.2.2.1 ?_)
    | fail)
   refine bodyPost_ret (v:=.agg C.toArray) (results_cell_row Tryz.results110 _ _ w.heap.size _ _ _ _ rfl H.out.2.2.2.2.2.1 Tryz.underlying191 rfl H.out.2.2.2.1) rfl (HPost.out _ _ ⟨rfl,H.out.2.2.2.2.2.2⟩)
section
variable {P:Program}
/-- a struct or an array built whole -/
theorem wpList_build {w:World} {ops:Array Oper} {rest:List Oper} {o:Oper} {a:Act} {Q:Exit→Act→World→Prop} (hgd:o.guard=none) (t:TypeId) (parts:List (Nat×Operand)) (ho:o.op=.build t parts.toArray) {v:Value}
  (hr:(Instr.build t (parts.map fun p=>(p.1,a.eval p.2)).toArray).run P w=.ok v w) (h:wpList P ops Q rest (a.put o.dst v) w):wpList P ops Q (o :: rest) a w :=
 wpList_plain hgd fun _ hK=>by
  unfold Oper.wp execOp
  simp only [ho,List.map_toArray,Sem.run_bind,Sem.run_pure,Result.andThen_ok,hr]
  exact hK _ _ h
end
/-- the cells of a coder that reads -/
def modCells (p:List Int) (D:Nat):List Value:=p.map (Value.int .i64) ++ [.pointer (some ⟨D,0,none⟩)]
section
variable {lo hi R D:Nat} {bv:Value} {w w':World} {m:Mod} {S:List Nat}
theorem modCells_at {p:List Int} (h:p.length=64) (D:Nat) {c:Nat} (hc:c<64):(modCells p D).toArray[c]?=some (.int .i64 (p.getD c 0)):=by
 unfold modCells
 rw [List.getElem?_toArray,List.getElem?_append_left (by simp;omega),List.getElem?_map,List.getElem?_eq_getElem (by omega)]
 simp [h,hc]
theorem modCells_ptr {p:List Int} (h:p.length=64) (D:Nat):(modCells p D).toArray[64]?=some (.pointer (some ⟨D,0,none⟩)):=by
 unfold modCells
 rw [List.getElem?_toArray,List.getElem?_append_right (by simp;omega)]
 simp [h]
theorem modCells_set {p:List Int} (h:p.length=64) (D:Nat) {c:Nat} (hc:c<64) (x:Int):(modCells p D).toArray.setIfInBounds c (.int .i64 x)=(modCells (p.set c x) D).toArray:=by
 unfold modCells
 rw [List.setIfInBounds_toArray]
 congr 1
 rw [List.set_append_left _ _ (by simp;omega),List.map_set]
end
theorem context_any (c:Nat) (hc:c<64) (w:World):Calls Tryz.prog 211 #[.int .i64 c] w fun e w'=>e=.returned (.bool true)∧w=w':=by
 have h0:(0:Int)≤(c:Int):=by omega
 have h1:(c:Int)<64:=by omega
 go_enter Tryz.func211,Tryz.ntmps211
 go_wp2
 go_ret
 exact ⟨rfl,rfl⟩
/-- a reader as a coder -/
abbrev cv (R:Nat):Value:=.iface 151 (.pointer (some ⟨R,0,none⟩))
theorem bound_any (v a b:Int) (w:World):Calls Tryz.prog 139 #[.int .i64 v,.int .i64 a,.int .i64 b] w fun e w'=>e=.returned (.int .i64 (min (max v a) b))∧w=w':=by
 go_enter Tryz.func139,Tryz.ntmps139
 go_wp2
 all_goals
  go_ret
  exact ⟨ret_int (by omega),rfl⟩
end Go.Proofs.YtkigikallkpbcaaGreatDoor
