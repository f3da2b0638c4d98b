/- Joined texts: Read, Few, New, Get. Conditions: each part names its own. -/
import Derived.Test.YtmgbbgffkakcaaaGreatDoorC1
import Derived.Deep.OwnRows
import Derived.Laws.BitsLemmas
namespace Go.Proofs.YtmgbbgffkakcaaaGreatDoor
open Go.RowKit
set_option linter.unusedVariables false
set_option linter.unusedSimpArgs false
set_option maxRecDepth 100000
set_option maxHeartbeats 16000000
theorem Ints.sub {k:IntKind} {lo hi b off cap:Nat} {w:World} {l:List Int} (h:Ints k lo hi w (.slice (some ⟨b,off,none⟩) l.length cap) l) {i j:Nat} (hij:i≤j) (hj:j≤l.length) (cap':Nat) (hc:cap'≤cap) (hjc:j-i≤cap') :
  Ints k lo hi w (.slice (some ⟨b,off+i,none⟩) (j-i) cap') ((l.take j).drop i):=by
 obtain ⟨⟨h1,a,c,e,h3,h4,h5⟩,hk⟩:=h
 injection e with e1 e2 e3
 subst e1;subst e3
 have hl:((l.take j).drop i).length=j-i:=by rw [List.length_drop,List.length_take,Nat.min_eq_left hj]
 refine ⟨?_,fun x hx=>hk x (List.mem_of_mem_take (List.mem_of_mem_drop hx))⟩
 rw [hl]
 refine ⟨by rw [List.length_map,hl];omega,some ⟨b,off+i,none⟩,cap',rfl,hjc,Nat.le_trans hc h4,fun hn=>?_⟩
 obtain ⟨b',off',e,x,y,hcc⟩:=h5 (Nat.lt_of_lt_of_le (Nat.lt_of_lt_of_le hn (Nat.sub_le _ _)) hj)
 injection e with e
 injection e with e1 e2
 subst e1;subst e2
 refine ⟨b,off+i,rfl,x,y,fun m u hu=>?_⟩
 rw [Nat.add_assoc]
 refine hcc (i+m) u ?_
 rw [List.getElem?_map,List.getElem?_drop,List.getElem?_take] at hu
 rw [List.getElem?_map]
 split at hu
 ·exact hu
 ·simp at hu
theorem frozen_drew (w:World) (a:Addr):w.drew.frozen? a=w.frozen? a:=rfl
section
variable {P:Program}
/-- append of integers inside a region that draws its order -/
theorem step_append_ints {w:World} {ops:Array Oper} {o:Oper} {a:Act} {K:Act→World→Prop} {Q:Exit→Act→World→Prop} {E':Prop} (hgd:o.guard=none) (s x:Operand) (t:TypeId)
  (ho:o.op=.call { callee:=.builtin .append,args:=#[s,x],argTypes:=#[t,t] })
  {k:IntKind} {e:TypeId} {z:Value} {bytes base lo hi:Nat} {v sv:Value} {l m:List Int} (E:Elem P t e z 1 bytes)
  (hown:Own k e base w v l) (hv:a.eval s=v) (hs:Ints k lo hi w sv m) (hx:a.eval x=sv)
  (hbytes:(l.length+m.length)*bytes≤140737488355328) (hbase:base≤w.heap.size)
  (h:∀ v' w',Own k e base w' v' (l ++ m)→Acc v w v' w'→K (a.put o.dst v') w'):if Region.wanted o (yielded ops a.tmps)=true then Oper.wp P o a w K Q else E':=by
 have hle:l.length+m.length≤140737488355328:=Nat.le_trans (Nat.le_mul_of_pos_right _ E.bp) hbytes
 refine step_append_cells hgd s x t ho E hown.1 hv hs.1 hx (by simp only [List.mem_map];rintro u ⟨x,_,rfl⟩;rfl) (by simp only [maxLen];omega) hbytes hbase fun v' w' h2 h3=>h v' w' ⟨?_,?_⟩ h3
 ·simpa using h2
 ·intro y hy
  rcases List.mem_append.1 hy with hy | hy
  ·exact hown.2 y hy
  ·exact hs.2 y hy
end
/-- why a coded frame is none -/
def readB (c:Coded):Option Int :=
 if kindB c.kind=false then some 13
 else if bareB c.kind=true then (if 0<c.data.length then some 2 else none)
 else if c.data.length=0 then some 1
 else if 15<c.data.getD 0 0 then some 3
 else if 65536<c.data.length then some 5
 else none
def withinB (l:List Int) (a b:Int):Bool:=l.all fun x=>decide (a≤x∧x≤b)
theorem withinB_drop {l:List Int} {k:Nat} {a b:Int} (h:k<l.length):withinB (l.drop k) a b=(decide (a≤l.getD k 0∧l.getD k 0≤b) && withinB (l.drop (k+1)) a b):=by
 rw [withinB,List.drop_eq_getElem_cons h,List.all_cons];simp [withinB,h]
theorem qFew0 {p:Prop} (h:p:=by
 go_wp2
 go_ret
 first | exact ⟨rfl,rfl⟩ | exact ⟨ret_bool (by rw [hr]),rfl⟩):p:=h
theorem within_any {lo hi:Nat} {v:Value} {l:List Int} (x y:Int) {w:World} (h:Ints .i64 lo hi w v l) :
  Calls Tryz.prog 26 #[v,.int .i64 x,.int .i64 y] w fun e w'=>e=.returned (.bool (withinB l x y))∧w=w':=by
 obtain ⟨a,cap,rfl,hcap,hmax,hat,hcell⟩:=h.open
 have hll:(l.length:Int)≤9223372036854775807:=by unfold maxLen at hmax;omega
 have Hat:=lh hat
 have Hcell:=lh hcell
 clear h hat hcell hcap hmax
 go_enter Tryz.func26,Tryz.ntmps26
 go_wp2
 go_loop [7] (fun i=>∃ k:Nat,k≤l.length∧i=.int .i64 k∧Hid (withinB (l.drop k) x y=withinB l x y)) (fun i=>l.length-(intOf i).toNat)
 case atStart=>exact ⟨0,by omega,rfl,lh rfl⟩
 case round =>
  obtain ⟨k,hk,rfl,Hk⟩:=hrel
  by_cases hlt:k<l.length
  ·obtain ⟨b,off,rfl,_,_⟩:=Hat.out k hlt
   have hc:=Hcell.out b off rfl k hlt
   have Hd:=lh (withinB_drop (a:=x) (b:=y) hlt)
   have hx:(0:Int)≤(k:Int):=by omega
   have hx1:(k:Int)<(l.length:Int):=by omega
   generalize l.getD k 0=q at *
   by_cases h1:q<x
   ·have hr:withinB l x y=false:=by rw [← Hk.out,Hd.out];simp;omega
    exact qFew0
   ·by_cases h2:y<q
    ·have hr:withinB l x y=false:=by rw [← Hk.out,Hd.out];simp;omega
     exact qFew0
    ·have hr:withinB (l.drop (k+1)) x y=withinB l x y:=by rw [← Hk.out,Hd.out];simp;omega
     have Hr:=lh hr
     clear hr
     go_wp2
     go_round
     case rel=>exact ⟨k+1,by omega,by go_num,Hr⟩
     case measure=>simp [intOf];omega
  ·obtain rfl:k=l.length:=by omega
   have hx:¬ (l.length:Int)<(l.length:Int):=by omega
   have hr:withinB l x y=true:=by rw [← Hk.out,List.drop_length];rfl
   exact qFew0
def newB (W H V:Int):Bool:=sideB W && sideB H && sampleB V
theorem slice_to {b off n cap:Nat} {i:Int} (k:Nat) (hi:i=(k:Int)) (h:k≤cap) (W:World) :
  (Instr.slice 29 (.slice (some ⟨b,off,none⟩) n cap) none (some (.int .i64 i)) none).run Tryz.prog W=.ok (.slice (some ⟨b,off,none⟩) k cap) W:=by
 subst hi
 have h1:¬ cap<k:=by omega
 have h2:(k:Int)≤(cap:Int):=by omega
 simp [Instr.slice,run_underlying Tryz.underlying29,Instr.sliceBounds,Instr.sliceBound,asIntOf,go_sem,h]
 try omega
end Go.Proofs.YtmgbbgffkakcaaaGreatDoor
