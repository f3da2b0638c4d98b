/- Joined texts: Frame, FrameC, GOpen. Conditions: each part names its own. -/
import Derived.Test.YtkigikallkpbcaaGreatDoorRows
import Derived.Test.YtkigikallkpbcaaGreatDoorC2
import Derived.Test.YtkigikallkpbcaaGreatDoorC1
import Derived.ProofKit
import Derived.OpenShut
import Derived.ShutString
import Derived.ChangeOld
import Derived.ChangeVars
import Derived.JoinedOf
import Derived.LaidLaws
import Derived.LaidHandle
import Derived.Stop.Joined
import Derived.Deep.Slices
import Derived.Test.YtkigikallkpbcaaGreatDoorG6
/- What a row's proof needs besides its walk: closed facts, the condition on errors.errorType, how the arguments open. Conditions: none. -/
set_option maxRecDepth 100000
set_option maxHeartbeats 16000000
namespace Go.Proofs.YtkigikallkpbcaaGreatDoor
open Go.ChangeShapes Go.WideShapes Go.ChangeAt Go.RowKit
set_option linter.unusedVariables false
set_option linter.unusedSimpArgs false
theorem own_:ownKnob Tryz.prog.godebug=none:=by kernel_rfl
theorem laidOut_:laidOutB Tryz.prog=true:=by kernel_rfl
theorem et_:Tryz.prog.globalNamed "errors.errorType"=some 0:=by kernel_rfl
theorem rt_:(Tryz.prog.cutTypes.find? (·.1 == "internal/reflectlite.rtype")).map (·.2)=some 210:=by kernel_rfl
theorem oneRow_:((List.range 319).filter fun t=>Tryz.prog.rowNamed t [101,114,114,111,114])=[32]:=by kernel_rfl
theorem size_:Tryz.prog.types.size=319:=by kernel_rfl
abbrev laid1:List (String×DataW Unit):=[("errors.errorType",Rows.laid_errors_errorType)]
/-- what the condition gives a walk -/
theorem errT_of_laid {W:World} (h:laidMetH Tryz.prog laid1 W):ErrT W:=by
 have h':laidMet Tryz.prog [] W∧handlesMet Tryz.prog laid1 W:=h
 obtain ⟨name,u,ty,e1,e2,e3,e4,e5⟩:=h'.2 _ (mSg.2 rfl)
 have en:name=[101,114,114,111,114]:=(Option.some.inj e1).symm
 subst en
 obtain rfl:=Option.some.inj (rt_.symm.trans e2)
 have hm:ty∈(List.range 319).filter fun t=>Tryz.prog.rowNamed t [101,114,114,111,114]:=List.mem_filter.2 ⟨List.mem_range.2 (by rw [← size_];exact e3),e4⟩
 rw [oneRow_] at hm
 obtain rfl:=mSg.1 hm
 have hh:typeHandle Tryz.prog 32=.pointer (some ⟨1,32,none⟩):=by kernel_rfl
 rw [hh] at e5
 simpa [ErrT,rT] using World.var?_cell et_ e5 0
/-- a world that meets the condition -/
noncomputable def laidWorld (os:Os):World :=
 let w0:=World.holding Tryz.prog os ⟨#[],#[],[]⟩
 { w0 with heap:=w0.heap.modify 0 fun
   | .cells _ t frozen=>.cells #[.iface 210 (.agg #[.pointer (some ⟨1,32,none⟩)])] t frozen
   | o=>o }
theorem laidWorld_met (os:Os) (args:Array Value):laidMetH Tryz.prog laid1 ((laidWorld os).forCall (fun _ _=>0) ⟨#[],args,[]⟩).memory :=
 laidMetH_of_parts (laidMet_nil _ _) (by kernel_rfl)
section
variable {H:Type} {enc:TypeId×Value→H}
end
end Go.Proofs.YtkigikallkpbcaaGreatDoor
/- How a configuration and chunks that came in open. Conditions: none. -/
namespace Go.Proofs.YtkigikallkpbcaaGreatDoor
open Go.ChangeShapes Go.WideShapes Go.ChangeAt Go.RowKit Go.Deep
set_option linter.unusedVariables false
set_option linter.unusedSimpArgs false
theorem cells_int:Tryz.prog.cellsOf 3=1:=by kernel_rfl
theorem cells_config:Tryz.prog.cellsOf 60=8:=by kernel_rfl
theorem i64_in {n:Int} (h:(Lit.int .i64 n).wf=true):InK .i64 n:=by
 have:=bounds_i64 h
 exact ⟨by omega,by omega⟩
section
variable {H:Type} {enc:TypeId×Value→H}
theorem field_int {W:World} {spare:Nat→Bool} {held:Bool} {fuel:Nat} {cs:List Value} {y:Option (DataW H×List MemPlace)} (h:DataW.trod enc Tryz.prog W 0 spare held fuel 3 cs=y) (hy:y.isSome=true):∃ n,cs=[.int .i64 n]∧(Lit.int .i64 n).wf=true:=by
 cases y with
 | none=>cases hy
 | some x =>
  obtain ⟨n,h1,_,h3⟩:=DataW.trod_int Tryz.underlying3 h
  exact ⟨n,h1,h3⟩
theorem some_at {α:Type} {l:List α} {i n:Nat} (h:l.length=n) (hi:i<n):l[i]?.isSome=true:=by simp [h,hi]
/-- a slice of structs, row by row -/
theorem rows_in {W:World} {spare:Nat→Bool} {held:Bool} {fuel size:Nat} {t e:TypeId} {cs:List Value} {x:DataW H×List MemPlace} (ht:Tryz.prog.underlying t=some (.slice e)) (hc:Tryz.prog.cellsOf e=size) (hpos:0<size)
  (h:DataW.trod enc Tryz.prog W 0 spare held fuel t cs=some x) :
  ∃ (v:Value) (len n:Nat) (C:Nat→List Value),cs=[v]∧Rows size 0 W.heap.size W v len (fun i j=>(C i).getD j undef)∧∀ i,i<len→(C i).length=size∧∃ y,DataW.trod enc Tryz.prog W 0 spare held n e (C i)=some y:=by
 rcases open_slice ht h with ⟨rfl,_⟩ | ⟨a,len,cap,m,n,D,Pl,rfl,_,hl,hm,hmm,_,hi⟩
 ·exact ⟨_,0,0,fun _=>[],rfl,Rows.nil _ _ _ _ _,fun i hi=>absurd hi (by omega)⟩
 ·have hlm:len≤m:=by rw [hmm];split <;> omega
  rw [hc] at hi
  have hch:∀ i,∃ c:List Value,i<len→W.cells? 0 (a.add (i*size)) size=some c∧∃ y,DataW.trod enc Tryz.prog W 0 spare held n e c=some y:=by
   intro i
   by_cases hlt:i<len
   ·obtain ⟨c,h1,h2⟩:=hi i (by omega)
    exact ⟨c,fun _=>⟨h1,_,h2⟩⟩
   ·exact ⟨[],fun h=>absurd h hlt⟩
  obtain ⟨C,hC⟩:=Classical.axiomOfChoice hch
  refine ⟨_,len,n,C,rfl,⟨some a,cap,rfl,hl,hm,fun hp=>?_⟩,fun i hi=>?_⟩
  ·obtain ⟨_,hl0,hat0⟩:=World.cells?_some (hC 0 hp).1
   have hcell0:=hat0 0 hpos
   have hv:(C 0)[0]?=some ((C 0)[0]'(by omega)):=List.getElem?_eq_getElem (by omega)
   rw [hv] at hcell0
   obtain ⟨b,off,spot⟩:=a
   have hspot:spot=none:=by simpa [Addr.add] using World.cell?_spot hcell0
   subst hspot
   refine ⟨b,off,rfl,Nat.zero_le _,block_lt_of_cell (by simpa [Addr.add] using hcell0),fun i j hi hj=>?_⟩
   obtain ⟨_,hli,hati⟩:=World.cells?_some (hC i hi).1
   have:=hati j hj
   have hv2:(C i)[j]?=some ((C i).getD j undef):=by simp [show j<(C i).length by omega]
   rw [hv2] at this
   simpa [Addr.add_lit,Nat.add_assoc] using this
  ·exact ⟨(World.cells?_some (hC i hi).1).2.1,(hC i hi).2⟩
theorem list_of {α:Type} [Inhabited α] {P:Nat→α→Prop} (n:Nat) (h:∀ i,i<n→∃ c,P i c):∃ l:List α,l.length=n∧∀ i,i<n→P i (l.getD i default):=by
 have hch:∀ i,∃ c:α,i<n→P i c:=by
  intro i
  by_cases hlt:i<n
  ·obtain ⟨c,hc⟩:=h i hlt
   exact ⟨c,fun _=>hc⟩
  ·exact ⟨default,fun h=>absurd h hlt⟩
 obtain ⟨f,hf⟩:=Classical.axiomOfChoice hch
 refine ⟨(List.range n).map f,by simp,fun i hi=>?_⟩
 have:((List.range n).map f).getD i default=f i:=by simp [hi]
 rw [this]
 exact hf i hi
/-- a configuration that came in -/
theorem config_in {W:World} {base:Nat} {r:Reach} {spare:Nat→Bool} {held:Bool} {v:Value} {d:DataW H} {p:List MemPlace} (hv:Value.okWide Tryz.prog W r base 60 v) (h:DataW.Trod enc Tryz.prog W 0 spare held 60 v d p):∃ c:Cfg,v=c.v:=by
 obtain ⟨cs,rfl,hsz⟩:=okWide_struct Tryz.underlying60 hv
 obtain ⟨fuel,hf⟩:=h
 obtain ⟨xs,m,_,_,hlen,hxl,hf⟩:=DataW.trod_struct Tryz.underlying60 hf
 have h0:DataW.trod enc Tryz.prog W 0 spare held m 3 (((Value.agg cs).cells.toList.drop 0).take (Tryz.prog.cellsOf 3))=xs[0]?:=hf 0 _ rfl
 have h1:DataW.trod enc Tryz.prog W 0 spare held m 3 (((Value.agg cs).cells.toList.drop 1).take (Tryz.prog.cellsOf 3))=xs[1]?:=hf 1 _ rfl
 have h2:DataW.trod enc Tryz.prog W 0 spare held m 3 (((Value.agg cs).cells.toList.drop 2).take (Tryz.prog.cellsOf 3))=xs[2]?:=hf 2 _ rfl
 have h3:DataW.trod enc Tryz.prog W 0 spare held m 3 (((Value.agg cs).cells.toList.drop 3).take (Tryz.prog.cellsOf 3))=xs[3]?:=hf 3 _ rfl
 have h4:DataW.trod enc Tryz.prog W 0 spare held m 3 (((Value.agg cs).cells.toList.drop 4).take (Tryz.prog.cellsOf 3))=xs[4]?:=hf 4 _ rfl
 have h5:DataW.trod enc Tryz.prog W 0 spare held m 3 (((Value.agg cs).cells.toList.drop 5).take (Tryz.prog.cellsOf 3))=xs[5]?:=hf 5 _ rfl
 have h6:DataW.trod enc Tryz.prog W 0 spare held m 3 (((Value.agg cs).cells.toList.drop 6).take (Tryz.prog.cellsOf 3))=xs[6]?:=hf 6 _ rfl
 have h7:DataW.trod enc Tryz.prog W 0 spare held m 3 (((Value.agg cs).cells.toList.drop 7).take (Tryz.prog.cellsOf 3))=xs[7]?:=hf 7 _ rfl
 rw [cells_int] at h0 h1 h2 h3 h4 h5 h6 h7
 obtain ⟨k0,e0,_⟩:=field_int h0 (some_at hxl (by decide))
 obtain ⟨k1,e1,_⟩:=field_int h1 (some_at hxl (by decide))
 obtain ⟨k2,e2,_⟩:=field_int h2 (some_at hxl (by decide))
 obtain ⟨k3,e3,_⟩:=field_int h3 (some_at hxl (by decide))
 obtain ⟨k4,e4,_⟩:=field_int h4 (some_at hxl (by decide))
 obtain ⟨k5,e5,_⟩:=field_int h5 (some_at hxl (by decide))
 obtain ⟨k6,e6,_⟩:=field_int h6 (some_at hxl (by decide))
 obtain ⟨k7,e7,_⟩:=field_int h7 (some_at hxl (by decide))
 rw [cells_config] at hlen
 obtain ⟨cl⟩:=cs
 have hcells:(Value.agg ⟨cl⟩).cells.toList=cl:=rfl
 rw [hcells] at hlen e0 e1 e2 e3 e4 e5 e6 e7
 match cl,hlen with
 | [c0,c1,c2,c3,c4,c5,c6,c7],_ =>
  simp at e0 e1 e2 e3 e4 e5 e6 e7
  subst e0;subst e1;subst e2;subst e3;subst e4;subst e5;subst e6;subst e7
  exact ⟨⟨k0,k1,k2,k3,k4,k5,k6,k7⟩,rfl⟩
end
end Go.Proofs.YtkigikallkpbcaaGreatDoor
/- How a chunk by value, frames and integers that came in open. Conditions: none. -/
namespace Go.Proofs.YtkigikallkpbcaaGreatDoor
open Go.ChangeShapes Go.WideShapes Go.ChangeAt Go.RowKit Go.Deep
set_option linter.unusedVariables false
set_option linter.unusedSimpArgs false
theorem cells_i64s:Tryz.prog.cellsOf 49=1:=by kernel_rfl
theorem cells_frame:Tryz.prog.cellsOf 73=3:=by kernel_rfl
section
variable {H:Type} {enc:TypeId×Value→H}
theorem i64s_in {W:World} {a:Option Addr} {len cap fuel:Nat} {spare:Nat→Bool} {held:Bool} {x:DataW H×List MemPlace} (h:DataW.trod enc Tryz.prog W 0 spare held fuel 49 (Value.slice a len cap).cells.toList=some x) :
  ∃ l,Ints .i64 0 W.heap.size W (.slice a len cap) l:=by
 rcases open_ints Tryz.underlying49 Tryz.underlying3 (by kernel_rfl) h with ⟨hcs,_⟩ | ⟨y,l,c,zs,hcs,_,hl,hm,hz,_,hcell,hwz⟩
 ·simp [Value.cells] at hcs
  obtain ⟨rfl,rfl,rfl⟩:=hcs
  exact ⟨[],Ints.nil _ _ _ _⟩
 ·simp [Value.cells] at hcs
  obtain ⟨rfl,rfl,rfl⟩:=hcs
  have hzl:len≤zs.length:=by split at hz <;> omega
  refine ⟨zs.take len,⟨⟨by simp,some y,cap,by rw [List.length_take];congr 1;omega,by rw [List.length_take];omega,hm,fun hp=>?_⟩,fun n hn=>?_⟩⟩
  ·have hc0:=hcell 0 (by rw [List.length_take] at hp;omega)
   obtain ⟨b,off,spot⟩:=y
   have hspot:spot=none:=by simpa [Addr.add] using World.cell?_spot hc0
   subst hspot
   refine ⟨b,off,rfl,Nat.zero_le _,block_lt_of_cell (by simpa [Addr.add] using hc0),fun j u hu=>?_⟩
   rw [List.getElem?_map] at hu
   obtain ⟨n,hn,rfl⟩:=Option.map_eq_some_iff.1 hu
   have hj:j<(zs.take len).length:=(List.getElem?_eq_some_iff.1 hn).1
   rw [List.length_take] at hj
   have:=hcell j (by omega)
   rw [List.getElem?_take,if_pos (by omega)] at hn
   simpa [Addr.add_lit,List.getD_eq_getElem?_getD,hn] using this
  ·exact i64_in (hwz n (List.mem_of_mem_take hn))
theorem frame_cells_in {W:World} {spare:Nat→Bool} {held:Bool} {n:Nat} {cs:List Value} {y:DataW H×List MemPlace} (hlen:cs.length=3) (hy:DataW.trod enc Tryz.prog W 0 spare held n 73 cs=some y) :
  ∃ f:FrameD,∃ pv,cs=[.int .i64 f.W,.int .i64 f.H,pv]∧(InK .i64 f.W∧InK .i64 f.H)∧Ints .i64 0 W.heap.size W pv f.pix:=by
 obtain ⟨xs,m,_,_,_,hxl,hf⟩:=DataW.trod_struct Tryz.underlying73 hy
 have h0:DataW.trod enc Tryz.prog W 0 spare held m 3 ((cs.drop 0).take (Tryz.prog.cellsOf 3))=xs[0]?:=hf 0 _ rfl
 have h1:DataW.trod enc Tryz.prog W 0 spare held m 3 ((cs.drop 1).take (Tryz.prog.cellsOf 3))=xs[1]?:=hf 1 _ rfl
 have h2:DataW.trod enc Tryz.prog W 0 spare held m 49 ((cs.drop 2).take (Tryz.prog.cellsOf 49))=xs[2]?:=hf 2 _ rfl
 rw [cells_int] at h0 h1
 rw [cells_i64s] at h2
 obtain ⟨k,hk,hkw⟩:=field_int h0 (some_at hxl (by decide))
 obtain ⟨k',hk',hkw'⟩:=field_int h1 (some_at hxl (by decide))
 match hC:cs,hlen with
 | [c0,c1,c2],_ =>
  simp at hk hk' h2
  subst hk;subst hk'
  have e2:xs[2]?=some (xs[2]'(by rw [hxl];decide)):=List.getElem?_eq_getElem _
  rw [e2] at h2
  rcases open_slice Tryz.underlying49 h2 with ⟨hc1,_⟩ | ⟨a,ln,cap,_,_,_,_,hc1,_⟩
  ·simp at hc1;subst hc1;exact ⟨⟨k,k',[]⟩,_,rfl,⟨i64_in hkw,i64_in hkw'⟩,Ints.nil _ _ _ _⟩
  ·simp at hc1;subst hc1
   obtain ⟨d,hd⟩:=i64s_in (a:=some a) (len:=ln) (cap:=cap) (by simpa [Value.cells] using h2)
   exact ⟨⟨k,k',d⟩,_,rfl,⟨i64_in hkw,i64_in hkw'⟩,hd⟩
theorem frames_in {W:World} {spare:Nat→Bool} {held:Bool} {fuel:Nat} {cs:List Value} {x:DataW H×List MemPlace} (h:DataW.trod enc Tryz.prog W 0 spare held fuel 61 cs=some x):∃ v l,cs=[v]∧FramesAt 0 W.heap.size W v l:=by
 obtain ⟨v,len,n,C,rfl,hR,hel⟩:=rows_in Tryz.underlying61 cells_frame (by omega) h
 obtain ⟨l,hl,hP⟩:=list_of (α:=FrameD) (P:=fun i f=>(C i).getD 0 undef=.int .i64 f.W∧(C i).getD 1 undef=.int .i64 f.H∧Ints .i64 0 W.heap.size W ((C i).getD 2 undef) f.pix) len (fun i hi=>by
  obtain ⟨hlen,y,hy⟩:=hel i hi
  obtain ⟨f,pv,hcs,-,hd⟩:=frame_cells_in hlen hy
  exact ⟨f,by rw [hcs];rfl,by rw [hcs];rfl,by rw [hcs];exact hd⟩)
 exact ⟨v,l,rfl,_,by rw [hl];exact hR,fun i hi=>hP i (by omega)⟩
end
end Go.Proofs.YtkigikallkpbcaaGreatDoor
