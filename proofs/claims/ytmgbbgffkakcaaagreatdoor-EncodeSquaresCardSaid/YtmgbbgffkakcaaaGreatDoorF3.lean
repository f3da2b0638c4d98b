/- Joined texts: Frame, EOpen. Conditions: each part names its own. -/
import Derived.Test.YtmgbbgffkakcaaaGreatDoorRows
import Derived.Test.YtmgbbgffkakcaaaGreatDoorC2
import Derived.Test.YtmgbbgffkakcaaaGreatDoorC1
import Derived.ProofKit
import Derived.OpenShut
import Derived.ShutString
import Derived.ChangeOld
import Derived.ChangeVars
import Derived.JoinedOf
import Derived.LaidLaws
import Derived.LaidHandle
import Derived.Stop.Joined
import Derived.Test.YtmgbbgffkakcaaaGreatDoorF2
import Derived.Deep.Slices
/- What a row's proof needs besides its walk: closed facts, the condition on errors.errorType, how the arguments open. Conditions: none. -/
set_option maxRecDepth 100000
set_option maxHeartbeats 16000000
namespace Go.Proofs.YtmgbbgffkakcaaaGreatDoor
open Go.ChangeShapes Go.WideShapes Go.ChangeAt Go.RowKit
set_option linter.unusedVariables false
set_option linter.unusedSimpArgs false
theorem own_:ownKnob Tryz.prog.godebug=none:=by kernel_rfl
theorem laidOut_:laidOutB Tryz.prog=true:=by kernel_rfl
theorem et_:Tryz.prog.globalNamed "errors.errorType"=some 0:=by kernel_rfl
theorem rt_:(Tryz.prog.cutTypes.find? (·.1 == "internal/reflectlite.rtype")).map (·.2)=some 265:=by kernel_rfl
theorem oneRow_:((List.range 321).filter fun t=>Tryz.prog.rowNamed t [101,114,114,111,114])=[33]:=by kernel_rfl
theorem size_:Tryz.prog.types.size=321:=by kernel_rfl
abbrev laid1:List (String×DataW Unit):=[("errors.errorType",Rows.laid_errors_errorType)]
/-- what the condition gives a walk -/
theorem errT_of_laid {W:World} (h:laidMetH Tryz.prog laid1 W):ErrT W:=by
 have h':laidMet Tryz.prog [] W∧handlesMet Tryz.prog laid1 W:=h
 obtain ⟨name,u,ty,e1,e2,e3,e4,e5⟩:=h'.2 _ (mSg.2 rfl)
 have en:name=[101,114,114,111,114]:=(Option.some.inj e1).symm
 subst en
 obtain rfl:=Option.some.inj (rt_.symm.trans e2)
 have hm:ty∈(List.range 321).filter fun t=>Tryz.prog.rowNamed t [101,114,114,111,114]:=List.mem_filter.2 ⟨List.mem_range.2 (by rw [← size_];exact e3),e4⟩
 rw [oneRow_] at hm
 obtain rfl:=mSg.1 hm
 have hh:typeHandle Tryz.prog 33=.pointer (some ⟨1,33,none⟩):=by kernel_rfl
 rw [hh] at e5
 simpa [ErrT,rT] using World.var?_cell et_ e5 0
/-- a world that meets the condition -/
noncomputable def laidWorld (os:Os):World :=
 let w0:=World.holding Tryz.prog os ⟨#[],#[],[]⟩
 { w0 with heap:=w0.heap.modify 0 fun
   | .cells _ t frozen=>.cells #[.iface 265 (.agg #[.pointer (some ⟨1,33,none⟩)])] t frozen
   | o=>o }
theorem laidWorld_met (os:Os) (args:Array Value):laidMetH Tryz.prog laid1 ((laidWorld os).forCall (fun _ _=>0) ⟨#[],args,[]⟩).memory :=
 laidMetH_of_parts (laidMet_nil _ _) (by kernel_rfl)
section
variable {H:Type} {enc:TypeId×Value→H}
end
end Go.Proofs.YtmgbbgffkakcaaaGreatDoor
/- How coded frames and frames that came in open. Conditions: none. -/
namespace Go.Proofs.YtmgbbgffkakcaaaGreatDoor
open Go.ChangeShapes Go.WideShapes Go.ChangeAt Go.RowKit Go.Deep
set_option linter.unusedVariables false
set_option linter.unusedSimpArgs false
theorem cells_int:Tryz.prog.cellsOf 3=1:=by kernel_rfl
theorem cells_i64s:Tryz.prog.cellsOf 22=1:=by kernel_rfl
theorem cells_frame:Tryz.prog.cellsOf 24=3:=by kernel_rfl
theorem i64_in {n:Int} (h:(Lit.int .i64 n).wf=true):InK .i64 n:=by
 have:=bounds_i64 h
 exact ⟨by omega,by omega⟩
section
variable {H:Type} {enc:TypeId×Value→H}
theorem field_int {W:World} {spare:Nat→Bool} {held:Bool} {fuel:Nat} {cs:List Value} {y:Option (DataW H×List MemPlace)} (h:DataW.trod enc Tryz.prog W 0 spare held fuel 3 cs=y) (hy:y.isSome=true):∃ n,cs=[.int .i64 n]∧(Lit.int .i64 n).wf=true:=by
 cases y with
 | none=>cases hy
 | some x =>
  obtain ⟨n,h1,_,h3⟩:=DataW.trod_int Tryz.underlying3 h
  exact ⟨n,h1,h3⟩
theorem some_at {α:Type} {l:List α} {i n:Nat} (h:l.length=n) (hi:i<n):l[i]?.isSome=true:=by simp [h,hi]
/-- a slice of integers that came in -/
theorem i64s_in {W:World} {a:Option Addr} {len cap fuel:Nat} {spare:Nat→Bool} {held:Bool} {x:DataW H×List MemPlace} (h:DataW.trod enc Tryz.prog W 0 spare held fuel 22 (Value.slice a len cap).cells.toList=some x) :
  ∃ l,Ints .i64 0 W.heap.size W (.slice a len cap) l:=by
 rcases open_ints Tryz.underlying22 Tryz.underlying3 (by kernel_rfl) h with ⟨hcs,_⟩ | ⟨y,l,c,zs,hcs,_,hl,hm,hz,_,hcell,hwz⟩
 ·simp [Value.cells] at hcs
  obtain ⟨rfl,rfl,rfl⟩:=hcs
  exact ⟨[],Ints.nil _ _ _ _⟩
 ·simp [Value.cells] at hcs
  obtain ⟨rfl,rfl,rfl⟩:=hcs
  have hzl:len≤zs.length:=by split at hz <;> omega
  refine ⟨zs.take len,⟨⟨by simp,some y,cap,by rw [List.length_take];congr 1;omega,by rw [List.length_take];omega,hm,fun hp=>?_⟩,fun n hn=>?_⟩⟩
  ·have hc0:=hcell 0 (by rw [List.length_take] at hp;omega)
   obtain ⟨b,off,spot⟩:=y
   have hspot:spot=none:=by simpa [Addr.add] using World.cell?_spot hc0
   subst hspot
   refine ⟨b,off,rfl,Nat.zero_le _,block_lt_of_cell (by simpa [Addr.add] using hc0),fun j u hu=>?_⟩
   rw [List.getElem?_map] at hu
   obtain ⟨n,hn,rfl⟩:=Option.map_eq_some_iff.1 hu
   have hj:j<(zs.take len).length:=(List.getElem?_eq_some_iff.1 hn).1
   rw [List.length_take] at hj
   have:=hcell j (by omega)
   rw [List.getElem?_take,if_pos (by omega)] at hn
   simpa [Addr.add_lit,List.getD_eq_getElem?_getD,hn] using this
  ·exact i64_in (hwz n (List.mem_of_mem_take hn))
/-- the cells of a frame -/
theorem frame_cells_in {W:World} {spare:Nat→Bool} {held:Bool} {n:Nat} {cs:List Value} {y:DataW H×List MemPlace} (hlen:cs.length=3) (hy:DataW.trod enc Tryz.prog W 0 spare held n 24 cs=some y) :
  ∃ f:FrameD,∃ pv,cs=[.int .i64 f.W,.int .i64 f.H,pv]∧(InK .i64 f.W∧InK .i64 f.H)∧Ints .i64 0 W.heap.size W pv f.pix:=by
 obtain ⟨xs,m,_,_,_,hxl,hf⟩:=DataW.trod_struct Tryz.underlying24 hy
 have h0:DataW.trod enc Tryz.prog W 0 spare held m 3 ((cs.drop 0).take (Tryz.prog.cellsOf 3))=xs[0]?:=hf 0 _ rfl
 have h1:DataW.trod enc Tryz.prog W 0 spare held m 3 ((cs.drop 1).take (Tryz.prog.cellsOf 3))=xs[1]?:=hf 1 _ rfl
 have h2:DataW.trod enc Tryz.prog W 0 spare held m 22 ((cs.drop 2).take (Tryz.prog.cellsOf 22))=xs[2]?:=hf 2 _ rfl
 rw [cells_int] at h0 h1
 rw [cells_i64s] at h2
 obtain ⟨k,hk,hkw⟩:=field_int h0 (some_at hxl (by decide))
 obtain ⟨k',hk',hkw'⟩:=field_int h1 (some_at hxl (by decide))
 match hC:cs,hlen with
 | [c0,c1,c2],_ =>
  simp at hk hk' h2
  subst hk;subst hk'
  have e2:xs[2]?=some (xs[2]'(by rw [hxl];decide)):=List.getElem?_eq_getElem _
  rw [e2] at h2
  rcases open_slice Tryz.underlying22 h2 with ⟨hc1,_⟩ | ⟨a,ln,cap,_,_,_,_,hc1,_⟩
  ·simp at hc1;subst hc1;exact ⟨⟨k,k',[]⟩,_,rfl,⟨i64_in hkw,i64_in hkw'⟩,Ints.nil _ _ _ _⟩
  ·simp at hc1;subst hc1
   obtain ⟨d,hd⟩:=i64s_in (a:=some a) (len:=ln) (cap:=cap) (by simpa [Value.cells] using h2)
   exact ⟨⟨k,k',d⟩,_,rfl,⟨i64_in hkw,i64_in hkw'⟩,hd⟩
/-- a frame that came in by value -/
theorem frame_in {W:World} {base:Nat} {r:Reach} {spare:Nat→Bool} {held:Bool} {v:Value} {d:DataW H} {p:List MemPlace} (hv:Value.okWide Tryz.prog W r base 24 v) (h:DataW.Trod enc Tryz.prog W 0 spare held 24 v d p):∃ f:FrameD,∃ pv,v=.agg #[.int .i64 f.W,.int .i64 f.H,pv]∧(InK .i64 f.W∧InK .i64 f.H)∧Ints .i64 0 W.heap.size W pv f.pix:=by
 obtain ⟨cs,rfl,hsz⟩:=okWide_struct Tryz.underlying24 hv
 obtain ⟨fuel,hf⟩:=h
 obtain ⟨xs,m,_,_,hlen,hxl,hf'⟩:=DataW.trod_struct Tryz.underlying24 hf
 rw [cells_frame] at hlen
 obtain ⟨cl⟩:=cs
 have hcells:(Value.agg ⟨cl⟩).cells.toList=cl:=rfl
 rw [hcells] at hlen hf
 obtain ⟨f,pv,rfl,hk,hd⟩:=frame_cells_in hlen hf
 exact ⟨f,pv,rfl,hk,hd⟩
end
end Go.Proofs.YtmgbbgffkakcaaaGreatDoor
