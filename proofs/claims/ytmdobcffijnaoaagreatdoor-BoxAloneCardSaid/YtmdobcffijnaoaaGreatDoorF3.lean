/- What a row's proof needs besides its walk: closed facts, the condition on errors.errorType, how the arguments open. Conditions: none. -/
import Derived.Test.YtmdobcffijnaoaaGreatDoorRows
import Derived.Test.YtmdobcffijnaoaaGreatDoorC2
import Derived.Test.YtmdobcffijnaoaaGreatDoorC1
import Derived.ProofKit
import Derived.OpenShut
import Derived.ShutString
import Derived.ChangeOld
import Derived.ChangeVars
import Derived.JoinedOf
import Derived.LaidLaws
import Derived.LaidHandle
import Derived.Stop.Joined
namespace Go.Proofs.YtmdobcffijnaoaaGreatDoor
open Go.ChangeShapes Go.WideShapes Go.ChangeAt Go.RowKit
set_option linter.unusedVariables false
set_option linter.unusedSimpArgs false
set_option maxRecDepth 100000
set_option maxHeartbeats 16000000
theorem own_:ownKnob Tryz.prog.godebug=none:=by kernel_rfl
theorem laidOut_:laidOutB Tryz.prog=true:=by kernel_rfl
theorem et_:Tryz.prog.globalNamed "errors.errorType"=some 0:=by kernel_rfl
theorem rt_:(Tryz.prog.cutTypes.find? (·.1 == "internal/reflectlite.rtype")).map (·.2)=some 239:=by kernel_rfl
theorem oneRow_:((List.range 344).filter fun t=>Tryz.prog.rowNamed t [101,114,114,111,114])=[26]:=by kernel_rfl
theorem size_:Tryz.prog.types.size=344:=by kernel_rfl
abbrev laid1:List (String×DataW Unit):=[("errors.errorType",Rows.laid_errors_errorType)]
/-- what the condition gives a walk -/
theorem errT_of_laid {W:World} (h:laidMetH Tryz.prog laid1 W):ErrT W:=by
 have h':laidMet Tryz.prog [] W∧handlesMet Tryz.prog laid1 W:=h
 obtain ⟨name,u,ty,e1,e2,e3,e4,e5⟩:=h'.2 _ (mSg.2 rfl)
 have en:name=[101,114,114,111,114]:=(Option.some.inj e1).symm
 subst en
 obtain rfl:=Option.some.inj (rt_.symm.trans e2)
 have hm:ty∈(List.range 344).filter fun t=>Tryz.prog.rowNamed t [101,114,114,111,114]:=List.mem_filter.2 ⟨List.mem_range.2 (by rw [← size_];exact e3),e4⟩
 rw [oneRow_] at hm
 obtain rfl:=mSg.1 hm
 have hh:typeHandle Tryz.prog 26=.pointer (some ⟨1,26,none⟩):=by kernel_rfl
 rw [hh] at e5
 simpa [ErrT,rT] using World.var?_cell et_ e5 0
/-- a world that meets the condition -/
noncomputable def laidWorld (os:Os):World :=
 let w0:=World.holding Tryz.prog os ⟨#[],#[],[]⟩
 { w0 with heap:=w0.heap.modify 0 fun
   | .cells _ t frozen=>.cells #[.iface 239 (.agg #[.pointer (some ⟨1,26,none⟩)])] t frozen
   | o=>o }
theorem laidWorld_met (os:Os) (args:Array Value):laidMetH Tryz.prog laid1 ((laidWorld os).forCall (fun _ _=>0) ⟨#[],args,[]⟩).memory :=
 laidMetH_of_parts (laidMet_nil _ _) (by kernel_rfl)
section
variable {H:Type} {enc:TypeId×Value→H}
/-- a slice of bytes that came in -/
theorem bytes_in {W:World} {a:Option Addr} {len cap fuel:Nat} {spare:Nat→Bool} {held:Bool} {x:DataW H×List MemPlace} (h:DataW.trod enc Tryz.prog W 0 spare held fuel 22 (Value.slice a len cap).cells.toList=some x) :
  ∃ l,Ints .u8 0 W.heap.size W (.slice a len cap) l:=by
 rcases open_ints Tryz.underlying22 Tryz.underlying5 (by kernel_rfl) h with ⟨hcs,_⟩ | ⟨y,l,c,zs,hcs,_,hl,hm,hz,_,hcell,hwz⟩
 ·simp [Value.cells] at hcs
  obtain ⟨rfl,rfl,rfl⟩:=hcs
  exact ⟨[],Ints.nil _ _ _ _⟩
 ·simp [Value.cells] at hcs
  obtain ⟨rfl,rfl,rfl⟩:=hcs
  have hzl:len≤zs.length:=by split at hz <;> omega
  refine ⟨zs.take len,⟨⟨by simp,some y,cap,by rw [List.length_take];congr 1;omega,by rw [List.length_take];omega,hm,fun hp=>?_⟩,fun n hn=>?_⟩⟩
  ·have hc0:=hcell 0 (by rw [List.length_take] at hp;omega)
   obtain ⟨b,off,spot⟩:=y
   have hspot:spot=none:=by simpa [Addr.add] using World.cell?_spot hc0
   subst hspot
   refine ⟨b,off,rfl,Nat.zero_le _,block_lt_of_cell (by simpa [Addr.add] using hc0),fun j u hu=>?_⟩
   rw [List.getElem?_map] at hu
   obtain ⟨n,hn,rfl⟩:=Option.map_eq_some_iff.1 hu
   have hj:j<(zs.take len).length:=(List.getElem?_eq_some_iff.1 hn).1
   rw [List.length_take] at hj
   have:=hcell j (by omega)
   rw [List.getElem?_take,if_pos (by omega)] at hn
   simpa [Addr.add_lit,List.getD_eq_getElem?_getD,hn] using this
  ·have:=hwz n (List.mem_of_mem_take hn)
   simp [Lit.wf,IntKind.min,IntKind.max,IntKind.signed,IntKind.bits] at this
   exact ⟨by omega,by omega⟩
end
end Go.Proofs.YtmdobcffijnaoaaGreatDoor
