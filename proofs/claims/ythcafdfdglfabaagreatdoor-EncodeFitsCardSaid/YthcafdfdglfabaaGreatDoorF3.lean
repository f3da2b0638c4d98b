/- Joined texts: Frame, EOpen, EOpenK. Conditions: each part names its own. -/
import Derived.Test.YthcafdfdglfabaaGreatDoorRows
import Derived.ProofKit
import Derived.OpenShut
import Derived.ShutString
import Derived.LaidLaws
import Derived.LaidHandle
import Derived.Stop.Joined
import Derived.Test.YthcafdfdglfabaaGreatDoorF2
import Derived.Deep.Slices
set_option maxRecDepth 100000
set_option maxHeartbeats 16000000
namespace Go.Proofs.YthcafdfdglfabaaGreatDoor
open Go.ChangeShapes Go.WideShapes Go.ChangeAt Go.RowKit
set_option linter.unusedVariables false
set_option linter.unusedSimpArgs false
theorem KN:ownKnob Tryz.prog.godebug=none:=Mh
theorem kR:laidOutB Tryz.prog=true:=Mh
theorem et_:Tryz.prog.globalNamed "errors.errorType"=some 0:=Mh
theorem rt_:(Tryz.prog.cutTypes.find? (·.1 == "internal/reflectlite.rtype")).map (·.2)=some 283:=Mh
theorem Jo:((List.range 347).filter fun t=>Tryz.prog.rowNamed t [101,114,114,111,114])=[33]:=Mh
theorem KU:Tryz.prog.types.size=347:=Mh
abbrev nX:List (String×DataW Unit):=[("errors.errorType",Rows.laid_errors_errorType)]
theorem nJ {W:World} (h:laidMetH Tryz.prog nX W):kJ W:=by
 have h':laidMet Tryz.prog [] W/\handlesMet Tryz.prog nX W:=h;obtain ⟨JuZ,u,ty,e1,e2,e3,e4,e5⟩:=h'.2 _ (mSg.2 rfl);have en:JuZ=[101,114,114,111,114]:=(Option.some.inj e1).symm;subst en;obtain rfl:=Option.some.inj (rt_.symm.trans e2);have hm:ty∈(List.range 347).filter fun t=>Tryz.prog.rowNamed t [101,114,114,111,114]:=List.mem_filter.2 ⟨List.mem_range.2 (by rw [<- KU];exact e3),e4⟩
 rw [Jo] at hm;obtain rfl:=mSg.1 hm;have hh:typeHandle Tryz.prog 33=.pointer (some ⟨1,33,none⟩):=Mh;rw [hh] at e5;simpa [kJ,rT] using World.var?_cell et_ e5 0
noncomputable def laidWorld (os:Os):World :=
 let w0:=World.holding Tryz.prog os ⟨#[],#[],[]⟩
 { w0 with heap:=w0.heap.modify 0 fun
   | .cells _ t frozen=>.cells #[.iface 283 (.agg #[.pointer (some ⟨1,33,none⟩)])] t frozen
   | o=>o }
theorem mN (os:Os) (args:Array Value):laidMetH Tryz.prog nX ((laidWorld os).forCall (fun _ _=>0) ⟨#[],args,[]⟩).memory :=
 laidMetH_of_parts (laidMet_nil _ _) Mh
section
variable {H:Type} {enc:TypeId×Value->H}
end
open Go.Deep
set_option linter.unusedVariables false
set_option linter.unusedSimpArgs false
theorem th:Tryz.prog.cellsOf 3=1:=Mh
theorem zh:Tryz.prog.cellsOf 22=1:=Mh
theorem wo:Tryz.prog.cellsOf 24=3:=Mh
theorem rf {n:Int} (h:(Lit.int .i64 n).wf=true):InK .i64 n:=by
 have:=bounds_i64 h;exact ⟨Mf,Mf⟩
section
variable {H:Type} {enc:TypeId×Value->H}
theorem eE {W:World} {OV:Nat->Bool} {QD:Bool} {fuel:Nat} {cs:List Value} {y:Option (DataW H×List MemPlace)} (h:DataW.trod enc Tryz.prog W 0 OV QD fuel 3 cs=y) (hy:y.isSome=true):∃ n,cs=[.int .i64 n]/\(Lit.int .i64 n).wf=true:=by
 cases y with
 | none=>cases hy
 | some x =>
  obtain ⟨n,h1,_,h3⟩:=DataW.trod_int Tryz.underlying3 h;exact ⟨n,h1,h3⟩
theorem gM {α:Type} {l:List α} {i n:Nat} (h:l.length=n) (hi:i<n):l[i]?.isSome=true:=by simp [h,hi]
theorem Jb {W:World} {a:Option Addr} {len cap fuel:Nat} {OV:Nat->Bool} {QD:Bool} {x:DataW H×List MemPlace} (h:DataW.trod enc Tryz.prog W 0 OV QD fuel 22 (Value.slice a len cap).cells.toList=some x) :
  ∃ l,ah .i64 0 W.heap.size W (.slice a len cap) l:=by
 rcases open_ints Tryz.underlying22 Tryz.underlying3 Mh h with ⟨TI,_⟩ | ⟨y,l,c,zs,TI,_,hl,hm,hz,_,MZ,hwz⟩
 ·simp [Value.cells] at TI
  obtain ⟨rfl,rfl,rfl⟩:=TI;exact ⟨[],ah.nil _ _ _ _⟩
 ·simp [Value.cells] at TI
  obtain ⟨rfl,rfl,rfl⟩:=TI;have hzl:len<=zs.length:=by split at hz <;> omega
  refine ⟨zs.take len,⟨⟨Mg,some y,cap,by rw [Lp];congr 1;omega,Mw,hm,fun hp=>?_⟩,fun n hn=>?_⟩⟩
  ·have Vq:=MZ 0 (by rw [Lp] at hp;omega)
   obtain ⟨b,off,Jvi⟩:=y;have JpT:Jvi=none:=by simpa [Addr.add] using World.cell?_spot Vq
   subst JpT;refine ⟨b,off,rfl,Mc _,block_lt_of_cell (by simpa [Addr.add] using Vq),fun j u hu=>?_⟩;rw [LG] at hu;obtain ⟨n,hn,rfl⟩:=Option.map_eq_some_iff.1 hu;have hj:j<(zs.take len).length:=(List.getElem?_eq_some_iff.1 hn).1;rw [Lp] at hj;have:=MZ j Mf;rw [LI,if_pos Mf] at hn;simpa [Addr.add_lit,Le,hn] using this
  ·exact rf (hwz n (List.mem_of_mem_take hn))
theorem qV {W:World} {OV:Nat->Bool} {QD:Bool} {n:Nat} {cs:List Value} {y:DataW H×List MemPlace} (MR:cs.length=3) (hy:DataW.trod enc Tryz.prog W 0 OV QD n 24 cs=some y) :
  ∃ f:ai,∃ pv,cs=[.int .i64 f.W,.int .i64 f.H,pv]/\(InK .i64 f.W/\InK .i64 f.H)/\ah .i64 0 W.heap.size W pv f.pix:=by
 obtain ⟨xs,m,_,_,_,hxl,hf⟩:=DataW.trod_struct Tryz.underlying24 hy;have h0:DataW.trod enc Tryz.prog W 0 OV QD m 3 ((cs.drop 0).take (Tryz.prog.cellsOf 3))=xs[0]?:=hf 0 _ rfl;have h1:DataW.trod enc Tryz.prog W 0 OV QD m 3 ((cs.drop 1).take (Tryz.prog.cellsOf 3))=xs[1]?:=hf 1 _ rfl;have h2:DataW.trod enc Tryz.prog W 0 OV QD m 22 ((cs.drop 2).take (Tryz.prog.cellsOf 22))=xs[2]?:=hf 2 _ rfl;rw [th] at h0 h1;rw [zh] at h2;obtain ⟨k,hk,hkw⟩:=eE h0 (gM hxl Mn);obtain ⟨k',Zq,Jpp⟩:=eE h1 (gM hxl Mn)
 match hC:cs,MR with
 | [c0,c1,c2],_ =>
  simp at hk Zq h2;subst hk;subst Zq;have e2:xs[2]?=some (xs[2]'(by rw [hxl];decide)):=Lf _;rw [e2] at h2;rcases open_slice Tryz.underlying22 h2 with ⟨Sj,_⟩ | ⟨a,ln,cap,_,_,_,_,Sj,_⟩
  ·simp at Sj;subst Sj;exact ⟨⟨k,k',[]⟩,_,rfl,⟨rf hkw,rf Jpp⟩,ah.nil _ _ _ _⟩
  ·simp at Sj;subst Sj
   obtain ⟨d,hd⟩:=Jb (a:=some a) (len:=ln) (cap:=cap) (by simpa [Value.cells] using h2);exact ⟨⟨k,k',d⟩,_,rfl,⟨rf hkw,rf Jpp⟩,hd⟩
theorem nO {W:World} {base:Nat} {r:Reach} {OV:Nat->Bool} {QD:Bool} {v:Value} {d:DataW H} {p:List MemPlace} (hv:Value.okWide Tryz.prog W r base 24 v) (h:DataW.Trod enc Tryz.prog W 0 OV QD 24 v d p):∃ f:ai,∃ pv,v=.agg #[f.W,f.H,pv]/\(InK .i64 f.W/\InK .i64 f.H)/\ah .i64 0 W.heap.size W pv f.pix:=by
 obtain ⟨cs,rfl,YT⟩:=okWide_struct Tryz.underlying24 hv;obtain ⟨fuel,hf⟩:=h;obtain ⟨xs,m,_,_,MR,hxl,hf'⟩:=DataW.trod_struct Tryz.underlying24 hf;rw [wo] at MR;obtain ⟨cl⟩:=cs;have UV:(Value.agg ⟨cl⟩).cells.toList=cl:=rfl;rw [UV] at MR hf;obtain ⟨f,pv,rfl,hk,hd⟩:=qV MR hf;exact ⟨f,pv,rfl,hk,hd⟩
end
set_option linter.unusedVariables false
set_option linter.unusedSimpArgs false
theorem uR:Tryz.prog.cellsOf 47=8:=Mh
section
variable {H:Type} {enc:TypeId×Value->H}
theorem CX {W:World} {base:Nat} {r:Reach} {OV:Nat->Bool} {QD:Bool} {v:Value} {d:DataW H} {p:List MemPlace} (hv:Value.okWide Tryz.prog W r base 47 v) (h:DataW.Trod enc Tryz.prog W 0 OV QD 47 v d p):∃ c:Cfg,v=c.v:=by
 obtain ⟨cs,rfl,YT⟩:=okWide_struct Tryz.underlying47 hv;obtain ⟨fuel,hf⟩:=h;obtain ⟨xs,m,_,_,MR,hxl,hf⟩:=DataW.trod_struct Tryz.underlying47 hf;have h0:DataW.trod enc Tryz.prog W 0 OV QD m 3 (((Value.agg cs).cells.toList.drop 0).take (Tryz.prog.cellsOf 3))=xs[0]?:=hf 0 _ rfl;have h1:DataW.trod enc Tryz.prog W 0 OV QD m 3 (((Value.agg cs).cells.toList.drop 1).take (Tryz.prog.cellsOf 3))=xs[1]?:=hf 1 _ rfl;have h2:DataW.trod enc Tryz.prog W 0 OV QD m 3 (((Value.agg cs).cells.toList.drop 2).take (Tryz.prog.cellsOf 3))=xs[2]?:=hf 2 _ rfl;have h3:DataW.trod enc Tryz.prog W 0 OV QD m 3 (((Value.agg cs).cells.toList.drop 3).take (Tryz.prog.cellsOf 3))=xs[3]?:=hf 3 _ rfl;have h4:DataW.trod enc Tryz.prog W 0 OV QD m 3 (((Value.agg cs).cells.toList.drop 4).take (Tryz.prog.cellsOf 3))=xs[4]?:=hf 4 _ rfl;have h5:DataW.trod enc Tryz.prog W 0 OV QD m 3 (((Value.agg cs).cells.toList.drop 5).take (Tryz.prog.cellsOf 3))=xs[5]?:=hf 5 _ rfl;have h6:DataW.trod enc Tryz.prog W 0 OV QD m 3 (((Value.agg cs).cells.toList.drop 6).take (Tryz.prog.cellsOf 3))=xs[6]?:=hf 6 _ rfl;have h7:DataW.trod enc Tryz.prog W 0 OV QD m 3 (((Value.agg cs).cells.toList.drop 7).take (Tryz.prog.cellsOf 3))=xs[7]?:=hf 7 _ rfl;rw [th] at h0 h1 h2 h3 h4 h5 h6 h7;obtain ⟨k0,e0,_⟩:=eE h0 (gM hxl Mn);obtain ⟨k1,e1,_⟩:=eE h1 (gM hxl Mn);obtain ⟨k2,e2,_⟩:=eE h2 (gM hxl Mn);obtain ⟨k3,e3,_⟩:=eE h3 (gM hxl Mn);obtain ⟨k4,e4,_⟩:=eE h4 (gM hxl Mn);obtain ⟨k5,e5,_⟩:=eE h5 (gM hxl Mn);obtain ⟨k6,e6,_⟩:=eE h6 (gM hxl Mn);obtain ⟨k7,e7,_⟩:=eE h7 (gM hxl Mn);rw [uR] at MR;obtain ⟨cl⟩:=cs;have UV:(Value.agg ⟨cl⟩).cells.toList=cl:=rfl;rw [UV] at MR e0 e1 e2 e3 e4 e5 e6 e7
 match cl,MR with
 | [c0,c1,c2,c3,c4,c5,c6,c7],_ =>
  simp at e0 e1 e2 e3 e4 e5 e6 e7;subst e0;subst e1;subst e2;subst e3;subst e4;subst e5;subst e6;subst e7;exact ⟨⟨k0,k1,k2,k3,k4,k5,k6,k7⟩,rfl⟩
end
end Go.Proofs.YthcafdfdglfabaaGreatDoor
