/- Joined texts: AsFacts, As, Of. Conditions: each part names its own. -/
import Derived.Test.YtmdobcffijnaoaaGreatDoorC1
import Derived.Stop.Asserts
import Derived.Deep.LoopGhost
import Derived.Deep.RegionHeld3
/- errors.As at the two targets of package fault: a code, a fault. What the reflectlite entries of the model answer there, as closed facts. Conditions: the package variable errors.errorType holds error's type. -/
set_option maxRecDepth 100000
set_option maxHeartbeats 16000000
namespace Go.Proofs.YtmdobcffijnaoaaGreatDoor
open Go.RowKit Go.Extern Go.Stop Go.Extern.Stop
set_option linter.unusedVariables false
set_option linter.unusedSimpArgs false
abbrev hT (t:Nat):Value:=.pointer (some ⟨1,t,none⟩)
/-- reflectlite's type of t -/
abbrev rT (t:Nat):Value:=.iface 239 (.agg #[hT t])
/-- a reflectlite.Value of a variable at block B -/
abbrev rV (t B:Nat) (fl:Int):Value:=.agg #[hT t,.pointer (some ⟨B,0,none⟩),.int .u64 fl]
theorem method_eq (z:Sem Value) (f:TypeId→Addr→Nat→Nat→Sem Value) (v:Value):ReflectliteValue.method z f #[v]=(ReflectliteValue.parts v >>= fun x=>match x with | none=>z | some (t,a,fl)=>f t a fl (fl % 32)):=rfl
theorem loadVar_one {t:Nat} (ht:∀ w,(isAgg t).run Tryz.prog w=.ok false w) {a:Addr} {v:Value} {w:World} (h:w.cell? a=some v):(loadVar t a).run Tryz.prog w=.ok v w:=by
 simp only [loadVar,Sem.run_bind,ht,Result.andThen_ok]
 simp [h]
/-! ### methods of rtype, and of a fault -/
theorem mKind (t:Nat) (w:World):(Go.method 444 239 (.agg #[hT t]) "Kind").run Tryz.prog w=.ok (238,hT t) w:=by kernel_rfl
theorem mElem (t:Nat) (w:World):(Go.method 444 239 (.agg #[hT t]) "Elem").run Tryz.prog w=.ok (260,.agg #[hT t]) w:=by kernel_rfl
theorem mImpl (t:Nat) (w:World):(Go.method 444 239 (.agg #[hT t]) "Implements").run Tryz.prog w=.ok (261,.agg #[hT t]) w:=by kernel_rfl
theorem mAsgn (t:Nat) (w:World):(Go.method 444 239 (.agg #[hT t]) "AssignableTo").run Tryz.prog w=.ok (258,.agg #[hT t]) w:=by kernel_rfl
theorem mUnwrap (v:Value) (w:World):(Go.method 444 114 v "Unwrap").run Tryz.prog w=.ok (243,v) w:=by kernel_rfl
/-! ### assertions -/
theorem noAsC (v:Value) (xT:TypeId) (w:World):(Instr.typeAssert (.iface 29 v) xT 244 true).run Tryz.prog w=.ok (.tuple #[.nilIface,.bool false]) w:=run_typeAssert_lacksB Tryz.underlying244 (by kernel_rfl) (by kernel_rfl) v xT w
theorem noAsF (v:Value) (xT:TypeId) (w:World):(Instr.typeAssert (.iface 114 v) xT 244 true).run Tryz.prog w=.ok (.tuple #[.nilIface,.bool false]) w:=run_typeAssert_lacksB Tryz.underlying244 (by kernel_rfl) (by kernel_rfl) v xT w
theorem noUwC (v:Value) (xT:TypeId) (w:World):(Instr.typeAssert (.iface 29 v) xT 247 true).run Tryz.prog w=.ok (.tuple #[.nilIface,.bool false]) w:=run_typeAssert_lacksB Tryz.underlying247 (by kernel_rfl) (by kernel_rfl) v xT w
theorem uwF (v:Value) (xT:TypeId) (w:World):(Instr.typeAssert (.iface 114 v) xT 247 true).run Tryz.prog w=.ok (.tuple #[.iface 114 v,.bool true]) w:=run_typeAssert_hasB Tryz.underlying247 (by kernel_rfl) v xT w
theorem noUwsC (v:Value) (xT:TypeId) (w:World):(Instr.typeAssert (.iface 29 v) xT 248 true).run Tryz.prog w=.ok (.tuple #[.nilIface,.bool false]) w:=run_typeAssert_lacksB Tryz.underlying248 (by kernel_rfl) (by kernel_rfl) v xT w
/-! ### types -/
theorem typeOfC (v:Value) (w:World):(ReflectliteType.typeOf #[.iface 29 v]).run Tryz.prog w=.ok (rT 29) w:=by kernel_rfl
theorem typeOfF (v:Value) (w:World):(ReflectliteType.typeOf #[.iface 114 v]).run Tryz.prog w=.ok (rT 114) w:=by kernel_rfl
def exKind:=ReflectliteType.abiMethod fun t=>do pure (.int .u8 (← Rtype.kind t))
def exElem:=ReflectliteType.method ReflectliteType.elem
def exImpl:=ReflectliteType.relation "Implements" ReflectliteType.implements_
def exAsgn:=ReflectliteType.relation "AssignableTo" ReflectliteType.assignableTo
def exValueOf:=fun args:Array Value=>ReflectliteValue.unpack (args.getD 0 (.tuple #[]))
def exType:=ReflectliteValue.methodAny (ReflectliteValue.valueError "reflectlite.Value.Type" 0) fun t _ _ _=>ReflectliteType.toType t
def exIsNil:=ReflectliteValue.method (ReflectliteValue.valueError "reflectlite.Value.IsNil" 0) ReflectliteValue.isNil
def exVElem:=ReflectliteValue.method (ReflectliteValue.valueError "reflectlite.Value.Elem" 0) ReflectliteValue.elem
theorem kindPC (w:World):(exKind #[hT 113]).run Tryz.prog w=.ok (.int .u8 22) w:=by kernel_rfl
theorem kindEC (w:World):(exKind #[hT 29]).run Tryz.prog w=.ok (.int .u8 2) w:=by kernel_rfl
theorem elemPC (w:World):(exElem #[.agg #[hT 113]]).run Tryz.prog w=.ok (rT 29) w:=by kernel_rfl
theorem implC (w:World):(exImpl #[.agg #[hT 29],rT 26]).run Tryz.prog w=.ok (.bool true) w:=by kernel_rfl
theorem valueOfPC (g:Nat) (w:World):(exValueOf #[.iface 113 (.pointer (some ⟨g,0,none⟩))]).run Tryz.prog w=.ok (rV 113 w.heap.size 150) (w.alloc (.cells #[.pointer (some ⟨g,0,none⟩)] 113)):=by kernel_rfl
theorem typePC (B:Nat) (w:World):(exType #[rV 113 B 150]).run Tryz.prog w=.ok (rT 113) w:=by kernel_rfl
theorem paPC (B:Nat) (w:World):(ReflectliteValue.parts (rV 113 B 150)).run Tryz.prog w=.ok (some (113,⟨B,0,none⟩,150)) w:=by kernel_rfl
theorem agPC (w:World):(isAgg 113).run Tryz.prog w=.ok false w:=by kernel_rfl
theorem szEC (w:World):(sizeOf 29).run Tryz.prog w=.ok 1 w:=by kernel_rfl
theorem isNilC (B:Nat) (a:Addr) (w:World) (h:w.cell? ⟨B,0,none⟩=some (.pointer (some a))):(exIsNil #[rV 113 B 150]).run Tryz.prog w=.ok (.bool false) w:=by
 simp only [exIsNil,method_eq,Sem.run_bind,paPC,Result.andThen_ok,ReflectliteValue.isNil]
 simp [loadVar_one agPC h]
theorem elEC (w:World):(Rtype.elem? 113).run Tryz.prog w=.ok (some 29) w:=by kernel_rfl
theorem mkEC (g:Nat) (w:World):(ReflectliteValue.mk 29 ⟨g,0,none⟩ 256).run Tryz.prog w=.ok (rV 29 g 386) w:=by kernel_rfl
theorem velemC (B g:Nat) (w:World) (h:w.cell? ⟨B,0,none⟩=some (.pointer (some ⟨g,0,none⟩))):(exVElem #[rV 113 B 150]).run Tryz.prog w=.ok (rV 29 g 386) w:=by
 simp only [exVElem,method_eq,Sem.run_bind,paPC,Result.andThen_ok,ReflectliteValue.elem]
 simp [loadVar_one agPC h,elEC,mkEC,ReflectliteValue.flagAddr]
theorem setrunC (g B:Nat) (w:World):(ReflectliteValue.set #[rV 29 g 386,rV 29 B 130]).run Tryz.prog w=(load ⟨B,0,none⟩ >>= fun val=>storeVar 29 ⟨g,0,none⟩ val >>= fun _=>pure (.tuple #[])).run Tryz.prog w:=by kernel_rfl
theorem kindPF (w:World):(exKind #[hT 115]).run Tryz.prog w=.ok (.int .u8 22) w:=by kernel_rfl
theorem kindEF (w:World):(exKind #[hT 114]).run Tryz.prog w=.ok (.int .u8 22) w:=by kernel_rfl
theorem elemPF (w:World):(exElem #[.agg #[hT 115]]).run Tryz.prog w=.ok (rT 114) w:=by kernel_rfl
theorem implF (w:World):(exImpl #[.agg #[hT 114],rT 26]).run Tryz.prog w=.ok (.bool true) w:=by kernel_rfl
theorem valueOfPF (g:Nat) (w:World):(exValueOf #[.iface 115 (.pointer (some ⟨g,0,none⟩))]).run Tryz.prog w=.ok (rV 115 w.heap.size 150) (w.alloc (.cells #[.pointer (some ⟨g,0,none⟩)] 115)):=by kernel_rfl
theorem typePF (B:Nat) (w:World):(exType #[rV 115 B 150]).run Tryz.prog w=.ok (rT 115) w:=by kernel_rfl
theorem paPF (B:Nat) (w:World):(ReflectliteValue.parts (rV 115 B 150)).run Tryz.prog w=.ok (some (115,⟨B,0,none⟩,150)) w:=by kernel_rfl
theorem agPF (w:World):(isAgg 115).run Tryz.prog w=.ok false w:=by kernel_rfl
theorem szEF (w:World):(sizeOf 114).run Tryz.prog w=.ok 1 w:=by kernel_rfl
theorem isNilF (B:Nat) (a:Addr) (w:World) (h:w.cell? ⟨B,0,none⟩=some (.pointer (some a))):(exIsNil #[rV 115 B 150]).run Tryz.prog w=.ok (.bool false) w:=by
 simp only [exIsNil,method_eq,Sem.run_bind,paPF,Result.andThen_ok,ReflectliteValue.isNil]
 simp [loadVar_one agPF h]
theorem elEF (w:World):(Rtype.elem? 115).run Tryz.prog w=.ok (some 114) w:=by kernel_rfl
theorem mkEF (g:Nat) (w:World):(ReflectliteValue.mk 114 ⟨g,0,none⟩ 256).run Tryz.prog w=.ok (rV 114 g 406) w:=by kernel_rfl
theorem velemF (B g:Nat) (w:World) (h:w.cell? ⟨B,0,none⟩=some (.pointer (some ⟨g,0,none⟩))):(exVElem #[rV 115 B 150]).run Tryz.prog w=.ok (rV 114 g 406) w:=by
 simp only [exVElem,method_eq,Sem.run_bind,paPF,Result.andThen_ok,ReflectliteValue.elem]
 simp [loadVar_one agPF h,elEF,mkEF,ReflectliteValue.flagAddr]
theorem setrunF (g B:Nat) (w:World):(ReflectliteValue.set #[rV 114 g 406,rV 114 B 150]).run Tryz.prog w=(load ⟨B,0,none⟩ >>= fun val=>storeVar 114 ⟨g,0,none⟩ val >>= fun _=>pure (.tuple #[])).run Tryz.prog w:=by kernel_rfl
theorem asgnCC (w:World):(exAsgn #[.agg #[hT 29],rT 29]).run Tryz.prog w=.ok (.bool true) w:=by kernel_rfl
theorem asgnFF (w:World):(exAsgn #[.agg #[hT 114],rT 114]).run Tryz.prog w=.ok (.bool true) w:=by kernel_rfl
theorem asgnCF (w:World):(exAsgn #[.agg #[hT 29],rT 114]).run Tryz.prog w=.ok (.bool false) w:=by kernel_rfl
theorem asgnFC (w:World):(exAsgn #[.agg #[hT 114],rT 29]).run Tryz.prog w=.ok (.bool false) w:=by kernel_rfl
theorem valueOfC (c:Int) (w:World):(exValueOf #[.iface 29 (.int .i64 c)]).run Tryz.prog w=.ok (rV 29 w.heap.size 130) (w.alloc (.cells #[.int .i64 c] 29)):=by kernel_rfl
theorem valueOfF (a:Addr) (w:World):(exValueOf #[.iface 114 (.pointer (some a))]).run Tryz.prog w=.ok (rV 114 w.heap.size 150) (w.alloc (.cells #[.pointer (some a)] 114)):=by kernel_rfl
theorem setC (g B:Nat) (c x:Int) (w:World) (h:w.cell? ⟨B,0,none⟩=some (.int .i64 c)) (hg:w.cell? ⟨g,0,none⟩=some (.int .i64 x)) (hf:w.frozen? ⟨g,0,none⟩=false) :
  (ReflectliteValue.set #[rV 29 g 386,rV 29 B 130]).run Tryz.prog w=.ok (.tuple #[]) (w.setCell ⟨g,0,none⟩ (.int .i64 c)):=by
 rw [setrunC]
 simp [h,storeVar,szEC,Value.cells,storeCells,go_sem,stored,hg,hf]
theorem setF (g B:Nat) (a:Addr) (x:Option Addr) (w:World) (h:w.cell? ⟨B,0,none⟩=some (.pointer (some a))) (hg:w.cell? ⟨g,0,none⟩=some (.pointer x)) (hf:w.frozen? ⟨g,0,none⟩=false) :
  (ReflectliteValue.set #[rV 114 g 406,rV 114 B 150]).run Tryz.prog w=.ok (.tuple #[]) (w.setCell ⟨g,0,none⟩ (.pointer (some a))):=by
 rw [setrunF]
 simp [h,storeVar,szEF,Value.cells,storeCells,go_sem,stored,hg,hf]
/-! ### the entries, called -/
section
variable (args:Array Value) (w:World)
theorem cValueOf:(callFunc 85 args).run Tryz.prog w=((exValueOf args).run Tryz.prog w).andThen fun v w'=>.ok (.value v) w' :=
 run_callFunc_extern Tryz.func85 (by kernel_rfl) (by kernel_rfl) (by kernel_rfl) (by kernel_rfl) args w
theorem cType:(callFunc 86 args).run Tryz.prog w=((exType args).run Tryz.prog w).andThen fun v w'=>.ok (.value v) w' :=
 run_callFunc_extern Tryz.func86 (by kernel_rfl) (by kernel_rfl) (by kernel_rfl) (by kernel_rfl) args w
theorem cIsNil:(callFunc 87 args).run Tryz.prog w=((exIsNil args).run Tryz.prog w).andThen fun v w'=>.ok (.value v) w' :=
 run_callFunc_extern Tryz.func87 (by kernel_rfl) (by kernel_rfl) (by kernel_rfl) (by kernel_rfl) args w
theorem cTypeOf:(callFunc 132 args).run Tryz.prog w=((ReflectliteType.typeOf args).run Tryz.prog w).andThen fun v w'=>.ok (.value v) w' :=
 run_callFunc_extern Tryz.func132 (by kernel_rfl) (by kernel_rfl) (by kernel_rfl) (by kernel_rfl) args w
theorem cVElem:(callFunc 133 args).run Tryz.prog w=((exVElem args).run Tryz.prog w).andThen fun v w'=>.ok (.value v) w' :=
 run_callFunc_extern Tryz.func133 (by kernel_rfl) (by kernel_rfl) (by kernel_rfl) (by kernel_rfl) args w
theorem cSet:(callFunc 134 args).run Tryz.prog w=((ReflectliteValue.set args).run Tryz.prog w).andThen fun v w'=>.ok (.value v) w' :=
 run_callFunc_extern Tryz.func134 (by kernel_rfl) (by kernel_rfl) (by kernel_rfl) (by kernel_rfl) args w
theorem cKind:(callFunc 238 args).run Tryz.prog w=((exKind args).run Tryz.prog w).andThen fun v w'=>.ok (.value v) w' :=
 run_callFunc_extern Tryz.func238 (by kernel_rfl) (by kernel_rfl) (by kernel_rfl) (by kernel_rfl) args w
theorem cElem:(callFunc 260 args).run Tryz.prog w=((exElem args).run Tryz.prog w).andThen fun v w'=>.ok (.value v) w' :=
 run_callFunc_extern Tryz.func260 (by kernel_rfl) (by kernel_rfl) (by kernel_rfl) (by kernel_rfl) args w
theorem cImpl:(callFunc 261 args).run Tryz.prog w=((exImpl args).run Tryz.prog w).andThen fun v w'=>.ok (.value v) w' :=
 run_callFunc_extern Tryz.func261 (by kernel_rfl) (by kernel_rfl) (by kernel_rfl) (by kernel_rfl) args w
theorem cAsgn:(callFunc 258 args).run Tryz.prog w=((exAsgn args).run Tryz.prog w).andThen fun v w'=>.ok (.value v) w' :=
 run_callFunc_extern Tryz.func258 (by kernel_rfl) (by kernel_rfl) (by kernel_rfl) (by kernel_rfl) args w
end
end Go.Proofs.YtmdobcffijnaoaaGreatDoor
/- errors.As finds the code of an error, and its outermost fault. Conditions: errors.errorType holds error's type. -/
namespace Go.Proofs.YtmdobcffijnaoaaGreatDoor
open Go.RowKit Go.Extern Go.Stop Go.Extern.Stop
set_option linter.unusedVariables false
set_option linter.unusedSimpArgs false
theorem unwrap_any (b:Nat) (v:Value) (w:World) (h:w.cell? ⟨b,2,none⟩=some v) :
  Calls Tryz.prog 243 #[.pointer (some ⟨b,0,none⟩)] w fun e w'=>e=.returned v∧w=w':=by
 go_enter Tryz.func243,Tryz.ntmps243
 go_wp2
 go_ret
 exact ⟨rfl,rfl⟩
theorem as_code {lo hi g B:Nat} {x c:Int} {v:Value} {p:List (ByteArray×Int)} {w:World} (h:FaultAt lo hi w p c v) (hg:w.heap[g]?=some (.cells #[.int .i64 x] 29 (0,0))) (hB:w.cell? ⟨B,0,none⟩=some (.pointer (some ⟨g,0,none⟩))) :
  Calls Tryz.prog 88 #[v,.iface 113 (.pointer (some ⟨g,0,none⟩)),rV 113 B 150,rT 29] w fun e w'=>e=.returned (.bool true)∧Only [g] w w'∧w'.heap[g]?=some (.cells #[.int .i64 c] 29 (0,0)):=by
 have e1:=cTypeOf
 have e2:=cAsgn
 have e3:=cVElem
 have e4:=cValueOf
 have e5:=cSet
 have m1:=mAsgn
 have m2:=mUnwrap
 have t1:=typeOfC
 have t2:=typeOfF
 have a1:=asgnCC
 have a2:=asgnFC
 have v1:=valueOfC
 have n1:=noAsF
 have n2:=uwF
 have Hh:=lh h
 have Hg:=lh hg
 have HB:=lh hB
 clear h hg hB
 go_enter Tryz.func88,Tryz.ntmps88
 go_wp2
 go_loopg [0] p.length (fun n u wr=>∃ p',p'.length=n∧FaultAt lo hi wr p' c u∧Only [] w wr∧wr.heap[w.heap.size]?=some (.cells #[hT 113,.pointer (some ⟨B,0,none⟩),.int .u64 150] 181 (0,0)))
 case atStart=>exact ⟨p,rfl,Hh.out.only (Only.new _ _) (by simp),Only.new _ _,heap_alloc_new _ _⟩
 case round =>
  obtain ⟨p',hlen,hf,hq,hbox⟩:=hrel
  have b0:wr.cell? ⟨w.heap.size,0,none⟩=some (hT 113):=by rw [cell_of_row _ _ _ _ _ _ hbox];rfl
  have b1:wr.cell? ⟨w.heap.size,1,none⟩=some (.pointer (some ⟨B,0,none⟩)):=by rw [cell_of_row _ _ _ _ _ _ hbox];rfl
  have b2:wr.cell? ⟨w.heap.size,2,none⟩=some (.int .u64 150):=by rw [cell_of_row _ _ _ _ _ _ hbox];rfl
  have Hlen:=lh hlen
  have Hbox:=lh hbox
  clear hlen hbox
  rcases p' with _ | ⟨⟨s,n⟩,p'⟩
  ·have hv:u0=.iface 29 (.int .i64 c):=hf
   subst hv
   clear hf
   have c1:=velemC B g wr (hq.cell HB.out (by simp))
   have hgl:g<w.heap.size:=(Array.getElem?_eq_some_iff.1 Hg.out).1
   have hg1:wr.heap[g]?=some (.cells #[.int .i64 x] 29 (0,0)):=(hq.block g hgl (by simp)).trans Hg.out
   have hg2:(wr.alloc (.cells #[.int .i64 c] 29)).heap[g]?=some (.cells #[.int .i64 x] 29 (0,0)):=(Below.heap_alloc _ _ _ (by have:=hq.size;omega)).trans hg1
   have c2:=setC g wr.heap.size c x (wr.alloc (.cells #[.int .i64 c] 29)) (by simp) (by rw [cell_of_row _ _ _ _ _ _ hg2];rfl) (frozen_of_row _ _ _ _ _ hg2)
   have h3:=heap_setCell_same (wr.alloc (.cells #[.int .i64 c] 29)) g 0 _ _ (.int .i64 c) hg2
   have H3:=lh h3
   clear hg1 hg2 h3
   go_wp2
   go_ret
   exact ⟨rfl,(((hq.q (Only.new _ _)).mono (by simp)).setCell (S:=[g]) (by simp) _),H3.out⟩
  ·obtain ⟨b,v',rfl,hb1,hb2,hb3,hf'⟩:=hf
   obtain ⟨vt,vu,rfl⟩:=ErrV.held (e:=⟨p',c⟩) hf'
   have k2:wr.cell? ⟨b,2,none⟩=some (.iface vt vu):=by rw [cell_of_row _ _ _ _ _ _ hb3];rfl
   have Hf:=lh hf'
   clear hf' hb3
   go_wp2_with (go_at_call 243;refine (unwrap_any _ _ _ k2).mono ?_;rintro e w' ⟨rfl,rfl⟩)
   go_roundg p'.length
   case measure=>have:=Hlen.out;simp at this;omega
   case rel=>exact ⟨p',rfl,Hf.out,hq,Hbox.out⟩
theorem as_fault {g B b:Nat} {x:Option Addr} {w:World} (hg:w.heap[g]?=some (.cells #[.pointer x] 114 (0,0))) (hB:w.cell? ⟨B,0,none⟩=some (.pointer (some ⟨g,0,none⟩))) :
  Calls Tryz.prog 88 #[.iface 114 (.pointer (some ⟨b,0,none⟩)),.iface 115 (.pointer (some ⟨g,0,none⟩)),rV 115 B 150,rT 114] w fun e w'=>e=.returned (.bool true)∧Only [g] w w'∧w'.heap[g]?=some (.cells #[.pointer (some ⟨b,0,none⟩)] 114 (0,0)):=by
 have e1:=cTypeOf
 have e2:=cAsgn
 have e3:=cVElem
 have e4:=cValueOf
 have e5:=cSet
 have m1:=mAsgn
 have t2:=typeOfF
 have a1:=asgnFF
 have v1:=valueOfF
 have hgl:g<w.heap.size:=(Array.getElem?_eq_some_iff.1 hg).1
 have hBl:=block_lt_of_cell hB
 have c1:=fun o=>velemF B g (w.alloc o) ((Only.new _ _).cell hB (by simp))
 have hg2:∀ o o',((w.alloc o).alloc o').heap[g]?=some (.cells #[.pointer x] 114 (0,0)):=fun o o'=>(Below.heap_alloc _ _ _ (by simp;omega)).trans ((Below.heap_alloc _ _ _ hgl).trans hg)
 have c2:=fun o=>setF g (w.heap.size+1) ⟨b,0,none⟩ x ((w.alloc o).alloc (.cells #[.pointer (some ⟨b,0,none⟩)] 114)) (by rw [cell_of_row _ _ _ _ _ _ (heap_alloc_new' (by simp))];rfl) (by rw [cell_of_row _ _ _ _ _ _ (hg2 _ _)];rfl) (frozen_of_row _ _ _ _ _ (hg2 _ _))
 have h3:∀ o o',(((w.setCell ⟨g,0,none⟩ (.pointer (some ⟨b,0,none⟩))).alloc o).alloc o').heap[g]?=some (.cells #[.pointer (some ⟨b,0,none⟩)] 114 (0,0)):=fun o o' =>
  (Below.heap_alloc _ _ _ (by simp;omega)).trans ((Below.heap_alloc _ _ _ (by simpa using hgl)).trans (heap_setCell_same w g 0 _ _ (.pointer (some ⟨b,0,none⟩)) hg))
 have H3:=lh h3
 clear h3 hg2 hg
 go_enter Tryz.func88,Tryz.ntmps88
 go_wp2
 refine wp_loop_rounds 1 ?_
 rw [rounds_succ]
 go_wp2
 go_ret
 exact ⟨rfl,(((Only.refl [g] w).setCell (by simp) _).alloc _).alloc _,H3.out _ _⟩
theorem as_faultNo {g B:Nat} {c:Int} {w:World} :
  Calls Tryz.prog 88 #[.iface 29 (.int .i64 c),.iface 115 (.pointer (some ⟨g,0,none⟩)),rV 115 B 150,rT 114] w fun e w'=>e=.returned (.bool false)∧Only [] w w':=by
 have e1:=cTypeOf
 have e2:=cAsgn
 have e3:=cVElem
 have e4:=cValueOf
 have e5:=cSet
 have m1:=mAsgn
 have t1:=typeOfC
 have a1:=asgnCF
 have n1:=noAsC
 have n2:=noUwC
 have n3:=noUwsC
 go_enter Tryz.func88,Tryz.ntmps88
 go_wp2
 refine wp_loop_rounds 1 ?_
 rw [rounds_succ]
 go_wp2
 go_ret
 exact ⟨rfl,Only.new _ _⟩
/-- The package variable errors.errorType holds the type of error. -/
def ErrT (w:World):Prop:=w.cell? ⟨0,0,none⟩=some (rT 26)
theorem ErrT.quiet {w w':World} (h:ErrT w) (o:Only [] w w'):ErrT w':=o.cell h (by simp)
theorem asNil_any (u:Value) (w:World):Calls Tryz.prog 44 #[.nilIface,u] w fun e w'=>e=.returned (.bool false)∧w=w':=by
 go_enter Tryz.func44,Tryz.ntmps44
 go_wp2
 go_ret
 exact ⟨rfl,rfl⟩
theorem qAs0 {p:Prop} (h:p:=by
 go_enter Tryz.func44,Tryz.ntmps44
 go_wp2_with (go_at_call 88;(refine (H.out _).mono ?_);rintro e w3 ⟨rfl,hr⟩)
 go_ret
 exact ⟨rfl,(HQ.out _ _).trans hr.1 (by simp) (by simp),hr.2⟩):p:=h
theorem As_code {lo hi g:Nat} {x c:Int} {v:Value} {e:Err} {w:World} (h:ErrV lo hi w v e) (hg:w.heap[g]?=some (.cells #[.int .i64 x] 29 (0,0))) (hE:ErrT w) :
  Calls Tryz.prog 44 #[v,.iface 113 (.pointer (some ⟨g,0,none⟩))] w fun r w'=>r=.returned (.bool true)∧Only [g] w w'∧w'.heap[g]?=some (.cells #[.int .i64 e.code] 29 (0,0)):=by
 have e1:=cType
 have e2:=cValueOf
 have e3:=cKind
 have e4:=cIsNil
 have e5:=cElem
 have e6:=cImpl
 have m1:=mKind
 have m2:=mElem
 have m3:=mImpl
 have f1:=valueOfPC
 have f2:=typePC
 have f3:=kindPC
 have f4:=kindEC
 have f5:=elemPC
 have f6:=implC
 have hq:∀ o o',Only [] w ((w.alloc o).alloc o'):=fun o o'=>(Only.new _ _).q (Only.new _ _)
 have f7:=fun o=>isNilC w.heap.size ⟨g,0,none⟩ ((w.alloc (.cells #[.pointer (some ⟨g,0,none⟩)] 113)).alloc o) ((Only.new _ _).cell (by rw [cell_of_row _ _ _ _ _ _ (heap_alloc_new _ _)];rfl) (by simp))
 have f8:∀ o o',((w.alloc o).alloc o').cell? ⟨0,0,none⟩=some (rT 26):=fun o o'=>hE.quiet (hq o o')
 obtain ⟨vt,vu,rfl⟩:=h.held
 have hgl:g<w.heap.size:=(Array.getElem?_eq_some_iff.1 hg).1
 have H:=lh (fun o=>as_code (B:=w.heap.size) (h.quiet (hq (.cells #[.pointer (some ⟨g,0,none⟩)] 113) o)) ((Below.heap_alloc _ _ _ (by simp;omega)).trans ((Below.heap_alloc _ _ _ hgl).trans hg)) ((Only.new _ _).cell (by rw [cell_of_row _ _ _ _ _ _ (heap_alloc_new _ _)];rfl) (by simp)))
 have HQ:=lh hq
 clear hg h hE hq
 exact qAs0
theorem As_fault {lo hi g b:Nat} {x:Option Addr} {w:World} (hg:w.heap[g]?=some (.cells #[.pointer x] 114 (0,0))) (hE:ErrT w) :
  Calls Tryz.prog 44 #[.iface 114 (.pointer (some ⟨b,0,none⟩)),.iface 115 (.pointer (some ⟨g,0,none⟩))] w fun e w'=>e=.returned (.bool true)∧Only [g] w w'∧w'.heap[g]?=some (.cells #[.pointer (some ⟨b,0,none⟩)] 114 (0,0)):=by
 have e1:=cType
 have e2:=cValueOf
 have e3:=cKind
 have e4:=cIsNil
 have e5:=cElem
 have e6:=cImpl
 have m1:=mKind
 have m2:=mElem
 have m3:=mImpl
 have f1:=valueOfPF
 have f2:=typePF
 have f3:=kindPF
 have f4:=kindEF
 have f5:=elemPF
 have f6:=implF
 have hq:∀ o o',Only [] w ((w.alloc o).alloc o'):=fun o o'=>(Only.new _ _).q (Only.new _ _)
 have f7:=fun o=>isNilF w.heap.size ⟨g,0,none⟩ ((w.alloc (.cells #[.pointer (some ⟨g,0,none⟩)] 115)).alloc o) ((Only.new _ _).cell (by rw [cell_of_row _ _ _ _ _ _ (heap_alloc_new _ _)];rfl) (by simp))
 have f8:∀ o o',((w.alloc o).alloc o').cell? ⟨0,0,none⟩=some (rT 26):=fun o o'=>hE.quiet (hq o o')
 have hgl:g<w.heap.size:=(Array.getElem?_eq_some_iff.1 hg).1
 have H:=lh (fun o=>as_fault (B:=w.heap.size) (b:=b) (w:=(w.alloc (.cells #[.pointer (some ⟨g,0,none⟩)] 115)).alloc o) ((Below.heap_alloc _ _ _ (by simp;omega)).trans ((Below.heap_alloc _ _ _ hgl).trans hg)) ((Only.new _ _).cell (by rw [cell_of_row _ _ _ _ _ _ (heap_alloc_new _ _)];rfl) (by simp)))
 have HQ:=lh hq
 clear hg hE hq
 exact qAs0
theorem As_faultNo {g:Nat} {c:Int} {w:World} (hE:ErrT w) :
  Calls Tryz.prog 44 #[.iface 29 (.int .i64 c),.iface 115 (.pointer (some ⟨g,0,none⟩))] w fun e w'=>e=.returned (.bool false)∧Only [] w w':=by
 have e1:=cType
 have e2:=cValueOf
 have e3:=cKind
 have e4:=cIsNil
 have e5:=cElem
 have e6:=cImpl
 have m1:=mKind
 have m2:=mElem
 have m3:=mImpl
 have f1:=valueOfPF
 have f2:=typePF
 have f3:=kindPF
 have f4:=kindEF
 have f5:=elemPF
 have f6:=implF
 have hq:∀ o o',Only [] w ((w.alloc o).alloc o'):=fun o o'=>(Only.new _ _).q (Only.new _ _)
 have f7:=fun o=>isNilF w.heap.size ⟨g,0,none⟩ ((w.alloc (.cells #[.pointer (some ⟨g,0,none⟩)] 115)).alloc o) ((Only.new _ _).cell (by rw [cell_of_row _ _ _ _ _ _ (heap_alloc_new _ _)];rfl) (by simp))
 have f8:∀ o o',((w.alloc o).alloc o').cell? ⟨0,0,none⟩=some (rT 26):=fun o o'=>hE.quiet (hq o o')
 have H:=lh (fun o=>as_faultNo (B:=w.heap.size) (g:=g) (c:=c) (w:=(w.alloc (.cells #[.pointer (some ⟨g,0,none⟩)] 115)).alloc o))
 have HQ:=lh hq
 clear hE hq
 go_enter Tryz.func44,Tryz.ntmps44
 go_wp2_with (go_at_call 88;(refine (H.out _).mono ?_);rintro e w3 ⟨rfl,hr⟩)
 go_ret
 exact ⟨rfl,(HQ.out _ _).q hr⟩
end Go.Proofs.YtmdobcffijnaoaaGreatDoor
namespace Go.Proofs.YtmdobcffijnaoaaGreatDoor
open Go.RowKit
set_option linter.unusedVariables false
set_option linter.unusedSimpArgs false
/-- an error or none -/
def OErrV (lo hi:Nat) (w:World) (v:Value):Option Err→Prop
 | none=>v=.nilIface
 | some e=>ErrV lo hi w v e
def codeOf:Option Err→Int
 | none=>0
 | some e=>e.code
def pathOf:Option Err→List (ByteArray×Int)
 | none=>[]
 | some e=>e.path
theorem OErrV.only {lo hi:Nat} {w w':World} {S:List Nat} {v:Value}:∀ {o:Option Err},OErrV lo hi w v o→Only S w w'→(∀ g∈S,g<lo∨hi≤g)→OErrV lo hi w' v o
 | none,h,_,_=>h
 | some _,h,k,hS=>ErrV.only h k hS
theorem OErrV.quiet {lo hi:Nat} {w w':World} {v:Value} {o:Option Err} (h:OErrV lo hi w v o) (k:Only [] w w'):OErrV lo hi w' v o:=h.only k (by simp)
theorem of_any {lo hi:Nat} {v:Value} {o:Option Err} {w:World} (h:OErrV lo hi w v o) (hE:ErrT w) :
  Calls Tryz.prog 23 #[v] w fun r w'=>r=.returned (.int .i64 (codeOf o))∧Only [] w w':=by
 cases o with
 | none =>
  have hv:v=.nilIface:=h
  subst hv
  go_enter Tryz.func23,Tryz.ntmps23
  go_wp2
  go_ret
  exact ⟨rfl,Only.refl _ _⟩
 | some e =>
  have h':ErrV lo hi w v e:=h
  obtain ⟨vt,vu,rfl⟩:=h'.held
  have H:=lh (As_code (g:=w.heap.size) (x:=0) (c:=0) (h'.quiet (Only.new w (.cells #[.int .i64 0] 29))) (heap_alloc_new _ _) (hE.quiet (Only.new _ _)))
  clear h h' hE
  go_enter Tryz.func23,Tryz.ntmps23
  go_wp2_with (go_at_call 44;(refine H.out.mono ?_);rintro r w3 ⟨rfl,ho,hg⟩;have k0:w3.cell? ⟨w.heap.size,0,none⟩=some (.int .i64 e.code):=(by rw [cell_of_row _ _ _ _ _ _ hg];rfl))
  go_ret
  exact ⟨rfl,(Only.new _ _).trans ho (by simp) (by simp)⟩
/-! ### places -/
def flat (p:List (ByteArray×Int)):List Value:=p.flatMap fun x=>[.string x.1,.int .i64 x.2]
theorem flat_append (p q:List (ByteArray×Int)):flat (p ++ q)=flat p ++ flat q:=by simp [flat]
theorem flat_at:∀ (p:List (ByteArray×Int)) (i:Nat),i<p.length→(flat p)[i*2]?=some (.string (p.getD i default).1)∧(flat p)[i*2+1]?=some (.int .i64 (p.getD i default).2)
 | [],_,h=>absurd h (by simp)
 | x :: p,0,_=>⟨rfl,rfl⟩
 | x :: p,i+1,h=>by
  have:=flat_at p i (by simpa using h)
  have e:flat (x :: p)=.string x.1 :: .int .i64 x.2 :: flat p:=rfl
  rw [e,show (i+1)*2=i*2+2 by omega]
  simpa using this
theorem ES:Elem Tryz.prog 72 75 (.agg #[.string .empty,.int .i64 0]) 2 24:=Elem.mk' Tryz.underlying72 (by kernel_rfl) rfl (by omega) (by omega)
theorem EK:Elem Tryz.prog 30 76 (.agg #[.string .empty,.int .i64 0]) 2 24:=Elem.mk' Tryz.underlying30 (by kernel_rfl) rfl (by omega) (by omega)
end Go.Proofs.YtmdobcffijnaoaaGreatDoor
