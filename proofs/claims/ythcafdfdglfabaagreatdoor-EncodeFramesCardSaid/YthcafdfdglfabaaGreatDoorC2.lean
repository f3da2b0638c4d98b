/- Joined texts: AsFacts, As, Of. Conditions: each part names its own. -/
import Derived.Test.YthcafdfdglfabaaGreatDoorC1
import Derived.Stop.Asserts
import Derived.Deep.LoopGhost
set_option maxRecDepth 100000
set_option maxHeartbeats 16000000
namespace Go.Proofs.YthcafdfdglfabaaGreatDoor
open Go.RowKit Go.Extern Go.Stop Go.Extern.Stop
set_option linter.unusedVariables false
set_option linter.unusedSimpArgs false
abbrev hT (t:Nat):Value:=.pointer (some ⟨1,t,none⟩)
abbrev rT (t:Nat):Value:=.iface 283 (.agg #[hT t])
abbrev rV (t B:Nat) (fl:Int):Value:=.agg #[hT t,.pointer (some ⟨B,0,none⟩),.int .u64 fl]
theorem lO (z:Sem Value) (f:TypeId->Addr->Nat->Nat->Sem Value) (v:Value):ReflectliteValue.method z f #[v]=(ReflectliteValue.parts v >>= fun x=>match x with | none=>z | some (t,a,fl)=>f t a fl (fl % 32)):=rfl
theorem jd {t:Nat} (ht:∀ w,(isAgg t).run Tryz.prog w=.ok false w) {a:Addr} {v:Value} {w:World} (h:w.cell? a=some v):(loadVar t a).run Tryz.prog w=.ok v w:=by
 simp only [loadVar,Sem.run_bind,ht,Result.andThen_ok];simp [h]
theorem FX (t:Nat) (w:World):(Go.method 447 283 (.agg #[hT t]) "Kind").run Tryz.prog w=.ok (249,hT t) w:=Mh
theorem FU (t:Nat) (w:World):(Go.method 447 283 (.agg #[hT t]) "Elem").run Tryz.prog w=.ok (279,.agg #[hT t]) w:=Mh
theorem FW (t:Nat) (w:World):(Go.method 447 283 (.agg #[hT t]) "Implements").run Tryz.prog w=.ok (280,.agg #[hT t]) w:=Mh
theorem FR (t:Nat) (w:World):(Go.method 447 283 (.agg #[hT t]) "AssignableTo").run Tryz.prog w=.ok (277,.agg #[hT t]) w:=Mh
theorem Jk (v:Value) (w:World):(Go.method 447 188 v "Unwrap").run Tryz.prog w=.ok (265,v) w:=Mh
theorem KH (v:Value) (xT:TypeId) (w:World):(Instr.typeAssert (.iface 36 v) xT 288 true).run Tryz.prog w=.ok (.tuple #[.nilIface,.bool false]) w:=run_typeAssert_lacksB Tryz.underlying288 Mh Mh v xT w
theorem KI (v:Value) (xT:TypeId) (w:World):(Instr.typeAssert (.iface 188 v) xT 288 true).run Tryz.prog w=.ok (.tuple #[.nilIface,.bool false]) w:=run_typeAssert_lacksB Tryz.underlying288 Mh Mh v xT w
theorem KJ (v:Value) (xT:TypeId) (w:World):(Instr.typeAssert (.iface 36 v) xT 291 true).run Tryz.prog w=.ok (.tuple #[.nilIface,.bool false]) w:=run_typeAssert_lacksB Tryz.underlying291 Mh Mh v xT w
theorem uwF (v:Value) (xT:TypeId) (w:World):(Instr.typeAssert (.iface 188 v) xT 291 true).run Tryz.prog w=.ok (.tuple #[.iface 188 v,.bool true]) w:=run_typeAssert_hasB Tryz.underlying291 Mh v xT w
theorem Kj (v:Value) (xT:TypeId) (w:World):(Instr.typeAssert (.iface 36 v) xT 293 true).run Tryz.prog w=.ok (.tuple #[.nilIface,.bool false]) w:=run_typeAssert_lacksB Tryz.underlying293 Mh Mh v xT w
theorem CG (v:Value) (w:World):(ReflectliteType.typeOf #[.iface 36 v]).run Tryz.prog w=.ok (rT 36) w:=Mh
theorem CI (v:Value) (w:World):(ReflectliteType.typeOf #[.iface 188 v]).run Tryz.prog w=.ok (rT 188) w:=Mh
def qR:=ReflectliteType.abiMethod fun t=>do pure (.int .u8 (<- Rtype.kind t))
def zA:=ReflectliteType.method ReflectliteType.elem
def zB:=ReflectliteType.relation "Implements" ReflectliteType.implements_
def qQ:=ReflectliteType.relation "AssignableTo" ReflectliteType.assignableTo
def jB:=fun args:Array Value=>ReflectliteValue.unpack (args.getD 0 (.tuple #[]))
def zC:=ReflectliteValue.methodAny (ReflectliteValue.valueError "reflectlite.Value.Type" 0) fun t _ _ _=>ReflectliteType.toType t
def nK:=ReflectliteValue.method (ReflectliteValue.valueError "reflectlite.Value.IsNil" 0) ReflectliteValue.isNil
def nL:=ReflectliteValue.method (ReflectliteValue.valueError "reflectlite.Value.Elem" 0) ReflectliteValue.elem
theorem Kc (w:World):(qR #[hT 187]).run Tryz.prog w=.ok (.int .u8 22) w:=Mh
theorem Kb (w:World):(qR #[hT 36]).run Tryz.prog w=.ok (.int .u8 2) w:=Mh
theorem JY (w:World):(zA #[.agg #[hT 187]]).run Tryz.prog w=.ok (rT 36) w:=Mh
theorem KE (w:World):(zB #[.agg #[hT 36],rT 33]).run Tryz.prog w=.ok (.bool true) w:=Mh
theorem Ei (g:Nat) (w:World):(jB #[.iface 187 (.pointer (some ⟨g,0,none⟩))]).run Tryz.prog w=.ok (rV 187 w.heap.size 150) (w.alloc (.cells #[.pointer (some ⟨g,0,none⟩)] 187)):=Mh
theorem Kt (B:Nat) (w:World):(zC #[rV 187 B 150]).run Tryz.prog w=.ok (rT 187) w:=Mh
theorem KO (B:Nat) (w:World):(ReflectliteValue.parts (rV 187 B 150)).run Tryz.prog w=.ok (some (187,⟨B,0,none⟩,150)) w:=Mh
theorem Kz (w:World):(isAgg 187).run Tryz.prog w=.ok false w:=Mh
theorem Lc (w:World):(sizeOf 36).run Tryz.prog w=.ok 1 w:=Mh
theorem Ka (B:Nat) (a:Addr) (w:World) (h:w.cell? ⟨B,0,none⟩=some (.pointer (some a))):(nK #[rV 187 B 150]).run Tryz.prog w=.ok (.bool false) w:=by
 simp only [nK,lO,Sem.run_bind,KO,Result.andThen_ok,ReflectliteValue.isNil];simp [jd Kz h]
theorem KV (w:World):(Rtype.elem? 187).run Tryz.prog w=.ok (some 36) w:=Mh
theorem KX (g:Nat) (w:World):(ReflectliteValue.mk 36 ⟨g,0,none⟩ 256).run Tryz.prog w=.ok (rV 36 g 386) w:=Mh
theorem Ku (B g:Nat) (w:World) (h:w.cell? ⟨B,0,none⟩=some (.pointer (some ⟨g,0,none⟩))):(nL #[rV 187 B 150]).run Tryz.prog w=.ok (rV 36 g 386) w:=by
 simp only [nL,lO,Sem.run_bind,KO,Result.andThen_ok,ReflectliteValue.elem];simp [jd Kz h,KV,KX,ReflectliteValue.flagAddr]
theorem JA (g B:Nat) (w:World):(ReflectliteValue.set #[rV 36 g 386,rV 36 B 130]).run Tryz.prog w=(load ⟨B,0,none⟩ >>= fun val=>storeVar 36 ⟨g,0,none⟩ val >>= fun _=>pure (.tuple #[])).run Tryz.prog w:=Mh
theorem FD (w:World):(qR #[hT 189]).run Tryz.prog w=.ok (.int .u8 22) w:=Mh
theorem FB (w:World):(qR #[hT 188]).run Tryz.prog w=.ok (.int .u8 22) w:=Mh
theorem EF (w:World):(zA #[.agg #[hT 189]]).run Tryz.prog w=.ok (rT 188) w:=Mh
theorem JK (w:World):(zB #[.agg #[hT 188],rT 33]).run Tryz.prog w=.ok (.bool true) w:=Mh
theorem uD (g:Nat) (w:World):(jB #[.iface 189 (.pointer (some ⟨g,0,none⟩))]).run Tryz.prog w=.ok (rV 189 w.heap.size 150) (w.alloc (.cells #[.pointer (some ⟨g,0,none⟩)] 189)):=Mh
theorem IE (B:Nat) (w:World):(zC #[rV 189 B 150]).run Tryz.prog w=.ok (rT 189) w:=Mh
theorem KR (B:Nat) (w:World):(ReflectliteValue.parts (rV 189 B 150)).run Tryz.prog w=.ok (some (189,⟨B,0,none⟩,150)) w:=Mh
theorem KA (w:World):(isAgg 189).run Tryz.prog w=.ok false w:=Mh
theorem Ld (w:World):(sizeOf 188).run Tryz.prog w=.ok 1 w:=Mh
theorem Fs (B:Nat) (a:Addr) (w:World) (h:w.cell? ⟨B,0,none⟩=some (.pointer (some a))):(nK #[rV 189 B 150]).run Tryz.prog w=.ok (.bool false) w:=by
 simp only [nK,lO,Sem.run_bind,KR,Result.andThen_ok,ReflectliteValue.isNil];simp [jd KA h]
theorem KW (w:World):(Rtype.elem? 189).run Tryz.prog w=.ok (some 188) w:=Mh
theorem KY (g:Nat) (w:World):(ReflectliteValue.mk 188 ⟨g,0,none⟩ 256).run Tryz.prog w=.ok (rV 188 g 406) w:=Mh
theorem Kv (B g:Nat) (w:World) (h:w.cell? ⟨B,0,none⟩=some (.pointer (some ⟨g,0,none⟩))):(nL #[rV 189 B 150]).run Tryz.prog w=.ok (rV 188 g 406) w:=by
 simp only [nL,lO,Sem.run_bind,KR,Result.andThen_ok,ReflectliteValue.elem];simp [jd KA h,KW,KY,ReflectliteValue.flagAddr]
theorem JB (g B:Nat) (w:World):(ReflectliteValue.set #[rV 188 g 406,rV 188 B 150]).run Tryz.prog w=(load ⟨B,0,none⟩ >>= fun val=>storeVar 188 ⟨g,0,none⟩ val >>= fun _=>pure (.tuple #[])).run Tryz.prog w:=Mh
theorem JR (w:World):(qQ #[.agg #[hT 36],rT 36]).run Tryz.prog w=.ok (.bool true) w:=Mh
theorem JU (w:World):(qQ #[.agg #[hT 188],rT 188]).run Tryz.prog w=.ok (.bool true) w:=Mh
theorem JS (w:World):(qQ #[.agg #[hT 36],rT 188]).run Tryz.prog w=.ok (.bool false) w:=Mh
theorem JT (w:World):(qQ #[.agg #[hT 188],rT 36]).run Tryz.prog w=.ok (.bool false) w:=Mh
theorem IH (c:Int) (w:World):(jB #[.iface 36 (.int .i64 c)]).run Tryz.prog w=.ok (rV 36 w.heap.size 130) (w.alloc (.cells #[c] 36)):=Mh
theorem II (a:Addr) (w:World):(jB #[.iface 188 (.pointer (some a))]).run Tryz.prog w=.ok (rV 188 w.heap.size 150) (w.alloc (.cells #[.pointer (some a)] 188)):=Mh
theorem La (g B:Nat) (c x:Int) (w:World) (h:w.cell? ⟨B,0,none⟩=some (.int .i64 c)) (hg:w.cell? ⟨g,0,none⟩=some (.int .i64 x)) (hf:w.frozen? ⟨g,0,none⟩=false) :
  (ReflectliteValue.set #[rV 36 g 386,rV 36 B 130]).run Tryz.prog w=.ok (.tuple #[]) (w.setCell ⟨g,0,none⟩ (.int .i64 c)):=by
 rw [JA];simp [h,storeVar,Lc,Value.cells,storeCells,go_sem,stored,hg,hf]
theorem Lb (g B:Nat) (a:Addr) (x:Option Addr) (w:World) (h:w.cell? ⟨B,0,none⟩=some (.pointer (some a))) (hg:w.cell? ⟨g,0,none⟩=some (.pointer x)) (hf:w.frozen? ⟨g,0,none⟩=false) :
  (ReflectliteValue.set #[rV 188 g 406,rV 188 B 150]).run Tryz.prog w=.ok (.tuple #[]) (w.setCell ⟨g,0,none⟩ (.pointer (some a))):=by
 rw [JB];simp [h,storeVar,Ld,Value.cells,storeCells,go_sem,stored,hg,hf]
section
variable (args:Array Value) (w:World)
theorem jx:(callFunc 171 args).run Tryz.prog w=((jB args).run Tryz.prog w).andThen fun v w'=>.ok (.value v) w' :=
 run_callFunc_extern Tryz.func171 Mh Mh Mh Mh args w
theorem EB:(callFunc 172 args).run Tryz.prog w=((zC args).run Tryz.prog w).andThen fun v w'=>.ok (.value v) w' :=
 run_callFunc_extern Tryz.func172 Mh Mh Mh Mh args w
theorem zb:(callFunc 173 args).run Tryz.prog w=((nK args).run Tryz.prog w).andThen fun v w'=>.ok (.value v) w' :=
 run_callFunc_extern Tryz.func173 Mh Mh Mh Mh args w
theorem uP:(callFunc 216 args).run Tryz.prog w=((ReflectliteType.typeOf args).run Tryz.prog w).andThen fun v w'=>.ok (.value v) w' :=
 run_callFunc_extern Tryz.func216 Mh Mh Mh Mh args w
theorem ze:(callFunc 217 args).run Tryz.prog w=((nL args).run Tryz.prog w).andThen fun v w'=>.ok (.value v) w' :=
 run_callFunc_extern Tryz.func217 Mh Mh Mh Mh args w
theorem JX:(callFunc 218 args).run Tryz.prog w=((ReflectliteValue.set args).run Tryz.prog w).andThen fun v w'=>.ok (.value v) w' :=
 run_callFunc_extern Tryz.func218 Mh Mh Mh Mh args w
theorem EA:(callFunc 249 args).run Tryz.prog w=((qR args).run Tryz.prog w).andThen fun v w'=>.ok (.value v) w' :=
 run_callFunc_extern Tryz.func249 Mh Mh Mh Mh args w
theorem Ey:(callFunc 279 args).run Tryz.prog w=((zA args).run Tryz.prog w).andThen fun v w'=>.ok (.value v) w' :=
 run_callFunc_extern Tryz.func279 Mh Mh Mh Mh args w
theorem Ez:(callFunc 280 args).run Tryz.prog w=((zB args).run Tryz.prog w).andThen fun v w'=>.ok (.value v) w' :=
 run_callFunc_extern Tryz.func280 Mh Mh Mh Mh args w
theorem Ex:(callFunc 277 args).run Tryz.prog w=((qQ args).run Tryz.prog w).andThen fun v w'=>.ok (.value v) w' :=
 run_callFunc_extern Tryz.func277 Mh Mh Mh Mh args w
end
set_option linter.unusedVariables false
set_option linter.unusedSimpArgs false
theorem AU (b:Nat) (v:Value) (w:World) (h:w.cell? ⟨b,2,none⟩=some v) :
  Calls Tryz.prog 265 #[.pointer (some ⟨b,0,none⟩)] w fun e w'=>e=.returned v/\w=w':=by
 go_enter Tryz.func265,Tryz.ntmps265;go_wp2;go_ret;exact ⟨rfl,rfl⟩
theorem IW {lo hi g B:Nat} {x c:Int} {v:Value} {p:List (ByteArray×Int)} {w:World} (h:dB lo hi w p c v) (hg:w.heap[g]?=some (.cells #[x] 36 (0,0))) (hB:w.cell? ⟨B,0,none⟩=some (.pointer (some ⟨g,0,none⟩))) :
  Calls Tryz.prog 174 #[v,.iface 187 (.pointer (some ⟨g,0,none⟩)),rV 187 B 150,rT 36] w fun e w'=>e=.returned (.bool true)/\ae [g] w w'/\w'.heap[g]?=some (.cells #[c] 36 (0,0)):=by
 have e1:=uP;have e2:=Ex;have e3:=ze;have e4:=jx;have e5:=JX;have m1:=FR;have m2:=Jk;have t1:=CG;have t2:=CI;have a1:=JR;have a2:=JT;have v1:=IH;have n1:=KI;have n2:=uwF;have Hh:=lh h;have Hg:=lh hg;have HB:=lh hB;clear h hg hB;go_enter Tryz.func174,Tryz.ntmps174;go_wp2
 go_loopg [0] p.length (fun n u wr=>∃ p',p'.length=n/\dB lo hi wr p' c u/\ae [] w wr/\wr.heap[w.heap.size]?=some (.cells #[hT 187,.pointer (some ⟨B,0,none⟩),.int .u64 150] 247 (0,0)))
 case atStart=>exact ⟨p,rfl,Hh.only (ae.new _ _) Mg,ae.new _ _,heap_alloc_new _ _⟩
 case round =>
  obtain ⟨p',MR,hf,hq,JdF⟩:=hrel;have b0:wr.cell? ⟨w.heap.size,0,none⟩=some (hT 187):=by rw [cell_of_row _ _ _ _ _ _ JdF];rfl
  have b1:wr.cell? ⟨w.heap.size,1,none⟩=some (.pointer (some ⟨B,0,none⟩)):=by rw [cell_of_row _ _ _ _ _ _ JdF];rfl
  have b2:wr.cell? ⟨w.heap.size,2,none⟩=some (.int .u64 150):=by rw [cell_of_row _ _ _ _ _ _ JdF];rfl
  have Ni:=lh MR;have JsR:=lh JdF;clear MR JdF;rcases p' with _ | ⟨⟨s,n⟩,p'⟩
  ·have hv:u0=.iface 36 (.int .i64 c):=hf
   subst hv;clear hf;have c1:=Ku B g wr (hq.cell HB Mg);have hgl:g<w.heap.size:=(Array.getElem?_eq_some_iff.1 Hg).1;have OL:wr.heap[g]?=some (.cells #[x] 36 (0,0)):=(hq.block g hgl Mg).trans Hg;have Nl:(wr.alloc (.cells #[c] 36)).heap[g]?=some (.cells #[x] 36 (0,0)):=(Below.heap_alloc _ _ _ (by have:=hq.size;omega)).trans OL;have c2:=La g wr.heap.size c x (wr.alloc (.cells #[c] 36)) Mg (by rw [cell_of_row _ _ _ _ _ _ Nl];rfl) (frozen_of_row _ _ _ _ _ Nl);have h3:=heap_setCell_same (wr.alloc (.cells #[c] 36)) g 0 _ _ (.int .i64 c) Nl;have H3:=lh h3;clear OL Nl h3;go_wp2;go_ret;exact ⟨rfl,(((hq.q (ae.new _ _)).mono Mg).setCell (S:=[g]) Mg _),H3.out⟩
  ·obtain ⟨b,v',rfl,TY,Zm,hb3,hf'⟩:=hf
   obtain ⟨vt,vu,rfl⟩:=gN.held (e:=⟨p',c⟩) hf';have k2:wr.cell? ⟨b,2,none⟩=some (.iface vt vu):=by rw [cell_of_row _ _ _ _ _ _ hb3];rfl
   have Hf:=lh hf';clear hf' hb3
   go_wp2_with (go_at_call 265;refine (AU _ _ _ k2).mono ?_;rintro e w' ⟨rfl,rfl⟩)
   go_roundg p'.length
   case measure=>have:=Ni.out;simp at this;omega
   case rel=>exact ⟨p',rfl,Hf.out,hq,JsR.out⟩
theorem Eu {g B b:Nat} {x:Option Addr} {w:World} (hg:w.heap[g]?=some (.cells #[.pointer x] 188 (0,0))) (hB:w.cell? ⟨B,0,none⟩=some (.pointer (some ⟨g,0,none⟩))) :
  Calls Tryz.prog 174 #[.iface 188 (.pointer (some ⟨b,0,none⟩)),.iface 189 (.pointer (some ⟨g,0,none⟩)),rV 189 B 150,rT 188] w fun e w'=>e=.returned (.bool true)/\ae [g] w w'/\w'.heap[g]?=some (.cells #[.pointer (some ⟨b,0,none⟩)] 188 (0,0)):=by
 have e1:=uP;have e2:=Ex;have e3:=ze;have e4:=jx;have e5:=JX;have m1:=FR;have t2:=CI;have a1:=JU;have v1:=II;have hgl:g<w.heap.size:=(Array.getElem?_eq_some_iff.1 hg).1;have hBl:=block_lt_of_cell hB;have c1:=fun o=>Kv B g (w.alloc o) ((ae.new _ _).cell hB Mg)
 have Nl:∀ o o',((w.alloc o).alloc o').heap[g]?=some (.cells #[.pointer x] 188 (0,0)):=fun o o'=>(Below.heap_alloc _ _ _ Mq).trans ((Below.heap_alloc _ _ _ hgl).trans hg)
 have c2:=fun o=>Lb g (w.heap.size+1) ⟨b,0,none⟩ x ((w.alloc o).alloc (.cells #[.pointer (some ⟨b,0,none⟩)] 188)) (by rw [cell_of_row _ _ _ _ _ _ (ak Mg)];rfl) (by rw [cell_of_row _ _ _ _ _ _ (Nl _ _)];rfl) (frozen_of_row _ _ _ _ _ (Nl _ _))
 have h3:∀ o o',(((w.setCell ⟨g,0,none⟩ (.pointer (some ⟨b,0,none⟩))).alloc o).alloc o').heap[g]?=some (.cells #[.pointer (some ⟨b,0,none⟩)] 188 (0,0)):=fun o o' =>
  (Below.heap_alloc _ _ _ Mq).trans ((Below.heap_alloc _ _ _ (by simpa using hgl)).trans (heap_setCell_same w g 0 _ _ (.pointer (some ⟨b,0,none⟩)) hg))
 have H3:=lh h3;clear h3 Nl hg;go_enter Tryz.func174,Tryz.ntmps174;go_wp2;refine wp_loop_rounds 1 ?_;rw [rounds_succ];go_wp2;go_ret;exact ⟨rfl,(((ae.refl [g] w).setCell Mg _).alloc _).alloc _,H3.out _ _⟩
theorem yY {g B:Nat} {c:Int} {w:World} :
  Calls Tryz.prog 174 #[.iface 36 (.int .i64 c),.iface 189 (.pointer (some ⟨g,0,none⟩)),rV 189 B 150,rT 188] w fun e w'=>e=.returned (.bool false)/\ae [] w w':=by
 have e1:=uP;have e2:=Ex;have e3:=ze;have e4:=jx;have e5:=JX;have m1:=FR;have t1:=CG;have a1:=JS;have n1:=KH;have n2:=KJ;have n3:=Kj;go_enter Tryz.func174,Tryz.ntmps174;go_wp2;refine wp_loop_rounds 1 ?_;rw [rounds_succ];go_wp2;go_ret;exact ⟨rfl,ae.new _ _⟩
def kJ (w:World):Prop:=w.cell? ⟨0,0,none⟩=some (rT 33)
theorem kJ.quiet {w w':World} (h:kJ w) (o:ae [] w w'):kJ w':=o.cell h Mg
theorem CN (u:Value) (w:World):Calls Tryz.prog 112 #[.nilIface,u] w fun e w'=>e=.returned (.bool false)/\w=w':=by
 go_enter Tryz.func112,Tryz.ntmps112;go_wp2;go_ret;exact ⟨rfl,rfl⟩
theorem KT {p:Prop} (h:p:=by
 go_enter Tryz.func112,Tryz.ntmps112
 go_wp2_with (go_at_call 174;(refine (H.out _).mono ?_);rintro e w3 ⟨rfl,hr⟩)
 go_ret;exact ⟨rfl,(HQ.out _ _).trans hr.1 Mg Mg,hr.2⟩):p:=h
theorem IR {lo hi g:Nat} {x c:Int} {v:Value} {e:Err} {w:World} (h:gN lo hi w v e) (hg:w.heap[g]?=some (.cells #[x] 36 (0,0))) (hE:kJ w) :
  Calls Tryz.prog 112 #[v,.iface 187 (.pointer (some ⟨g,0,none⟩))] w fun r w'=>r=.returned (.bool true)/\ae [g] w w'/\w'.heap[g]?=some (.cells #[e.code] 36 (0,0)):=by
 have e1:=EB;have e2:=jx;have e3:=EA;have e4:=zb;have e5:=Ey;have e6:=Ez;have m1:=FX;have m2:=FU;have m3:=FW;have f1:=Ei;have f2:=Kt;have f3:=Kc;have f4:=Kb;have f5:=JY;have f6:=KE;have hq:∀ o o',ae [] w ((w.alloc o).alloc o'):=fun o o'=>(ae.new _ _).q (ae.new _ _)
 have f7:=fun o=>Ka w.heap.size ⟨g,0,none⟩ ((w.alloc (.cells #[.pointer (some ⟨g,0,none⟩)] 187)).alloc o) ((ae.new _ _).cell (by rw [cell_of_row _ _ _ _ _ _ (heap_alloc_new _ _)];rfl) Mg)
 have f8:∀ o o',((w.alloc o).alloc o').cell? ⟨0,0,none⟩=some (rT 33):=fun o o'=>hE.quiet (hq o o')
 obtain ⟨vt,vu,rfl⟩:=h.held;have hgl:g<w.heap.size:=(Array.getElem?_eq_some_iff.1 hg).1;have H:=lh (fun o=>IW (B:=w.heap.size) (h.quiet (hq (.cells #[.pointer (some ⟨g,0,none⟩)] 187) o)) ((Below.heap_alloc _ _ _ Mq).trans ((Below.heap_alloc _ _ _ hgl).trans hg)) ((ae.new _ _).cell (by rw [cell_of_row _ _ _ _ _ _ (heap_alloc_new _ _)];rfl) Mg));have HQ:=lh hq;clear hg h hE hq;exact KT
theorem Eo {lo hi g b:Nat} {x:Option Addr} {w:World} (hg:w.heap[g]?=some (.cells #[.pointer x] 188 (0,0))) (hE:kJ w) :
  Calls Tryz.prog 112 #[.iface 188 (.pointer (some ⟨b,0,none⟩)),.iface 189 (.pointer (some ⟨g,0,none⟩))] w fun e w'=>e=.returned (.bool true)/\ae [g] w w'/\w'.heap[g]?=some (.cells #[.pointer (some ⟨b,0,none⟩)] 188 (0,0)):=by
 have e1:=EB;have e2:=jx;have e3:=EA;have e4:=zb;have e5:=Ey;have e6:=Ez;have m1:=FX;have m2:=FU;have m3:=FW;have f1:=uD;have f2:=IE;have f3:=FD;have f4:=FB;have f5:=EF;have f6:=JK;have hq:∀ o o',ae [] w ((w.alloc o).alloc o'):=fun o o'=>(ae.new _ _).q (ae.new _ _)
 have f7:=fun o=>Fs w.heap.size ⟨g,0,none⟩ ((w.alloc (.cells #[.pointer (some ⟨g,0,none⟩)] 189)).alloc o) ((ae.new _ _).cell (by rw [cell_of_row _ _ _ _ _ _ (heap_alloc_new _ _)];rfl) Mg)
 have f8:∀ o o',((w.alloc o).alloc o').cell? ⟨0,0,none⟩=some (rT 33):=fun o o'=>hE.quiet (hq o o')
 have hgl:g<w.heap.size:=(Array.getElem?_eq_some_iff.1 hg).1;have H:=lh (fun o=>Eu (B:=w.heap.size) (b:=b) (w:=(w.alloc (.cells #[.pointer (some ⟨g,0,none⟩)] 189)).alloc o) ((Below.heap_alloc _ _ _ Mq).trans ((Below.heap_alloc _ _ _ hgl).trans hg)) ((ae.new _ _).cell (by rw [cell_of_row _ _ _ _ _ _ (heap_alloc_new _ _)];rfl) Mg));have HQ:=lh hq;clear hg hE hq;exact KT
theorem yV {g:Nat} {c:Int} {w:World} (hE:kJ w) :
  Calls Tryz.prog 112 #[.iface 36 (.int .i64 c),.iface 189 (.pointer (some ⟨g,0,none⟩))] w fun e w'=>e=.returned (.bool false)/\ae [] w w':=by
 have e1:=EB;have e2:=jx;have e3:=EA;have e4:=zb;have e5:=Ey;have e6:=Ez;have m1:=FX;have m2:=FU;have m3:=FW;have f1:=uD;have f2:=IE;have f3:=FD;have f4:=FB;have f5:=EF;have f6:=JK;have hq:∀ o o',ae [] w ((w.alloc o).alloc o'):=fun o o'=>(ae.new _ _).q (ae.new _ _)
 have f7:=fun o=>Fs w.heap.size ⟨g,0,none⟩ ((w.alloc (.cells #[.pointer (some ⟨g,0,none⟩)] 189)).alloc o) ((ae.new _ _).cell (by rw [cell_of_row _ _ _ _ _ _ (heap_alloc_new _ _)];rfl) Mg)
 have f8:∀ o o',((w.alloc o).alloc o').cell? ⟨0,0,none⟩=some (rT 33):=fun o o'=>hE.quiet (hq o o')
 have H:=lh (fun o=>yY (B:=w.heap.size) (g:=g) (c:=c) (w:=(w.alloc (.cells #[.pointer (some ⟨g,0,none⟩)] 189)).alloc o));have HQ:=lh hq;clear hE hq;go_enter Tryz.func112,Tryz.ntmps112
 go_wp2_with (go_at_call 174;(refine (H.out _).mono ?_);rintro e w3 ⟨rfl,hr⟩)
 go_ret;exact ⟨rfl,(HQ.out _ _).q hr⟩
set_option linter.unusedVariables false
set_option linter.unusedSimpArgs false
def nD (lo hi:Nat) (w:World) (v:Value):Option Err->Prop
 | none=>v=.nilIface
 | some e=>gN lo hi w v e
def EC:Option Err->Int
 | none=>0
 | some e=>e.code
def vr:Option Err->List (ByteArray×Int)
 | none=>[]
 | some e=>e.path
theorem nD.only {lo hi:Nat} {w w':World} {S:List Nat} {v:Value}:∀ {o:Option Err},nD lo hi w v o->ae S w w'->(∀ g∈S,g<lo\/hi<=g)->nD lo hi w' v o
 | none,h,_,_=>h
 | some _,h,k,hS=>gN.only h k hS
theorem nD.quiet {lo hi:Nat} {w w':World} {v:Value} {o:Option Err} (h:nD lo hi w v o) (k:ae [] w w'):nD lo hi w' v o:=h.only k Mg
theorem Kk {lo hi:Nat} {v:Value} {o:Option Err} {w:World} (h:nD lo hi w v o) (hE:kJ w) :
  Calls Tryz.prog 47 #[v] w fun r w'=>r=.returned (.int .i64 (EC o))/\ae [] w w':=by
 cases o with
 | none =>
  have hv:v=.nilIface:=h;subst hv;go_enter Tryz.func47,Tryz.ntmps47;go_wp2;go_ret;exact ⟨rfl,ae.refl _ _⟩
 | some e =>
  have h':gN lo hi w v e:=h;obtain ⟨vt,vu,rfl⟩:=h'.held;have H:=lh (IR (g:=w.heap.size) (x:=0) (c:=0) (h'.quiet (ae.new w (.cells #[()] 36))) (heap_alloc_new _ _) (hE.quiet (ae.new _ _)));clear h h' hE;go_enter Tryz.func47,Tryz.ntmps47
  go_wp2_with (go_at_call 112;(refine H.mono ?_);rintro r w3 ⟨rfl,ho,hg⟩;have k0:w3.cell? ⟨w.heap.size,0,none⟩=some (.int .i64 e.code):=(by rw [cell_of_row _ _ _ _ _ _ hg];rfl))
  go_ret;exact ⟨rfl,(ae.new _ _).trans ho Mg Mg⟩
def flat (p:List (ByteArray×Int)):List Value:=p.flatMap fun x=>[.string x.1,.int .i64 x.2]
theorem wN (p q:List (ByteArray×Int)):flat (p ++ q)=flat p ++ flat q:=by simp [flat]
theorem Bk:∀ (p:List (ByteArray×Int)) (i:Nat),i<p.length->(flat p)[i*2]?=some (.string (p.getD i default).1)/\(flat p)[i*2+1]?=some (.int .i64 (p.getD i default).2)
 | [],_,h=>absurd h Mg
 | x :: p,0,_=>⟨rfl,rfl⟩
 | x :: p,i+1,h=>by
  have:=Bk p i Ms;have e:flat (x :: p)=.string x.1 :: .int .i64 x.2 :: flat p:=rfl;rw [e,show (i+1)*2=i*2+2 by omega];simpa using this
theorem ES:kI Tryz.prog 107 110 (.agg #[.string .empty,()]) 2 24:=kI.mk' Tryz.underlying107 Mh rfl Mf Mf
theorem EK:kI Tryz.prog 37 111 (.agg #[.string .empty,()]) 2 24:=kI.mk' Tryz.underlying37 Mh rfl Mf Mf
end Go.Proofs.YthcafdfdglfabaaGreatDoor
