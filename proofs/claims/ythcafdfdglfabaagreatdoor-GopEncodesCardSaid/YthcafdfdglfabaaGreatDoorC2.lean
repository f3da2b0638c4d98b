/- Joined texts: AsFacts, As, Read, Sum, Few, New, May, Get, Of. Conditions: each part names its own. -/
import Derived.Test.YthcafdfdglfabaaGreatDoorC1
import Derived.Stop.Asserts
import Derived.Deep.LoopGhost
import Derived.Deep.OwnRows
set_option maxRecDepth 100000
set_option maxHeartbeats 16000000
namespace Go.Proofs.YthcafdfdglfabaaGreatDoor
open Tryz
open Go.RowKit Go.Extern Go.Stop Go.Extern.Stop
set_option linter.unusedVariables false
set_option linter.unusedSimpArgs false
abbrev hT (t:Nat):Value:=.pointer (some ⟨1,t,none⟩)
abbrev rT (t:Nat):Value:=.iface 283 (.agg #[hT t])
abbrev rV (t B:Nat) (fl:Int):Value:=.agg #[hT t,.pointer B,.int .u64 fl]
theorem nL (z:Sem Value) (f:TypeId->Addr->Nat->Nat->Sem Value) (v:Value):ReflectliteValue.method z f #[v]=(ReflectliteValue.parts v >>= fun x=>match x with | none=>z | some (t,a,fl)=>f t a fl (fl % 32)):=rfl
theorem jZ {t:Nat} (D:∀ w,(isAgg t).run prog w=.ok false w) {a:Addr} {v:Value} {w:World} (h:w.cell? a=some v):(loadVar t a).run prog w=.ok v w:=by
 simp only [loadVar,Sem.run_bind,D,Result.andThen_ok];simp [h]
theorem Kf (t:Nat) (w:World):(Go.method 447 283 (.agg #[hT t]) "Kind").run prog w=.ok (249,hT t) w:=Qc
theorem Kc (t:Nat) (w:World):(Go.method 447 283 (.agg #[hT t]) "Elem").run prog w=.ok (279,.agg #[hT t]) w:=Qc
theorem Ke (t:Nat) (w:World):(Go.method 447 283 (.agg #[hT t]) "Implements").run prog w=.ok (280,.agg #[hT t]) w:=Qc
theorem Kb (t:Nat) (w:World):(Go.method 447 283 (.agg #[hT t]) "AssignableTo").run prog w=.ok (277,.agg #[hT t]) w:=Qc
theorem ME (v:Value) (w:World):(Go.method 447 188 v "Unwrap").run prog w=.ok (265,v) w:=Qc
theorem OC (v:Value) (D:TypeId) (w:World):(Instr.typeAssert (.iface 36 v) D 288 true).run prog w=.ok (.tuple #[.nilIface,.bool false]) w:=run_typeAssert_lacksB underlying288 Qc Qc v D w
theorem OE (v:Value) (D:TypeId) (w:World):(Instr.typeAssert (.iface 188 v) D 288 true).run prog w=.ok (.tuple #[.nilIface,.bool false]) w:=run_typeAssert_lacksB underlying288 Qc Qc v D w
theorem OG (v:Value) (D:TypeId) (w:World):(Instr.typeAssert (.iface 36 v) D 291 true).run prog w=.ok (.tuple #[.nilIface,.bool false]) w:=run_typeAssert_lacksB underlying291 Qc Qc v D w
theorem E3 (v:Value) (D:TypeId) (w:World):(Instr.typeAssert (.iface 188 v) D 291 true).run prog w=.ok (.tuple #[.iface 188 v,.bool true]) w:=run_typeAssert_hasB underlying291 Qc v D w
theorem NV (v:Value) (D:TypeId) (w:World):(Instr.typeAssert (.iface 36 v) D 293 true).run prog w=.ok (.tuple #[.nilIface,.bool false]) w:=run_typeAssert_lacksB underlying293 Qc Qc v D w
theorem Fz (v:Value) (w:World):(ReflectliteType.typeOf #[.iface 36 v]).run prog w=.ok (rT 36) w:=Qc
theorem FA (v:Value) (w:World):(ReflectliteType.typeOf #[.iface 188 v]).run prog w=.ok (rT 188) w:=Qc
def sQ:=ReflectliteType.abiMethod fun t=>do pure (.int .u8 (<- Rtype.kind t))
def Cz:=ReflectliteType.method ReflectliteType.elem
def CD:=ReflectliteType.relation "Implements" ReflectliteType.implements_
def sP:=ReflectliteType.relation "AssignableTo" ReflectliteType.assignableTo
def kF:=fun args:Array Value=>ReflectliteValue.unpack (args.getD 0 (.tuple #[]))
def CE:=ReflectliteValue.methodAny (ReflectliteValue.valueError "reflectlite.Value.Type" 0) fun t _ _ _=>ReflectliteType.toType t
def pz:=ReflectliteValue.method (ReflectliteValue.valueError "reflectlite.Value.IsNil" 0) ReflectliteValue.isNil
def pA:=ReflectliteValue.method (ReflectliteValue.valueError "reflectlite.Value.Elem" 0) ReflectliteValue.elem
theorem NK (w:World):(sQ #[hT 187]).run prog w=.ok (.int .u8 22) w:=Qc
theorem NJ (w:World):(sQ #[hT 36]).run prog w=.ok (.int .u8 2) w:=Qc
theorem NF (w:World):(Cz #[.agg #[hT 187]]).run prog w=.ok (rT 36) w:=Qc
theorem Oz (w:World):(CD #[.agg #[hT 36],rT 33]).run prog w=.ok (.bool true) w:=Qc
theorem Iy (g:Nat) (w:World):(kF #[.iface 187 (.pointer g)]).run prog w=.ok (rV 187 w.heap.size 150) (w.alloc (.cells #[.pointer g] 187)):=Qc
theorem Og (B:Nat) (w:World):(CE #[rV 187 B 150]).run prog w=.ok (rT 187) w:=Qc
theorem OJ (B:Nat) (w:World):(ReflectliteValue.parts (rV 187 B 150)).run prog w=.ok (some (187,⟨B,0,none⟩,150)) w:=Qc
theorem Ot (w:World):(isAgg 187).run prog w=.ok false w:=Qc
theorem Pb (w:World):(sizeOf 36).run prog w=.ok 1 w:=Qc
theorem NI (B:Nat) (a:Addr) (w:World) (h:w.cell? ⟨B,0,none⟩=some (.pointer (some a))):(pz #[rV 187 B 150]).run prog w=.ok (.bool false) w:=by
 simp only [pz,nL,Sem.run_bind,OJ,Result.andThen_ok,ReflectliteValue.isNil];simp [jZ Ot h]
theorem OS (w:World):(Rtype.elem? 187).run prog w=.ok (some 36) w:=Qc
theorem OV (g:Nat) (w:World):(ReflectliteValue.mk 36 ⟨g,0,none⟩ 256).run prog w=.ok (rV 36 g 386) w:=Qc
theorem Ol (B g:Nat) (w:World) (h:w.cell? ⟨B,0,none⟩=some (.pointer g)):(pA #[rV 187 B 150]).run prog w=.ok (rV 36 g 386) w:=by
 simp only [pA,nL,Sem.run_bind,OJ,Result.andThen_ok,ReflectliteValue.elem];simp [jZ Ot h,OS,OV,ReflectliteValue.flagAddr]
theorem MV (g B:Nat) (w:World):(ReflectliteValue.set #[rV 36 g 386,rV 36 B 130]).run prog w=(load ⟨B,0,none⟩ >>= fun D=>storeVar 36 ⟨g,0,none⟩ D >>= fun _=>pure (.tuple #[])).run prog w:=Qc
theorem JS (w:World):(sQ #[hT 189]).run prog w=.ok (.int .u8 22) w:=Qc
theorem JQ (w:World):(sQ #[hT 188]).run prog w=.ok (.int .u8 22) w:=Qc
theorem Jj (w:World):(Cz #[.agg #[hT 189]]).run prog w=.ok (rT 188) w:=Qc
theorem Nk (w:World):(CD #[.agg #[hT 188],rT 33]).run prog w=.ok (.bool true) w:=Qc
theorem xr (g:Nat) (w:World):(kF #[.iface 189 (.pointer g)]).run prog w=.ok (rV 189 w.heap.size 150) (w.alloc (.cells #[.pointer g] 189)):=Qc
theorem LR (B:Nat) (w:World):(CE #[rV 189 B 150]).run prog w=.ok (rT 189) w:=Qc
theorem OL (B:Nat) (w:World):(ReflectliteValue.parts (rV 189 B 150)).run prog w=.ok (some (189,⟨B,0,none⟩,150)) w:=Qc
theorem Ou (w:World):(isAgg 189).run prog w=.ok false w:=Qc
theorem Pc (w:World):(sizeOf 188).run prog w=.ok 1 w:=Qc
theorem JH (B:Nat) (a:Addr) (w:World) (h:w.cell? ⟨B,0,none⟩=some (.pointer (some a))):(pz #[rV 189 B 150]).run prog w=.ok (.bool false) w:=by
 simp only [pz,nL,Sem.run_bind,OL,Result.andThen_ok,ReflectliteValue.isNil];simp [jZ Ou h]
theorem OT (w:World):(Rtype.elem? 189).run prog w=.ok (some 188) w:=Qc
theorem OW (g:Nat) (w:World):(ReflectliteValue.mk 188 ⟨g,0,none⟩ 256).run prog w=.ok (rV 188 g 406) w:=Qc
theorem Om (B g:Nat) (w:World) (h:w.cell? ⟨B,0,none⟩=some (.pointer g)):(pA #[rV 189 B 150]).run prog w=.ok (rV 188 g 406) w:=by
 simp only [pA,nL,Sem.run_bind,OL,Result.andThen_ok,ReflectliteValue.elem];simp [jZ Ou h,OT,OW,ReflectliteValue.flagAddr]
theorem MW (g B:Nat) (w:World):(ReflectliteValue.set #[rV 188 g 406,rV 188 B 150]).run prog w=(load ⟨B,0,none⟩ >>= fun D=>storeVar 188 ⟨g,0,none⟩ D >>= fun _=>pure (.tuple #[])).run prog w:=Qc
theorem Nw (w:World):(sP #[.agg #[hT 36],rT 36]).run prog w=.ok (.bool true) w:=Qc
theorem Nz (w:World):(sP #[.agg #[hT 188],rT 188]).run prog w=.ok (.bool true) w:=Qc
theorem Nx (w:World):(sP #[.agg #[hT 36],rT 188]).run prog w=.ok (.bool false) w:=Qc
theorem Ny (w:World):(sP #[.agg #[hT 188],rT 36]).run prog w=.ok (.bool false) w:=Qc
theorem LU (c:Int) (w:World):(kF #[.iface 36 (.int .i64 c)]).run prog w=.ok (rV 36 w.heap.size 130) (w.alloc (.cells #[c] 36)):=Qc
theorem LW (a:Addr) (w:World):(kF #[.iface 188 (.pointer (some a))]).run prog w=.ok (rV 188 w.heap.size 150) (w.alloc (.cells #[.pointer (some a)] 188)):=Qc
theorem OZ (g B:Nat) (c x:Int) (w:World) (h:w.cell? ⟨B,0,none⟩=some (.int .i64 c)) (E:w.cell? ⟨g,0,none⟩=some (.int .i64 x)) (D:w.frozen? ⟨g,0,none⟩=false) :
  (ReflectliteValue.set #[rV 36 g 386,rV 36 B 130]).run prog w=.ok (.tuple #[]) (w.setCell ⟨g,0,none⟩ (.int .i64 c)):=by
 rw [MV];simp [h,storeVar,Pb,Value.cells,storeCells,go_sem,stored,E,D]
theorem Pa (g B:Nat) (a:Addr) (x:Option Addr) (w:World) (h:w.cell? ⟨B,0,none⟩=some (.pointer (some a))) (E:w.cell? ⟨g,0,none⟩=some (.pointer x)) (D:w.frozen? ⟨g,0,none⟩=false) :
  (ReflectliteValue.set #[rV 188 g 406,rV 188 B 150]).run prog w=.ok (.tuple #[]) (w.setCell ⟨g,0,none⟩ (.pointer (some a))):=by
 rw [MW];simp [h,storeVar,Pc,Value.cells,storeCells,go_sem,stored,E,D]
section
variable (args:Array Value) (w:World)
theorem kC:(callFunc 171 args).run prog w=((kF args).run prog w).andThen fun v w'=>.ok (.value v) w' :=
 run_callFunc_extern func171 Qc Qc Qc Qc args w
theorem IX:(callFunc 172 args).run prog w=((CE args).run prog w).andThen fun v w'=>.ok (.value v) w' :=
 run_callFunc_extern func172 Qc Qc Qc Qc args w
theorem Cf:(callFunc 173 args).run prog w=((pz args).run prog w).andThen fun v w'=>.ok (.value v) w' :=
 run_callFunc_extern func173 Qc Qc Qc Qc args w
theorem xF:(callFunc 216 args).run prog w=((ReflectliteType.typeOf args).run prog w).andThen fun v w'=>.ok (.value v) w' :=
 run_callFunc_extern func216 Qc Qc Qc Qc args w
theorem Cg:(callFunc 217 args).run prog w=((pA args).run prog w).andThen fun v w'=>.ok (.value v) w' :=
 run_callFunc_extern func217 Qc Qc Qc Qc args w
theorem NC:(callFunc 218 args).run prog w=((ReflectliteValue.set args).run prog w).andThen fun v w'=>.ok (.value v) w' :=
 run_callFunc_extern func218 Qc Qc Qc Qc args w
theorem IW:(callFunc 249 args).run prog w=((sQ args).run prog w).andThen fun v w'=>.ok (.value v) w' :=
 run_callFunc_extern func249 Qc Qc Qc Qc args w
theorem IU:(callFunc 279 args).run prog w=((Cz args).run prog w).andThen fun v w'=>.ok (.value v) w' :=
 run_callFunc_extern func279 Qc Qc Qc Qc args w
theorem IV:(callFunc 280 args).run prog w=((CD args).run prog w).andThen fun v w'=>.ok (.value v) w' :=
 run_callFunc_extern func280 Qc Qc Qc Qc args w
theorem IR:(callFunc 277 args).run prog w=((sP args).run prog w).andThen fun v w'=>.ok (.value v) w' :=
 run_callFunc_extern func277 Qc Qc Qc Qc args w
end
set_option linter.unusedVariables false
set_option linter.unusedSimpArgs false
theorem Ec (b:Nat) (v:Value) (w:World) (h:w.cell? ⟨b,2,none⟩=some v) :
  Calls prog 265 #[.pointer b] w fun e w'=>e=.returned v/\w=w':=by
 go_enter func265,ntmps265;go_wp2;go_ret;exact ⟨rfl,rfl⟩
theorem Mh {lo hi g B:Nat} {x c:Int} {v:Value} {p:List (ByteArray×Int)} {w:World} (h:dS lo hi w p c v) (hg:w.heap[g]?=some (.cells #[x] 36)) (hB:w.cell? ⟨B,0,none⟩=some (.pointer g)) :
  Calls prog 174 #[v,.iface 187 (.pointer g),rV 187 B 150,rT 36] w fun e w'=>e=.returned (.bool true)/\ae [g] w w'/\w'.heap[g]?=some (.cells #[c] 36):=by
 have e1:=xF;have e2:=IR;have e3:=Cg;have e4:=kC;have e5:=NC;have m1:=Kb;have m2:=ME;have t1:=Fz;have t2:=FA;have a1:=Nw;have a2:=Ny;have v1:=LU;have n1:=OE;have n2:=E3;have Hh:=lh h;have V:=lh hg;have HB:=lh hB;clear h hg hB;go_enter func174,ntmps174;go_wp2
 go_loopg [0] p.length (fun n u wr=>∃ E,E.length=n/\dS lo hi wr E c u/\ae [] w wr/\wr.heap[w.heap.size]?=some (.cells #[hT 187,.pointer B,.int .u64 150] 247))
 case atStart=>exact ⟨p,rfl,Hh.only (BS) Qb,BS,LD⟩
 case round =>
  obtain ⟨E,Y,N,J,D⟩:=hrel;have b0:wr.cell? ⟨w.heap.size,0,none⟩=some (hT 187):=dx D
  have b1:wr.cell? ⟨w.heap.size,1,none⟩=some (.pointer B):=dx D
  have b2:wr.cell? ⟨w.heap.size,2,none⟩=some (.int .u64 150):=dx D
  have Ra:=lh Y;have M:=lh D;clear Y D;rcases E with _ | ⟨⟨s,n⟩,E⟩
  ·have hv:u0=.iface 36 (.int .i64 c):=N
   subst hv;clear N;have c1:=Ol B g wr (J.cell HB Qb);have O:g<w.heap.size:=(l8.1 V).1;have ST:wr.heap[g]?=some (.cells #[x] 36):=(J.block g O Qb).trans V;have L:(wr.alloc (.cells #[c] 36)).heap[g]?=some (.cells #[x] 36):=(A6 _ _ _ (j0 J.size)).trans ST;have c2:=OZ g wr.heap.size c x (wr.alloc (.cells #[c] 36)) Qb (dx L) (Sz _ _ _ _ _ L);have Z:=WG (wr.alloc (.cells #[c] 36)) g 0 _ _ (.int .i64 c) L;have H3:=lh Z;clear ST L Z;go_wp2;go_ret;exact ⟨rfl,(((J.q (BS)).mono Qb).setCell (S:=[g]) Qb _),H3.out⟩
  ·obtain ⟨b,v',rfl,XP,hb2,I,F⟩:=N
   obtain ⟨vt,vu,rfl⟩:=eK.held (e:=⟨E,c⟩) F;have k2:wr.cell? ⟨b,2,none⟩=some (.iface vt vu):=dx I
   have Hf:=lh F;clear F I
   go_wp2_with (go_at_call 265;refine (Ec _ _ _ k2).mono ?_;rintro e w' ⟨rfl,rfl⟩)
   go_roundg E.length
   case measure=>have:=Ra.out;simp at this;omega
   case rel=>exact ⟨E,rfl,Hf.out,J,M.out⟩
theorem IP {g B b:Nat} {x:Option Addr} {w:World} (F:w.heap[g]?=some (.cells #[.pointer x] 188)) (L:w.cell? ⟨B,0,none⟩=some (.pointer g)) :
  Calls prog 174 #[.iface 188 (.pointer b),.iface 189 (.pointer g),rV 189 B 150,rT 188] w fun e w'=>e=.returned (.bool true)/\ae [g] w w'/\w'.heap[g]?=some (.cells #[.pointer b] 188):=by
 have O:=xF;have e2:=IR;have V:=Cg;have Y:=kC;have Z:=NC;have m1:=Kb;have t2:=FA;have a1:=Nz;have v1:=LW;have D:g<w.heap.size:=(l8.1 F).1;have N:=s4 L;have c1:=fun o=>Om B g (w.alloc o) ((BS).cell L Qb)
 have I:∀ o E,((w.alloc o).alloc E).heap[g]?=some (.cells #[.pointer x] 188):=fun o E=>(A6 _ _ _ Qm).trans ((A6 _ _ _ D).trans F)
 have c2:=fun o=>Pa g (w.heap.size+1) ⟨b,0,none⟩ x ((w.alloc o).alloc (.cells #[.pointer b] 188)) (by rw [RG (ak Qb)];rfl) (by rw [RG (I _ _)];rfl) (Sz _ _ _ _ _ (I _ _))
 have J:∀ o E,(((w.setCell ⟨g,0,none⟩ (.pointer b)).alloc o).alloc E).heap[g]?=some (.cells #[.pointer b] 188):=fun o E =>
  (A6 _ _ _ Qm).trans ((A6 _ _ _ (by simpa using D)).trans (WG w g 0 _ _ (.pointer b) F))
 have M:=lh J;clear J I F;go_enter func174,ntmps174;go_wp2;refine wp_loop_rounds 1 ?_;rw [rounds_succ];go_wp2;go_ret;exact ⟨rfl,(((ae.refl [g] w).setCell Qb _).alloc _).alloc _,M.out _ _⟩
theorem Ca {g B:Nat} {c:Int} {w:World} :
  Calls prog 174 #[.iface 36 (.int .i64 c),.iface 189 (.pointer g),rV 189 B 150,rT 188] w fun e w'=>e=.returned (.bool false)/\ae [] w w':=by
 have D:=xF;have e2:=IR;have E:=Cg;have F:=kC;have I:=NC;have m1:=Kb;have N:=Fz;have a1:=Nx;have J:=OC;have L:=OG;have M:=NV;go_enter func174,ntmps174;go_wp2;refine wp_loop_rounds 1 ?_;rw [rounds_succ];go_wp2;go_ret;exact ⟨rfl,BS⟩
def po (w:World):Prop:=w.cell? ⟨0,0,none⟩=some (rT 33)
theorem po.quiet {w w':World} (h:po w) (o:ae [] w w'):po w':=o.cell h Qb
theorem FD (u:Value) (w:World):Calls prog 112 #[.nilIface,u] w fun e w'=>e=.returned (.bool false)/\w=w':=by
 go_enter func112,ntmps112;go_wp2;go_ret;exact ⟨rfl,rfl⟩
theorem OO {p:Prop} (h:p:=by
 go_enter func112,ntmps112
 go_wp2_with (go_at_call 174;(refine (H.out _).mono ?_);rintro e w3 ⟨rfl,hr⟩)
 go_ret;exact ⟨rfl,(HQ.out _ _).trans hr.1 Qb Qb,hr.2⟩):p:=h
theorem Md {lo hi g:Nat} {x c:Int} {v:Value} {e:l4} {w:World} (h:eK lo hi w v e) (F:w.heap[g]?=some (.cells #[x] 36)) (hE:po w) :
  Calls prog 112 #[v,.iface 187 (.pointer g)] w fun r w'=>r=.returned (.bool true)/\ae [g] w w'/\w'.heap[g]?=some (.cells #[e.code] 36):=by
 have J:=IX;have e2:=kC;have L:=IW;have M:=Cf;have N:=IU;have O:=IV;have m1:=Kf;have m2:=Kc;have m3:=Ke;have V:=Iy;have Y:=Og;have Z:=NK;have f4:=NJ;have f5:=NF;have f6:=Oz;have E:∀ o D,ae [] w ((w.alloc o).alloc D):=fun o D=>(BS).q (BS)
 have f7:=fun o=>NI w.heap.size ⟨g,0,none⟩ ((w.alloc (.cells #[.pointer g] 187)).alloc o) ((BS).cell (by rw [RG (LD)];rfl) Qb)
 have f8:∀ o D,((w.alloc o).alloc D).cell? ⟨0,0,none⟩=some (rT 33):=fun o D=>hE.quiet (E o D)
 obtain ⟨vt,vu,rfl⟩:=h.held;have I:g<w.heap.size:=(l8.1 F).1;have H:=lh (fun o=>Mh (B:=w.heap.size) (h.quiet (E (.cells #[.pointer g] 187) o)) ((A6 _ _ _ Qm).trans ((A6 _ _ _ I).trans F)) ((BS).cell (by rw [RG (LD)];rfl) Qb));have HQ:=lh E;clear F h hE E;exact OO
theorem IE {lo hi g b:Nat} {x:Option Addr} {w:World} (E:w.heap[g]?=some (.cells #[.pointer x] 188)) (hE:po w) :
  Calls prog 112 #[.iface 188 (.pointer b),.iface 189 (.pointer g)] w fun e w'=>e=.returned (.bool true)/\ae [g] w w'/\w'.heap[g]?=some (.cells #[.pointer b] 188):=by
 have J:=IX;have e2:=kC;have L:=IW;have M:=Cf;have N:=IU;have O:=IV;have m1:=Kf;have m2:=Kc;have m3:=Ke;have V:=xr;have Y:=LR;have Z:=JS;have f4:=JQ;have f5:=Jj;have f6:=Nk;have I:∀ o D,ae [] w ((w.alloc o).alloc D):=fun o D=>(BS).q (BS)
 have f7:=fun o=>JH w.heap.size ⟨g,0,none⟩ ((w.alloc (.cells #[.pointer g] 189)).alloc o) ((BS).cell (by rw [RG (LD)];rfl) Qb)
 have f8:∀ o D,((w.alloc o).alloc D).cell? ⟨0,0,none⟩=some (rT 33):=fun o D=>hE.quiet (I o D)
 have F:g<w.heap.size:=(l8.1 E).1;have H:=lh (fun o=>IP (B:=w.heap.size) (b:=b) (w:=(w.alloc (.cells #[.pointer g] 189)).alloc o) ((A6 _ _ _ Qm).trans ((A6 _ _ _ F).trans E)) ((BS).cell (by rw [RG (LD)];rfl) Qb));have HQ:=lh I;clear E hE I;exact OO
theorem BZ {g:Nat} {c:Int} {w:World} (hE:po w) :
  Calls prog 112 #[.iface 36 (.int .i64 c),.iface 189 (.pointer g)] w fun e w'=>e=.returned (.bool false)/\ae [] w w':=by
 have I:=IX;have e2:=kC;have J:=IW;have L:=Cf;have M:=IU;have N:=IV;have m1:=Kf;have m2:=Kc;have m3:=Ke;have O:=xr;have V:=LR;have Y:=JS;have Z:=JQ;have f5:=Jj;have f6:=Nk;have E:∀ o D,ae [] w ((w.alloc o).alloc D):=fun o D=>(BS).q (BS)
 have f7:=fun o=>JH w.heap.size ⟨g,0,none⟩ ((w.alloc (.cells #[.pointer g] 189)).alloc o) ((BS).cell (by rw [RG (LD)];rfl) Qb)
 have f8:∀ o D,((w.alloc o).alloc D).cell? ⟨0,0,none⟩=some (rT 33):=fun o D=>hE.quiet (E o D)
 have H:=lh (fun o=>Ca (B:=w.heap.size) (g:=g) (c:=c) (w:=(w.alloc (.cells #[.pointer g] 189)).alloc o));have F:=lh E;clear hE E;go_enter func112,ntmps112
 go_wp2_with (go_at_call 174;(refine (H.out _).mono ?_);rintro e w3 ⟨rfl,hr⟩)
 go_ret;exact ⟨rfl,(F.out _ _).q hr⟩
set_option linter.unusedVariables false
set_option linter.unusedSimpArgs false
theorem aj.sub {k:IntKind} {lo hi b off cap:Nat} {w:World} {l:List Int} (h:aj k lo hi w (.slice (some ⟨b,off,none⟩) l.length cap) l) {i j:Nat} (O:i<=j) (I:j<=l.length) (D:Nat) (N:D<=cap) (F:j-i<=D) :
  aj k lo hi w (.slice (some ⟨b,off+i,none⟩) (j-i) D) ((l.take j).drop i):=by
 obtain ⟨⟨h1,a,c,e,h3,L,M⟩,V⟩:=h;injection e with e1 e2 e3
 subst e1;subst e3;have J:((l.take j).drop i).length=j-i:=by rw [Pp,Po,Nat.min_eq_left I]
 refine ⟨?_,fun x hx=>V x (List.mem_of_mem_take (List.mem_of_mem_drop hx))⟩;rw [J];refine ⟨by rw [Ps,J];omega,some ⟨b,off+i,none⟩,D,rfl,F,Pw N L,fun Y=>?_⟩;obtain ⟨b',Z,e,x,y,E⟩:=M (PH (PH Y (Nat.sub_le _ _)) I);injection e with e
 injection e with e1 e2
 subst e1;subst e2;refine ⟨b,off+i,rfl,x,y,fun m u hu=>?_⟩;rw [Nat.add_assoc];refine E (i+m) u ?_;rw [Pz,PA,PB] at hu;rw [Pz]
 split at hu
 ·exact hu
 ·simp at hu
theorem fJ (w:World) (a:Addr):w.drew.frozen? a=w.frozen? a:=rfl
theorem p9.frz {a b:Value} {w w':World} {B:Nat} (h:p9 a w b w') (D:bj B a) {p:Addr} (F:p.block<B) (E:B<=w.heap.size):w'.frozen? p=w.frozen? p :=
 World.frozen?_of_block (w:=w) (h.only.block _ Qa (fun hm=>by have:=D p.block Qr;omega))
theorem ae.frozen {S:List Nat} {w w':World} (h:ae S w w') {p:Addr} (E:p.block<w.heap.size) (D:p.block∉S):w'.frozen? p=w.frozen? p:=World.frozen?_of_block (w:=w) (h.block _ E D)
section
variable {P:Program}
theorem fZ {w:World} {ops:Array Oper} {o:Oper} {a:Act} {K:Act->World->Prop} {Q:Exit->Act->World->Prop} {E':Prop} (M:o.guard=none) (s x:Operand) (t:TypeId)
  (Y:o.op=.call { callee:=.builtin .append,args:=#[s,x],argTypes:=#[t,t] })
  {k:IntKind} {e:TypeId} {z:Value} {bytes base lo hi:Nat} {v sv:Value} {l m:List Int} (E:iF P t e z 1 bytes)
  (F:f9 k e base w v l) (Z:a.eval s=v) (J:aj k lo hi w sv m) (hx:a.eval x=sv)
  (I:(l.length+m.length)*bytes<=140737488355328) (L:base<=w.heap.size)
  (h:∀ v' w',f9 k e base w' v' (l ++ m)->p9 v w v' w'->K (a.put o.dst v') w'):if Region.wanted o (yielded ops a.tmps)=true then Oper.wp P o a w K Q else E':=by
 have V:l.length+m.length<=140737488355328:=Pw (Nat.le_mul_of_pos_right _ E.bp) I;refine kf M s x t Y E F.1 Z J.1 hx (by simp only [x8];rintro u ⟨x,_,rfl⟩;rfl) (by simp only [maxLen];omega) I L fun v' w' N O=>h v' w' ⟨?_,?_⟩ O
 ·simpa using N
 ·intro y D
  rcases B0.1 D with D | D
  ·exact F.2 y D
  ·exact J.2 y D
end
def cK (c:bw):Option Int :=
 if jY c.kind=false then some 13
 else if lQ c.kind=true then (if 0<c.data.length then some 2 else none)
 else if c.data.length=0 then some 1
 else if 15<c.data.getD 0 0 then some 3
 else if 65536<c.data.length then some 5
 else none
def jc (w:World) (c:bw) (e:Ending) (w':World):Prop :=
 ae [] w w'/\match cK c with
  | some k=>e=.returned (.tuple #[.agg #[(),(),d8],.iface 36 (.int .i64 k)])
  | none=>∃ dv,e=.returned (.tuple #[.agg #[c.kind,.int .i64 (c.data.getD 0 0),dv],.nilIface])/\aj .u8 w.heap.size w'.heap.size w' dv (c.data.drop 1)
theorem jc.err {w w':World} {c:bw} {k:Int} {e:Ending} (E:cK c=some k) (F:ae [] w w') (D:e=.returned (.tuple #[.agg #[(),(),d8],.iface 36 (.int .i64 k)])):jc w c e w':=by
 unfold jc;rw [E];exact ⟨F,D⟩
theorem MP {k:Int} {l:List Int} (I:jY k=true) (F:lQ k=false) (J:0<l.length):15<l.getD 0 0->cK ⟨k,l⟩=some 3:=fun D=>by
 have E:¬ l.length=0:=Qa;simp only [cK,I,F];rw [if_neg Qb,if_neg Qb,if_neg E,if_pos D]
theorem MQ {k:Int} {l:List Int} (J:jY k=true) (I:lQ k=false) (L:0<l.length):¬ 15<l.getD 0 0->65536<l.length->cK ⟨k,l⟩=some 5:=fun D F=>by
 have E:¬ l.length=0:=Qa;simp only [cK,J,I];rw [if_neg Qb,if_neg Qb,if_neg E,if_neg D,if_pos F]
theorem MO {k:Int} {l:List Int} (J:jY k=true) (I:lQ k=false) (L:0<l.length):¬ 15<l.getD 0 0->¬ 65536<l.length->cK ⟨k,l⟩=none:=fun D F=>by
 have E:¬ l.length=0:=Qa;simp only [cK,J,I];rw [if_neg Qb,if_neg Qb,if_neg E,if_neg D,if_neg F]
theorem LA {p:Prop} (h:p:=by
 unfold jc;rw [Hr.out];refine ⟨hs0.trans Ru (fun g hg _=>hg) (fun g hg QH=>absurd (i5.1 hg) Qa),_,?_,hI⟩;rw [<- Hq.out]):p:=h
theorem uo {lo hi:Nat} {k:Int} {dv:Value} {l:List Int} {w:World} (h:aj .u8 lo hi w dv l) :
  Calls prog 178 #[.agg #[k,dv]] w (jc w ⟨k,l⟩):=by
 have QJ:=h.1.len_le;unfold maxLen at QJ;obtain ⟨a,cap,rfl,Sv,RN,RO,QR⟩:=h.open;have TT:=lh RO;have Rm:=lh QR;have Hh:=lh h;clear RO QR h RN;have hq:∀ o o',ae [] w ((w.alloc o).alloc o'):=fun o o'=>(BS).q (BS)
 have O:=lh hq;clear hq;by_cases Y:jY k=true
 ·by_cases hb:lQ k=true
  ·by_cases h0:0<l.length
   ·have hr:cK ⟨k,l⟩=some 2:=by simp [cK,Y,hb,h0]
    have Hr:=lh hr;clear hr;go_enter func178,ntmps178
    go_wp2_with (first | (go_at_call 84;refine (iN _ _).mono ?_;rintro e w' ⟨rfl,rfl⟩) | (go_at_call 85;refine (iI _ _).mono ?_;rintro e w' ⟨rfl,rfl⟩))
    exact TV (v:=.tuple #[.agg #[(),(),d8],.iface 36 (.int .i64 2)]) (by simp [results,results178,go_sem]) rfl (jc.err Hr (O.out _ _) rfl)
   ·have hz:l=[]:=List.eq_nil_of_length_eq_zero Qa
    have hr:cK ⟨k,l⟩=none:=by simp [cK,Y,hb,hz]
    have Hr:=lh hr;have Hz:=lh hz;clear hr hz;go_enter func178,ntmps178
    go_wp2_with (first | (go_at_call 84;refine (iN _ _).mono ?_;rintro e w' ⟨rfl,rfl⟩) | (go_at_call 85;refine (iI _ _).mono ?_;rintro e w' ⟨rfl,rfl⟩))
    refine TV (v:=.tuple #[.agg #[k,(),d8],.nilIface]) (by simp [results,results178,go_sem]) rfl ?_;unfold jc;rw [Hr.out,Hz.out];exact ⟨O.out _ _,_,rfl,aj.nil _ _ _ _⟩
  ·have N:lQ k=false:=by simpa using hb
   clear hb;by_cases h0:l.length=0
   ·have hz:l=[]:=List.eq_nil_of_length_eq_zero h0
    have h0i:((l.length:Nat):Int)=0:=Qa;clear h0;have hr:cK ⟨k,l⟩=some 1:=by subst hz;simp [cK,Y,N]
    have Hr:=lh hr;clear hr;go_enter func178,ntmps178
    go_wp2_with (first | (go_at_call 84;refine (iN _ _).mono ?_;rintro e w' ⟨rfl,rfl⟩) | (go_at_call 85;refine (iI _ _).mono ?_;rintro e w' ⟨rfl,rfl⟩))
    exact TV (v:=.tuple #[.agg #[(),(),d8],.iface 36 (.int .i64 1)]) (by simp [results,results178,go_sem]) rfl (jc.err Hr (O.out _ _) rfl)
   ·have TK:0<l.length:=Qa
    have h0b:(((l.length:Nat):Int) == 0)=false:=Qk;have hpi:(0:Int)<(l.length:Int):=Qa;clear h0;obtain ⟨b,off,rfl,_,_⟩:=TT.out 0 TK;have c0:=Rm.out b off rfl 0 TK;rw [Nat.add_zero] at c0;have hx:=Hh.range TK;unfold i7 at hx;have SM:=MP Y N TK;have hr5:=MQ Y N TK;have Vg:=MO Y N TK;have Hr3:=lh SM;have Hr5:=lh hr5;have Hr0:=lh Vg;clear SM hr5 Vg;generalize hq:l.getD 0 0=q at *
    have Hq:=lh hq;clear hq;have c1:((w.alloc (.cells #[k,.slice (some ⟨b,off,none⟩) l.length cap] 31)).alloc (.cells #[(),(),d8] 85)).cell? ⟨b,off,none⟩=some (.int .u8 q):=(O.out _ _).cell c0 Qb;by_cases h15:15<q
    ·have Hr:=lh (Hr3.out h15)
     go_enter func178,ntmps178
     go_wp2_with (first | (go_at_call 84;refine (iN _ _).mono ?_;rintro e w' ⟨rfl,rfl⟩) | (go_at_call 85;refine (iI _ _).mono ?_;rintro e w' ⟨rfl,rfl⟩))
     exact TV (v:=.tuple #[.agg #[(),(),d8],.iface 36 (.int .i64 3)]) (by simp [results,results178,go_sem]) rfl (jc.err Hr (O.out _ _) rfl)
    ·by_cases h5:65536<l.length
     ·have Hr:=lh (Hr5.out h15 h5)
      go_enter func178,ntmps178
      go_wp2_with (first | (go_at_call 84;refine (iN _ _).mono ?_;rintro e w' ⟨rfl,rfl⟩) | (go_at_call 85;refine (iI _ _).mono ?_;rintro e w' ⟨rfl,rfl⟩))
      exact TV (v:=.tuple #[.agg #[(),(),d8],.iface 36 (.int .i64 5)]) (by simp [results,results178,go_sem]) rfl (jc.err Hr (O.out _ _) rfl)
     ·have Hr:=lh (Hr0.out h15 h5)
      go_enter func178,ntmps178
      go_wp2_with (first | (go_at_call 84;refine (iN _ _).mono ?_;rintro e w' ⟨rfl,rfl⟩) | (go_at_call 85;refine (iI _ _).mono ?_;rintro e w' ⟨rfl,rfl⟩))
      clear c1;have Yr:∃ D,D=(w.alloc (.cells #[k,.slice (some ⟨b,off,none⟩) l.length cap] 31)).alloc (.cells #[(),(),d8] 85):=⟨_,rfl⟩
      generalize hW:(w.alloc _).alloc _=D;have hO:ae [] w D:=by rw [<- hW];exact O.out _ _
      have hcA:D.heap[w.heap.size]?=some (.cells #[k,.slice (some ⟨b,off,none⟩) l.length cap] 31):=by
       rw [<- hW,A6 _ _ _ Qb];exact ak Qb
      have f0:D.cell? ⟨w.heap.size,0,none⟩=some (.int .i64 k):=dx hcA
      have f1:D.cell? ⟨w.heap.size,1,none⟩=some (.slice (some ⟨b,off,none⟩) l.length cap):=dx hcA
      have f2:D.cell? ⟨b,off,none⟩=some (.int .u8 q):=hO.cell c0 Qb;have L:D.heap[w.heap.size+1]?=some (.cells #[(),(),d8] 85):=by
       rw [<- hW];exact ak Qb
      have g0:D.frozen? ⟨w.heap.size+1,0,none⟩=false:=Sz _ _ _ _ _ L;have g1:D.frozen? ⟨w.heap.size+1,1,none⟩=false:=Sz _ _ _ _ _ L;have g2:D.frozen? ⟨w.heap.size+1,2,none⟩=false:=Sz _ _ _ _ _ L;have e0:D.cell? ⟨w.heap.size+1,0,none⟩=some (.int .i64 0):=dx L
      have e1:D.cell? ⟨w.heap.size+1,1,none⟩=some (.int .i64 0):=dx L
      have e2:D.cell? ⟨w.heap.size+1,2,none⟩=some (.slice none 0 0):=dx L
      have hz3:D.heap.size=w.heap.size+2:=by rw [<- hW];simp
      have V:w.heap.size<D.heap.size:=Qa;have Zp:b<D.heap.size:=by have:=s4 f2;exact this
      have I:w.heap.size+1<D.heap.size:=Qa;have hbw:b<w.heap.size:=s4 c0;have hbn:¬ b=w.heap.size+1:=Qa;have JAP:¬ w.heap.size+1=b:=Qa;have hwq:IntKind.i64.wrap q=q:=by simp [IntKind.wrap,IntKind.bits,IntKind.signed];omega
      clear hcA L hW Yr hz3;have hle:(1:Int)<=(l.length:Int):=Qa;by_cases Sq:cap=1
      ·have WF:l.length=1:=Qa
       have hcz:cap-1=0:=Qa;have hd1:l.drop 1=[]:=C1 Qa;have JmA:∀ (x:Option Addr) (w':World),aj .u8 lo hi w' (.slice x 0 0) (l.drop 1):=fun x w'=>by
        rw [hd1];exact ⟨⟨rfl,x,0,rfl,Pm _,PX _,fun h=>absurd h Qb⟩,Qb⟩
       have Jtd:=lh JmA;clear JmA hd1;have Z:f9 .u8 5 D.heap.size (D.alloc (.cells #[] 5)).drew (.slice D.heap.size 0 0) []:=(iQ rfl (PX _) Qb 0 rfl rfl:f9 .u8 5 D.heap.size (D.alloc (.cells #[] 5)) (.slice D.heap.size 0 0) [])
       have M:D.heap.size<=((D.alloc (.cells #[] 5)).drew).heap.size:=Qb;have J:ae [] D (D.alloc (.cells #[] 5)).drew:=(ae.new D (.cells #[] 5)).drew;have l0:=J.cell e0 Qb;have l1:=J.cell e1 Qb;have l2:=J.cell e2 Qb;have g0:(D.alloc (.cells #[] 5)).drew.frozen? ⟨w.heap.size+1,0,none⟩=false:=(J.frozen I Qb).trans g0;have g1:(D.alloc (.cells #[] 5)).drew.frozen? ⟨w.heap.size+1,1,none⟩=false:=(J.frozen I Qb).trans g1;have g2:(D.alloc (.cells #[] 5)).drew.frozen? ⟨w.heap.size+1,2,none⟩=false:=(J.frozen I Qb).trans g2;have F:bj D.heap.size (.slice D.heap.size 0 0):=bj.lit (Pm _);have Up:(([]:List Int).length+(l.drop 1).length)*1<=140737488355328:=by rw [Pp];simp only [Pr];omega
       go_region_held3 (fun w'=>w'.cell? ⟨w.heap.size,0,none⟩=some (.int .i64 k)/\w'.cell? ⟨w.heap.size,1,none⟩=some (.slice (some ⟨b,off,none⟩) l.length cap)/\w'.cell? ⟨b,off,none⟩=some (.int .u8 q))
        (first
         | (go_split_ands;refine ⟨E.cell F Qq V,E.cell F Qq V,E.cell F Qq Zp⟩)
         | (simp [*,World.cell?_alloc_some,World.cell?_setCell_far,frozen?_alloc_cells,fJ,PJ])
         | fail)
        (first | (refine fZ rfl (.tmp 59) (.tmp 62) 29 rfl E8 Z rfl (Jtd.out _ _) rfl Up M (fun v1 w1 QG E=>?_);obtain ⟨a1,Sb,rfl,_⟩:=QG.ints.open;(have m0:=E.cell F l0 I);(have m1:=E.cell F l1 I);(have m2:=E.cell F l2 I);(have n0:=(E.frz (p:=⟨w.heap.size+1,0,none⟩) F I M).trans g0);(have n1:=(E.frz (p:=⟨w.heap.size+1,1,none⟩) F I M).trans g1);(have n2:=(E.frz (p:=⟨w.heap.size+1,2,none⟩) F I M).trans g2)) | fail)
       go_wp2;refine TV (v:=.tuple #[.agg #[k,q,.slice a1 0 Sb],.nilIface]) (by simp [results,results178,go_sem,hwq,m0,m1,m2,World.cell?_setCell_other]) rfl ?_;have Ru:ae [w.heap.size+1] w1 (((w1.setCell ⟨w.heap.size+1,0,none⟩ (.int .i64 k)).setCell ⟨w.heap.size+1,1,none⟩ (.int .i64 q)).setCell ⟨w.heap.size+1,2,none⟩ (.slice a1 0 Sb)):=(((AY).setCell Qb _).setCell Qb _).setCell Qb _;have hs0:ae [] w w1:=(hO.q J).acc E (bj.lit (Nat.le_of_lt V));have hI:=(QG.ints.only Ru (fun g hg=>Qd)).mono (Nat.le_of_lt V) Ru.size;simp only [PL,Pp,WF,Nat.sub_self] at hI;exact LA
      ·have hcc:1<cap:=Qa
       have hcz:¬ cap-1=0:=Qa;have RI:=Hh.sub (i:=1) (j:=l.length) TK (Pm _) (cap-1) Qa Qa;rw [List.take_length] at RI;have Z:f9 .u8 5 D.heap.size (D.alloc (.cells #[] 5)).drew (.slice D.heap.size 0 0) []:=(iQ rfl (PX _) Qb 0 rfl rfl:f9 .u8 5 D.heap.size (D.alloc (.cells #[] 5)) (.slice D.heap.size 0 0) [])
       have Jim:=RI.quiet (hO.q ((ae.new D (.cells #[] 5)).drew));have M:D.heap.size<=((D.alloc (.cells #[] 5)).drew).heap.size:=Qb;have J:ae [] D (D.alloc (.cells #[] 5)).drew:=(ae.new D (.cells #[] 5)).drew;have l0:=J.cell e0 Qb;have l1:=J.cell e1 Qb;have l2:=J.cell e2 Qb;have g0:(D.alloc (.cells #[] 5)).drew.frozen? ⟨w.heap.size+1,0,none⟩=false:=(J.frozen I Qb).trans g0;have g1:(D.alloc (.cells #[] 5)).drew.frozen? ⟨w.heap.size+1,1,none⟩=false:=(J.frozen I Qb).trans g1;have g2:(D.alloc (.cells #[] 5)).drew.frozen? ⟨w.heap.size+1,2,none⟩=false:=(J.frozen I Qb).trans g2;have F:bj D.heap.size (.slice D.heap.size 0 0):=bj.lit (Pm _);have Up:(([]:List Int).length+(l.drop 1).length)*1<=140737488355328:=by rw [Pp];simp only [Pr];omega
       go_region_held3 (fun w'=>w'.cell? ⟨w.heap.size,0,none⟩=some (.int .i64 k)/\w'.cell? ⟨w.heap.size,1,none⟩=some (.slice (some ⟨b,off,none⟩) l.length cap)/\w'.cell? ⟨b,off,none⟩=some (.int .u8 q))
        (first
         | (go_split_ands;refine ⟨E.cell F Qq V,E.cell F Qq V,E.cell F Qq Zp⟩)
         | (simp [*,World.cell?_alloc_some,World.cell?_setCell_far,frozen?_alloc_cells,fJ,PJ])
         | fail)
        (first | (refine fZ rfl (.tmp 59) (.tmp 62) 29 rfl E8 Z rfl Jim rfl Up M (fun v1 w1 QG E=>?_);obtain ⟨a1,Sb,rfl,_⟩:=QG.ints.open;(have m0:=E.cell F l0 I);(have m1:=E.cell F l1 I);(have m2:=E.cell F l2 I);(have n0:=(E.frz (p:=⟨w.heap.size+1,0,none⟩) F I M).trans g0);(have n1:=(E.frz (p:=⟨w.heap.size+1,1,none⟩) F I M).trans g1);(have n2:=(E.frz (p:=⟨w.heap.size+1,2,none⟩) F I M).trans g2)) | fail)
       go_wp2;refine TV (v:=.tuple #[.agg #[k,q,.slice a1 (l.length-1) Sb],.nilIface]) (by simp [results,results178,go_sem,hwq,m0,m1,m2,World.cell?_setCell_other]) rfl ?_;have Ru:ae [w.heap.size+1] w1 (((w1.setCell ⟨w.heap.size+1,0,none⟩ (.int .i64 k)).setCell ⟨w.heap.size+1,1,none⟩ (.int .i64 q)).setCell ⟨w.heap.size+1,2,none⟩ (.slice a1 (l.length-1) Sb)):=(((AY).setCell Qb _).setCell Qb _).setCell Qb _;have hs0:ae [] w w1:=(hO.q J).acc E (bj.lit (Nat.le_of_lt V));have hI:=(QG.ints.only Ru (fun g hg=>Qd)).mono (Nat.le_of_lt V) Ru.size;simp only [PL,Pp] at hI;exact LA
 ·have hk':jY k=false:=by simpa using Y
  clear Y;have hr:cK ⟨k,l⟩=some 13:=by simp [cK,hk']
  have Hr:=lh hr;clear hr;go_enter func178,ntmps178
  go_wp2_with (first | (go_at_call 84;refine (iN _ _).mono ?_;rintro e w' ⟨rfl,rfl⟩) | (go_at_call 85;refine (iI _ _).mono ?_;rintro e w' ⟨rfl,rfl⟩))
  exact TV (v:=.tuple #[.agg #[(),(),d8],.iface 36 (.int .i64 13)]) (by simp [results,results178,go_sem]) rfl (jc.err Hr (O.out _ _) rfl)
def sI (c:Nat):Nat:=if c % 2=1 then (c / 2) ^^^ 3988292384 else c / 2
def lj:Nat->Nat->Nat
 | 0,c=>c
 | n+1,c=>sI (lj n c)
def Jc (c:Nat) (x:Int):Nat:=lj 8 (c ^^^ x.toNat)
def lS (c:Nat) (l:List Int):Nat:=l.foldl Jc c
def B9 (l:List Int):Nat:=lS 4294967295 l ^^^ 4294967295
theorem FV {c:Nat} (h:c<4294967296):sI c<4294967296:=by
 unfold sI
 split
 ·exact Nat.xor_lt_two_pow (n:=32) Qa Qa
 ·omega
theorem oI:∀ (n:Nat) {c:Nat},c<4294967296->lj n c<4294967296
 | 0,_,h=>h
 | n+1,_,h=>FV (oI n h)
theorem Jd {c:Nat} {x:Int} (h:c<4294967296) (hx:i7 .u8 x):Jc c x<4294967296:=by
 unfold i7 at hx;exact oI 8 (Nat.xor_lt_two_pow (n:=32) h Qa)
theorem sJ:∀ (l:List Int) {c:Nat},c<4294967296->(∀ x∈l,i7 .u8 x)->lS c l<4294967296
 | [],_,h,_=>h
 | x :: l,_,h,hl=>sJ l (Jd h (hl x Qb)) (fun y D=>hl y (by simp [D]))
theorem xK (l:List Int) (D:∀ x∈l,i7 .u8 x):B9 l<4294967296 :=
 Nat.xor_lt_two_pow (n:=32) (sJ l Qa D) Qa
theorem Cp (c:Nat) (l:List Int) (x:Int):lS c (l ++ [x])=Jc (lS c l) x:=by simp [lS]
theorem Ir {l:List Int} {k:Nat} (h:k<l.length):l.take (k+1)=l.take k ++ [l.getD k 0]:=by
 rw [UJ h];simp [h]
theorem Mi {c:Nat} (D:c<4294967296) (h:c % 2=1):bits .and .u32 (c:Int) 1=1:=by
 have:=u32_and_nat c 1 D Qa;rw [Nat.and_one_is_mod,h] at this;exact this
theorem Jf {c:Nat} (D:c<4294967296) (h:c % 2=0):bits .and .u32 (c:Int) 1=0:=by
 have:=u32_and_nat c 1 D Qa;rw [Nat.and_one_is_mod,h] at this;exact this
theorem Jg {c:Nat} (D:c<4294967296):bits .xor .u32 ((c:Int) / 2) 3988292384=((c / 2 ^^^ 3988292384:Nat):Int):=by
 have:=u32_xor_nat (c / 2) 3988292384 Qa Qa;simpa using this
theorem yH (c:Nat) (x:Int) (D:c<4294967296) (hx:0<=x/\x<=255):bits .xor .u32 (c:Int) x=((c ^^^ x.toNat:Nat):Int):=by
 obtain ⟨X,rfl⟩:=A0 hx.1;exact u32_xor_nat c X D Qa
theorem NE {c:Nat} {x:Int} (D:c<4294967296) (hx:i7 .u8 x):bits .xor .u32 (c:Int) x=((c ^^^ x.toNat:Nat):Int):=by
 unfold i7 at hx;exact yH c x D hx
theorem Nq {p:Prop} (h:p:=by
 have Ho:=lh Jpo;clear Jpo;go_wp2;go_round
 case rel=>exact ⟨j+1,Qa,Qh,by show _=Value.int .u32 ((sI (lj j q):Nat):Int);rw [Hcq.out];simp [sI,Ho.out]⟩
 case measure=>simp [intOf];omega):p:=h
theorem yG {lo hi:Nat} {v:Value} {l:List Int} {w:World} (h:aj .u8 lo hi w v l) :
  Calls prog 180 #[v] w fun e w'=>e=.returned (.int .u32 (B9 l:Nat))/\w=w':=by
 have Z:=h.1.len_le;unfold maxLen at Z;have hr:=h.2;obtain ⟨a,cap,rfl,Sv,hm,M,L⟩:=h.open;go_enter func180,ntmps180;go_wp2;go_loop [8,3,5,16] (fun i c _ _=>∃ k:Nat,k<=l.length/\i=.int .i64 k/\c=.int .u32 (lS 4294967295 (l.take k):Nat)) (fun i _ _ _=>l.length-(intOf i).toNat)
 case atStart=>exact ⟨0,Qa,rfl,rfl⟩
 case round =>
  obtain ⟨k,hk,rfl,rfl⟩:=hrel;have F:=sJ (l.take k) (c:=4294967295) Qa (fun x hx=>hr x (List.mem_of_mem_take hx));by_cases E:k<l.length
  ·obtain ⟨b,off,rfl,_,_⟩:=M k E
   have hc':=L b off rfl k E;have hx:i7 .u8 (l.getD k 0):=by refine hr _ ?_;simp [E]
   have N:lS 4294967295 (l.take (k+1))=lj 8 (lS 4294967295 (l.take k) ^^^ (l.getD k 0).toNat):=by
    rw [Ir E,Cp];rfl
   have QS:=NE F hx;have J:lS 4294967295 (l.take k) ^^^ (l.getD k 0).toNat<4294967296:=Nat.xor_lt_two_pow (n:=32) F (by unfold i7 at hx;omega);have WL:(l.getD k 0) % 4294967296=l.getD k 0:=by unfold i7 at hx;omega
   generalize lS 4294967295 (l.take k)=s at *
   generalize l.getD k 0=x at *
   have Y:=lh N;clear N M L hr;generalize hq:s ^^^ x.toNat=q at *
   clear hq;go_wp2;go_loop [16,3] (fun i c=>∃ j:Nat,j<=8/\i=.int .i64 j/\c=.int .u32 (lj j q:Nat)) (fun i _=>8-(intOf i).toNat)
   case atStart=>exact ⟨0,Qa,rfl,rfl⟩
   case round =>
    obtain ⟨j,hj,rfl,rfl⟩:=hrel;have I:=oI j J;by_cases hjl:j<8
    ·generalize D:lj j q=c at *
     have Hcq:=lh D;clear D;by_cases Jpo:c % 2=1
     ·have e1:=Mi I Jpo
      have e2:=Jg I;exact Nq
     ·have e1:=Jf I Qa
      exact Nq
    ·obtain rfl:j=8:=Qa
     go_wp2;go_round
     case rel=>exact ⟨k+1,Qa,Qh,by rw [Y.out]⟩
     case measure=>simp [intOf];omega
  ·obtain rfl:k=l.length:=Qa
   have O:bits .xor .u32 IntKind.u32.max (lS 4294967295 l:Int)=((B9 l:Nat):Int):=by
    rw [List.take_length] at F;have:=u32_xor_nat 4294967295 (lS 4294967295 l) Qa F;rw [B9,Nat.xor_comm];exact this
   have V:=lh O;clear O;go_wp2;go_ret;exact ⟨by show Ending.returned (.int .u32 (bits .xor .u32 IntKind.u32.max _))=_;rw [V.out],rfl⟩
def aO (l:List Int) (a b:Int):Bool:=l.all fun x=>decide (a<=x/\x<=b)
theorem yI {l:List Int} {k:Nat} {a b:Int} (h:k<l.length):aO (l.drop k) a b=(decide (a<=l.getD k 0/\l.getD k 0<=b) && aO (l.drop (k+1)) a b):=by
 rw [aO,Py h,List.all_cons];simp [aO,h]
theorem Ll {p:Prop} (h:p:=by
 go_wp2;go_ret
 first | exact ⟨rfl,rfl⟩ | exact ⟨aC (by rw [hr]),rfl⟩):p:=h
theorem bQ {lo hi:Nat} {v:Value} {l:List Int} (x y:Int) {w:World} (h:aj .i64 lo hi w v l) :
  Calls prog 61 #[v,x,y] w fun e w'=>e=.returned (.bool (aO l x y))/\w=w':=by
 obtain ⟨a,cap,rfl,O,J,L,I⟩:=h.open;have Z:(l.length:Int)<=9223372036854775807:=by unfold maxLen at J;omega
 have V:=lh L;have N:=lh I;clear h L I O J;go_enter func61,ntmps61;go_wp2;go_loop [7] (fun i=>∃ k:Nat,k<=l.length/\i=.int .i64 k/\Hid (aO (l.drop k) x y=aO l x y)) (fun i=>l.length-(intOf i).toNat)
 case atStart=>exact ⟨0,Qa,rfl,lh rfl⟩
 case round =>
  obtain ⟨k,hk,rfl,D⟩:=hrel;by_cases F:k<l.length
  ·obtain ⟨b,off,rfl,_,_⟩:=V.out k F
   have hc:=N.out b off rfl k F;have E:=lh (yI (a:=x) (b:=y) F);have hx:(0:Int)<=(k:Int):=Qa;have Y:(k:Int)<(l.length:Int):=Qa;generalize l.getD k 0=q at *
   by_cases h1:q<x
   ·have hr:aO l x y=false:=by rw [<- D.out,E.out];simp;omega
    exact Ll
   ·by_cases h2:y<q
    ·have hr:aO l x y=false:=by rw [<- D.out,E.out];simp;omega
     exact Ll
    ·have hr:aO (l.drop (k+1)) x y=aO l x y:=by rw [<- D.out,E.out];simp;omega
     have M:=lh hr;clear hr;go_wp2;go_round
     case rel=>exact ⟨k+1,Qa,Qh,M⟩
     case measure=>simp [intOf];omega
  ·obtain rfl:k=l.length:=Qa
   have hx:¬ (l.length:Int)<(l.length:Int):=Qa;have hr:aO l x y=true:=by rw [<- D.out,List.drop_length];rfl
   exact Ll
def jJ (W H V:Int):Bool:=fu W && fu H && jq V
def gu (c:cJ):Bool :=
 headB c.number c.first c.count && decide ((c.coded.length:Int)=c.count) && gX (c.coded.getD 0 default).kind && c.coded.all fun x=>(cK x).isNone
theorem uL {α:Type} [Inhabited α] (f:α->Bool) {l:List α} {k:Nat} (h:k<l.length):(l.drop k).all f=(f (l.getD k default) && (l.drop (k+1)).all f):=by
 rw [Py h,List.all_cons]
 congr 2
 simp [h]
theorem JB {lo hi:Nat} {dv:Value} {c:cJ} {w:World} (h:cm lo hi w dv c.coded) (hc:rS c) :
  Calls prog 117 #[.agg #[c.number,c.first,c.count,dv]] w fun e w'=>e=.returned (.bool (gu c))/\ae [] w w':=by
 obtain ⟨num,F,cnt,D⟩:=c;simp only at h;obtain ⟨a,cap,rfl,Sv,RN,Wz⟩:=h.open;have Z:=lh Wz;have Th:(D.length:Int)<=9223372036854775807:=by unfold maxLen at RN;omega
 clear h Wz RN Sv hc;by_cases Y:headB num F cnt=true
 ·by_cases hn:(D.length:Int)=cnt
  ·have TK:0<D.length:=by unfold headB at Y;rw [r9] at Y;omega
   have hp:(0:Int)<(D.length:Int):=Qa;obtain ⟨b,off,dv,rfl,_,_,M,L,_,V⟩:=Z.out 0 TK;simp only [Nat.zero_mul,Nat.add_zero] at M L;have N:=fun o=>(ae.new w o).cell M Qb
   have q2:=fun o=>(ae.new w o).cell L Qb
   subst hn;by_cases hf:gX (D.getD 0 default).kind=true
   ·have Rx:gu ⟨num,F,D.length,D⟩=D.all fun x=>(cK x).isNone:=by simp only [gu,Y,hf];simp
    have ZC:=lh Rx;generalize RA:(D.getD 0 default).kind=k0 at *
    clear RA Rx M L V;have row:=Sd w (.cells #[num,F,D.length,.slice (some ⟨b,off,none⟩) D.length cap] 119);have r1:∀ w1,ae [] (w.alloc (.cells #[num,F,D.length,.slice (some ⟨b,off,none⟩) D.length cap] 119)) w1->w1.cell? ⟨w.heap.size,2,none⟩=some (.int .i64 D.length)/\w1.cell? ⟨w.heap.size,3,none⟩=some (.slice (some ⟨b,off,none⟩) D.length cap):=fun w1 E=>⟨E.cell (dx row) Qb,E.cell (dx row) Qb⟩
    have O:=lh r1;clear r1 row;have N:=N (.cells #[num,F,D.length,.slice (some ⟨b,off,none⟩) D.length cap] 119);go_enter func117,ntmps117
    go_wp2_with (first | (go_at_call 177;refine (kJ _ _ _ _).mono ?_;rintro e w1 ⟨rfl,I⟩;obtain ⟨r2,r3⟩:=O.out _ I;have q2:=I.cell N Qb) | (go_at_call 179;refine (oJ _ _).mono ?_;rintro e w2 ⟨rfl,rfl⟩) | fail)
    have JBr:ae [] w w1:=(BS).q I;clear r2 r3 q2 O N I;go_loopw [34] (fun i wr=>∃ k:Nat,k<=D.length/\i=.int .i64 k/\Hid (((D.drop k).all fun x=>(cK x).isNone)=(D.all fun x=>(cK x).isNone))/\ae [] w wr) (fun i _=>D.length-(intOf i).toNat)
    case atStart=>exact ⟨0,Qa,rfl,lh rfl,JBr⟩
    case round =>
     obtain ⟨k,hk,rfl,Hk,E⟩:=hrel;by_cases QH:k<D.length
     ·obtain ⟨b',Um,dv',e,_,_,M,L,_,V⟩:=Z.out k QH
      injection e with e
      injection e with e1 e2
      subst e1;subst e2;have c1:=E.cell M Qb;have c2:=E.cell L Qb;obtain ⟨da,VX,rfl,_⟩:=V.open;have Hd:=lh (fun w' (o:ae [] wr w')=>V.quiet (E.q o));have hx:(0:Int)<=(k:Int):=Qa;have RZ:(k:Int)<(D.length:Int):=Qa;have Tp:=uL (fun x=>(cK x).isNone) QH;have RV:=lh Tp;clear M L V Tp;generalize D.getD k default=x at *
      obtain ⟨xk,xd⟩:=x;simp only at c1 c2;by_cases hr:∃ e,cK ⟨xk,xd⟩=some e
      ·obtain ⟨e,hr⟩:=hr
       have Hr:=lh hr;clear hr
       go_wp2_with (first | (go_at_call 178;refine (uo (Hd.out _ (BS))).mono ?_;rintro e w2 ⟨QN,hm⟩;rw [Hr.out] at hm;subst hm) | fail)
       go_ret;refine ⟨aC ?_,E.q ((BS).q (QN.q (BS)))⟩;rw [ZC.out,<- Hk.out,RV.out,Hr.out]
       rfl
      ·have hr:cK ⟨xk,xd⟩=none:=by
        cases hx:cK ⟨xk,xd⟩ with
        | none=>rfl
        | some e=>exact absurd ⟨e,hx⟩ hr
       have Hr:=lh hr;clear hr
       go_wp2_with (first | (go_at_call 178;refine (uo (Hd.out _ (BS))).mono ?_;rintro e w2 ⟨QN,hm⟩;rw [Hr.out] at hm;obtain ⟨dv2,rfl,Uq⟩:=hm;obtain ⟨a2,Ut,rfl,_⟩:=Uq.open) | fail)
       go_roundw
       case rel =>
        have RU:Hid (((D.drop (k+1)).all fun x=>(cK x).isNone)=(D.all fun x=>(cK x).isNone)):=lh (by rw [<- Hk.out,RV.out,Hr.out];rfl);have hqq:ae [] w w2:=E.q ((BS).q QN)
        first | exact ⟨k+1,Qa,Qh,RU,hqq.q (BS)⟩ | ((repeat apply Exists.intro);exact ⟨⟨k+1,Qa,Qh,RU,hqq.q (BS)⟩,rfl⟩)
       case measure=>simp [intOf];omega
     ·obtain rfl:k=D.length:=Qa
      have hx:¬ (D.length:Int)<(D.length:Int):=Qa;go_wp2;go_ret;refine ⟨aC ?_,E⟩;rw [ZC.out,<- Hk.out,List.drop_length]
      rfl
   ·have J:gu ⟨num,F,D.length,D⟩=false:=by
     have hf':gX (D.getD 0 default).kind=false:=by simpa using hf
     simp only [gu,hf'];simp
    have Hv:=lh J;have hf':gX (D.getD 0 default).kind=false:=by simpa using hf
    generalize RA:(D.getD 0 default).kind=k0 at *
    clear RA J M L V hf;have row:=Sd w (.cells #[num,F,D.length,.slice (some ⟨b,off,none⟩) D.length cap] 119);have r1:∀ w1,ae [] (w.alloc (.cells #[num,F,D.length,.slice (some ⟨b,off,none⟩) D.length cap] 119)) w1->w1.cell? ⟨w.heap.size,2,none⟩=some (.int .i64 D.length)/\w1.cell? ⟨w.heap.size,3,none⟩=some (.slice (some ⟨b,off,none⟩) D.length cap):=fun w1 E=>⟨E.cell (dx row) Qb,E.cell (dx row) Qb⟩
    have O:=lh r1;clear r1 row;have N:=N (.cells #[num,F,D.length,.slice (some ⟨b,off,none⟩) D.length cap] 119);go_enter func117,ntmps117
    go_wp2_with (first | (go_at_call 177;refine (kJ _ _ _ _).mono ?_;rintro e w1 ⟨rfl,I⟩;obtain ⟨r2,r3⟩:=O.out _ I;have q2:=I.cell N Qb) | (go_at_call 179;refine (oJ _ _).mono ?_;rintro e w2 ⟨rfl,rfl⟩) | fail)
    go_ret;exact ⟨aC (Hv.out ▸ rfl),(BS).q I⟩
  ·have J:gu ⟨num,F,cnt,D⟩=false:=by simp [gu,hn]
   have Hv:=lh J;have hnb:((D.length:Int) == cnt)=false:=dn A5 hn
   clear J;have row:=Sd w (.cells #[num,F,cnt,.slice a D.length cap] 119);have r1:∀ w1,ae [] (w.alloc (.cells #[num,F,cnt,.slice a D.length cap] 119)) w1->w1.cell? ⟨w.heap.size,2,none⟩=some (.int .i64 cnt)/\w1.cell? ⟨w.heap.size,3,none⟩=some (.slice a D.length cap):=fun w1 E=>⟨E.cell (dx row) Qb,E.cell (dx row) Qb⟩
   have O:=lh r1;clear r1 row;go_enter func117,ntmps117
   go_wp2_with (first | (go_at_call 177;refine (kJ _ _ _ _).mono ?_;rintro e w1 ⟨rfl,I⟩;obtain ⟨r2,r3⟩:=O.out _ I) | fail)
   go_ret;exact ⟨aC (Hv.out ▸ rfl),(BS).q I⟩
 ·have J:gu ⟨num,F,cnt,D⟩=false:=by simp [gu,Y]
  have Hv:=lh J;have hh':headB num F cnt=false:=by simpa using Y
  clear J Y;go_enter func117,ntmps117
  go_wp2_with (first | (go_at_call 177;refine (kJ _ _ _ _).mono ?_;rintro e w1 ⟨rfl,I⟩) | fail)
  go_ret;exact ⟨aC (Hv.out ▸ rfl),(BS).q I⟩
theorem gh (n:Int) (h₀:0<=n) (h₁:n<2 ^ 63):IntKind.i64.wrap n=n:=Qe
theorem Bw {b off n cap:Nat} {i:Int} (k:Nat) (hi:i=(k:Int)) (h:k<=cap) (W:World) :
  (Instr.slice 29 (.slice (some ⟨b,off,none⟩) n cap) none (some (.int .i64 i)) none).run prog W=.ok (.slice (some ⟨b,off,none⟩) k cap) W:=by
 subst hi;have h1:¬ cap<k:=Qa;have D:(k:Int)<=(cap:Int):=Qa;simp [Instr.slice,run_underlying underlying29,Instr.sliceBounds,Instr.sliceBound,asIntOf,go_sem,h]
 try omega
def oh (lo hi:Nat) (w:World) (v:Value):Option l4->Prop
 | none=>v=.nilIface
 | some e=>eK lo hi w v e
def Jb:Option l4->Int
 | none=>0
 | some e=>e.code
def ye:Option l4->List (ByteArray×Int)
 | none=>[]
 | some e=>e.path
theorem oh.only {lo hi:Nat} {w w':World} {S:List Nat} {v:Value}:∀ {o:Option l4},oh lo hi w v o->ae S w w'->(∀ g∈S,g<lo\/hi<=g)->oh lo hi w' v o
 | none,h,_,_=>h
 | some _,h,k,hS=>eK.only h k hS
theorem oh.quiet {lo hi:Nat} {w w':World} {v:Value} {o:Option l4} (h:oh lo hi w v o) (k:ae [] w w'):oh lo hi w' v o:=h.only k Qb
theorem NX {lo hi:Nat} {v:Value} {o:Option l4} {w:World} (h:oh lo hi w v o) (hE:po w) :
  Calls prog 47 #[v] w fun r w'=>r=.returned (.int .i64 (Jb o))/\ae [] w w':=by
 cases o with
 | none =>
  have I:v=.nilIface:=h;subst I;go_enter func47,ntmps47;go_wp2;go_ret;exact ⟨rfl,AY⟩
 | some e =>
  have D:eK lo hi w v e:=h;obtain ⟨M,N,rfl⟩:=D.held;have H:=lh (Md (g:=w.heap.size) (x:=0) (c:=0) (D.quiet (ae.new w (.cells #[()] 36))) (LD) (hE.quiet (BS)));clear h D hE;go_enter func47,ntmps47
  go_wp2_with (go_at_call 112;(refine H.mono ?_);rintro r J ⟨rfl,F,E⟩;have L:J.cell? ⟨w.heap.size,0,none⟩=some (.int .i64 e.code):=(dx E))
  go_ret;exact ⟨rfl,(BS).trans F Qb Qb⟩
def flat (p:List (ByteArray×Int)):List Value:=p.flatMap fun x=>[.string x.1,.int .i64 x.2]
theorem zA (p q:List (ByteArray×Int)):flat (p ++ q)=flat p ++ flat q:=by simp [flat]
theorem Eu:∀ (p:List (ByteArray×Int)) (i:Nat),i<p.length->(flat p)[i*2]?=some (.string (p.getD i default).1)/\(flat p)[i*2+1]?=some (.int .i64 (p.getD i default).2)
 | [],_,h=>absurd h Qb
 | x :: p,0,_=>⟨rfl,rfl⟩
 | x :: p,i+1,h=>by
  have:=Eu p i Qp;have e:flat (x :: p)=.string x.1 :: .int .i64 x.2 :: flat p:=rfl;rw [e,show (i+1)*2=i*2+2 by omega];simpa using this
theorem ES:iF prog 107 110 (.agg #[.string .empty,()]) 2 24:=iF.mk' underlying107 Qc rfl Qa Qa
theorem EK:iF prog 37 111 (.agg #[.string .empty,()]) 2 24:=iF.mk' underlying37 Qc rfl Qa Qa
end Go.Proofs.YthcafdfdglfabaaGreatDoor
