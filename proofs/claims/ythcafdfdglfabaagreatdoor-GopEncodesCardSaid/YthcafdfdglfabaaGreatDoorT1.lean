/- Steps of a region that draws, told briefly: the rest. Conditions: none. -/
import Derived.Test.YthcafdfdglfabaaGreatDoorC1
namespace Go.Proofs.YthcafdfdglfabaaGreatDoor
open Go.RowKit
set_option linter.unusedVariables false
set_option linter.unusedSimpArgs false
theorem xE (w:World) (a b c d:Obj):ae [] w ((((w.alloc a).alloc b).alloc c).alloc d)/\Hid (((((w.alloc a).alloc b).alloc c).alloc d).heap[w.heap.size]?=some a)/\Hid (((((w.alloc a).alloc b).alloc c).alloc d).heap[w.heap.size+1]?=some b)/\Hid (((((w.alloc a).alloc b).alloc c).alloc d).heap[w.heap.size+1+1]?=some c)/\Hid (((((w.alloc a).alloc b).alloc c).alloc d).heap[w.heap.size+1+1+1]?=some d)/\Hid (((((w.alloc a).alloc b).alloc c).alloc d).heap.size=w.heap.size+1+1+1+1) :=
  ⟨(((ae.new w a).alloc b).alloc c).alloc d,Lib.hid (pd ((((ae.new ((w.alloc a)) b).alloc c).alloc d)) (Sd w _)),Lib.hid (pd (((ae.new (((w.alloc a).alloc b)) c).alloc d)) (ak Qb)),Lib.hid (pd ((ae.new ((((w.alloc a).alloc b).alloc c)) d)) (ak Qb)),Lib.hid (ak Qb),Lib.hid Qb⟩
theorem D5 {w:World} {g i:Nat} {D:Array Value} {t:TypeId} {fr:Nat×Nat} {v:Value} (h:w.heap[g]?=some (.cells D t fr)) (E:D[i]?=some v):w.cell? ⟨g,i,none⟩=some v:=by rw [RG h];exact E
section
variable {P:Program} {md:Region.Mode} {ops:Array Oper} {Q:Exit->Act->World->Prop} {S:World->Prop}
theorem l9 {fuel:Nat} {QZ:Array Bool} {a a':Act} {w:World} {op:Op} {ty:TypeId} {pos:String} {af:Array Edge} {gd:Option (Nat×Bool)} (i d:Nat)
    (h:wpAnyH P md ops Q S fuel (QZ.setIfInBounds i true) a' w) (hi:ops[i]?=some ⟨some d,op,ty,pos,af,gd⟩:=by rfl)
    (hs:Region.noSelect ops=true:=by kernel_rfl) (hf:Region.free md ops QZ i=true:=by kernel_rfl) (hr:(Region.ready md ops QZ).contains i=true:=by kernel_rfl)
    (hQ:∀ c a w,Q (.panic c) (a.put (some d) undef) w->Q (.panic c) a w:=by exact fun _ _ _ h=>h)
    (hw:Region.wanted ⟨some d,op,ty,pos,af,gd⟩ (yielded ops a.tmps)=false:=by rfl) (hS:S w:=by assumption)
    (hp:∀ p:Act->Prop,p a'->p (a.put (some d) undef):=by intro p h;(try simp only [Act.put,Pf,Pi,Pj]);exact h):wpAnyH P md ops Q S (fuel+1) QZ a w:=by
  exact wpAnyH_take hi hs hf hr hQ (Or.inr ⟨hw,rfl⟩) hS (hp (fun x=>wpAnyH P md ops Q S fuel (QZ.setIfInBounds i true) x w) h)
end
end Go.Proofs.YthcafdfdglfabaaGreatDoor
