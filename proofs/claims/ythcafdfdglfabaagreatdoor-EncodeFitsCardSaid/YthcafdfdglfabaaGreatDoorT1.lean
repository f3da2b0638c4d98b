/- Steps of a region that draws, told briefly: the rest. Conditions: none. -/
import Derived.Test.YthcafdfdglfabaaGreatDoorC1
namespace Go.Proofs.YthcafdfdglfabaaGreatDoor
open Go.RowKit
set_option linter.unusedVariables false
set_option linter.unusedSimpArgs false
theorem uO (w:World) (a b c d:Obj):ae [] w ((((w.alloc a).alloc b).alloc c).alloc d)/\Hid (((((w.alloc a).alloc b).alloc c).alloc d).heap[w.heap.size]?=some a)/\Hid (((((w.alloc a).alloc b).alloc c).alloc d).heap[w.heap.size+1]?=some b)/\Hid (((((w.alloc a).alloc b).alloc c).alloc d).heap[w.heap.size+1+1]?=some c)/\Hid (((((w.alloc a).alloc b).alloc c).alloc d).heap[w.heap.size+1+1+1]?=some d)/\Hid (((((w.alloc a).alloc b).alloc c).alloc d).heap.size=w.heap.size+1+1+1+1) :=
  ⟨(((ae.new w a).alloc b).alloc c).alloc d,Lib.hid (nt ((((ae.new ((w.alloc a)) b).alloc c).alloc d)) (heap_alloc_new w _)),Lib.hid (nt (((ae.new (((w.alloc a).alloc b)) c).alloc d)) (ak Mg)),Lib.hid (nt ((ae.new ((((w.alloc a).alloc b).alloc c)) d)) (ak Mg)),Lib.hid (ak Mg),Lib.hid Mg⟩
theorem cat {w:World} {g i:Nat} {cs:Array Value} {t:TypeId} {fr:Nat×Nat} {v:Value} (h:w.heap[g]?=some (.cells cs t fr)) (hv:cs[i]?=some v):w.cell? ⟨g,i,none⟩=some v:=by rw [cell_of_row _ _ _ _ _ _ h];exact hv
section
variable {P:Program} {md:Region.Mode} {ops:Array Oper} {Q:Exit->Act->World->Prop} {S:World->Prop}
theorem tkn {fuel:Nat} {Nw:Array Bool} {a a':Act} {w:World} {op:Op} {ty:TypeId} {pos:String} {af:Array Edge} {gd:Option (Nat×Bool)} (i d:Nat)
    (h:wpAnyH P md ops Q S fuel (Nw.setIfInBounds i true) a' w) (hi:ops[i]?=some ⟨some d,op,ty,pos,af,gd⟩:=by rfl)
    (hs:Region.noSelect ops=true:=by kernel_rfl) (hf:Region.free md ops Nw i=true:=by kernel_rfl) (hr:(Region.ready md ops Nw).contains i=true:=by kernel_rfl)
    (hQ:∀ c a w,Q (.panic c) (a.put (some d) undef) w->Q (.panic c) a w:=by exact fun _ _ _ h=>h)
    (hw:Region.wanted ⟨some d,op,ty,pos,af,gd⟩ (yielded ops a.tmps)=false:=by rfl) (hS:S w:=by assumption)
    (hp:∀ p:Act->Prop,p a'->p (a.put (some d) undef):=by intro p h;(try simp only [Act.put,Lg,Lj,Lk]);exact h):wpAnyH P md ops Q S (fuel+1) Nw a w:=by
  exact wpAnyH_take hi hs hf hr hQ (Or.inr ⟨hw,rfl⟩) hS (hp (fun x=>wpAnyH P md ops Q S fuel (Nw.setIfInBounds i true) x w) h)
end
end Go.Proofs.YthcafdfdglfabaaGreatDoor
