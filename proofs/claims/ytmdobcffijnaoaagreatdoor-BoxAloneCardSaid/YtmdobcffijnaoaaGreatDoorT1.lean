/- Steps of a region that draws, told briefly: the rest. Conditions: none. -/
import Derived.Test.YtmdobcffijnaoaaGreatDoorC1
namespace Go.Proofs.YtmdobcffijnaoaaGreatDoor
open Go.RowKit
set_option linter.unusedVariables false
set_option linter.unusedSimpArgs false

theorem hidQ {P:Program} {n:Nat} {args:Array Value} {w:World} {R:Ending→World→Prop} (k:∀ Q:Ending→World→Prop,Hid (∀ e w',R e w'→Q e w')→Calls P n args w Q):Calls P n args w R:=k _ (Lib.hid fun _ _ h=>h)
theorem rowq {w w':World} (h:Only [] w w') {g:Nat} {o:Obj} (hr:w.heap[g]?=some o):w'.heap[g]?=some o:=(h.block g (Array.getElem?_eq_some_iff.1 hr).1 (by simp)).trans hr
theorem boxes3 (w:World) (a b c:Obj):Only [] w (((w.alloc a).alloc b).alloc c)∧Hid ((((w.alloc a).alloc b).alloc c).heap[w.heap.size]?=some a)∧Hid ((((w.alloc a).alloc b).alloc c).heap[w.heap.size+1]?=some b)∧Hid ((((w.alloc a).alloc b).alloc c).heap[w.heap.size+1+1]?=some c)∧Hid ((((w.alloc a).alloc b).alloc c).heap.size=w.heap.size+1+1+1) :=
  ⟨((Only.new w a).alloc b).alloc c,Lib.hid (rowq (((Only.new ((w.alloc a)) b).alloc c)) (heap_alloc_new w _)),Lib.hid (rowq ((Only.new (((w.alloc a).alloc b)) c)) (heap_alloc_new' (by simp))),Lib.hid (heap_alloc_new' (by simp)),Lib.hid (by simp)⟩
theorem cat {w:World} {g i:Nat} {cs:Array Value} {t:TypeId} {fr:Nat×Nat} {v:Value} (h:w.heap[g]?=some (.cells cs t fr)) (hv:cs[i]?=some v):w.cell? ⟨g,i,none⟩=some v:=by rw [cell_of_row _ _ _ _ _ _ h];exact hv
section
variable {P:Program} {md:Region.Mode} {ops:Array Oper} {Q:Exit→Act→World→Prop} {S:World→Prop}
/-- an operation of a region is taken: its value by a proof of one's own -/
theorem tkw {fuel:Nat} {listed:Array Bool} {a a':Act} {w:World} {op:Op} {ty:TypeId} {pos:String} {af:Array Edge} {gd:Option (Nat×Bool)} {v:Value} (i d:Nat)
    (hy:ops[i]?=some ⟨some d,op,ty,pos,af,gd⟩∧∀ w,S w→(execOp a.eval ⟨some d,op,ty,pos,af,gd⟩).run P w=.ok (.value v) w)
    (h:wpAnyH P md ops Q S fuel (listed.setIfInBounds i true) a' w)
    (hs:Region.noSelect ops=true:=by kernel_rfl) (hf:Region.free md ops listed i=true:=by kernel_rfl) (hr:(Region.ready md ops listed).contains i=true:=by kernel_rfl)
    (hQ:∀ c a w,Q (.panic c) (a.put (some d) v) w→Q (.panic c) a w:=by exact fun _ _ _ h=>h)
    (hw:Region.wanted ⟨some d,op,ty,pos,af,gd⟩ (yielded ops a.tmps)=true:=by rfl) (hS:S w:=by assumption)
    (hp:∀ p:Act→Prop,p a'→p (a.put (some d) v):=by intro p h;(try simp only [Act.put,List.setIfInBounds_toArray,List.set_cons_zero,List.set_cons_succ]);exact h):wpAnyH P md ops Q S (fuel+1) listed a w:=by
  exact wpAnyH_take hy.1 hs hf hr hQ (Or.inl ⟨hw,hy.2⟩) hS (hp (fun x=>wpAnyH P md ops Q S fuel (listed.setIfInBounds i true) x w) h)
/-- the same, its value computed -/
theorem tk {fuel:Nat} {listed:Array Bool} {a a':Act} {w:World} {op:Op} {ty:TypeId} {pos:String} {af:Array Edge} {gd:Option (Nat×Bool)} {v:Value} (i d:Nat)
    (h:wpAnyH P md ops Q S fuel (listed.setIfInBounds i true) a' w)
    (hy:ops[i]?=some ⟨some d,op,ty,pos,af,gd⟩∧∀ w,S w→(execOp a.eval ⟨some d,op,ty,pos,af,gd⟩).run P w=.ok (.value v) w:=by refine ⟨rfl,?_⟩;intro wz hSw;(try dsimp only at hSw);(repeat (have hS0:=And.left hSw;replace hSw:=And.right hSw));go_simp;try with_reducible rfl)
    (hs:Region.noSelect ops=true:=by kernel_rfl) (hf:Region.free md ops listed i=true:=by kernel_rfl) (hr:(Region.ready md ops listed).contains i=true:=by kernel_rfl)
    (hQ:∀ c a w,Q (.panic c) (a.put (some d) v) w→Q (.panic c) a w:=by exact fun _ _ _ h=>h)
    (hw:Region.wanted ⟨some d,op,ty,pos,af,gd⟩ (yielded ops a.tmps)=true:=by rfl) (hS:S w:=by assumption)
    (hp:∀ p:Act→Prop,p a'→p (a.put (some d) v):=by intro p h;(try simp only [Act.put,List.setIfInBounds_toArray,List.set_cons_zero,List.set_cons_succ]);exact h):wpAnyH P md ops Q S (fuel+1) listed a w:=tkw i d hy h hs hf hr hQ hw hS hp
/-- an operation that is not wanted -/
theorem tkn {fuel:Nat} {listed:Array Bool} {a a':Act} {w:World} {op:Op} {ty:TypeId} {pos:String} {af:Array Edge} {gd:Option (Nat×Bool)} (i d:Nat)
    (h:wpAnyH P md ops Q S fuel (listed.setIfInBounds i true) a' w) (hi:ops[i]?=some ⟨some d,op,ty,pos,af,gd⟩:=by rfl)
    (hs:Region.noSelect ops=true:=by kernel_rfl) (hf:Region.free md ops listed i=true:=by kernel_rfl) (hr:(Region.ready md ops listed).contains i=true:=by kernel_rfl)
    (hQ:∀ c a w,Q (.panic c) (a.put (some d) undef) w→Q (.panic c) a w:=by exact fun _ _ _ h=>h)
    (hw:Region.wanted ⟨some d,op,ty,pos,af,gd⟩ (yielded ops a.tmps)=false:=by rfl) (hS:S w:=by assumption)
    (hp:∀ p:Act→Prop,p a'→p (a.put (some d) undef):=by intro p h;(try simp only [Act.put,List.setIfInBounds_toArray,List.set_cons_zero,List.set_cons_succ]);exact h):wpAnyH P md ops Q S (fuel+1) listed a w:=by
  exact wpAnyH_take hi hs hf hr hQ (Or.inr ⟨hw,rfl⟩) hS (hp (fun x=>wpAnyH P md ops Q S fuel (listed.setIfInBounds i true) x w) h)
/-- one of those that are ready comes up -/
theorem rdc {fuel:Nat} {listed:Array Bool} {a:Act} {w:World} {op:Op} {ty:TypeId} {pos:String} {af:Array Edge} {gd:Option (Nat×Bool)} {rs:List Nat} (i d:Nat)
    (h:∀ K':Act→World→Prop,Shut (∀ a w,S w→(S w→wpAnyH P md ops Q S fuel (listed.setIfInBounds i true) a w)→K' a w)→if Region.wanted ⟨some d,op,ty,pos,af,gd⟩ (yielded ops a.tmps)=true then Oper.wp P ⟨some d,op,ty,pos,af,gd⟩ a w K' Q else K' (a.put (some d) undef) w)
    (hs:AllReadyH P md ops Q S fuel listed a w rs) (ho:ops[i]?=some ⟨some d,op,ty,pos,af,gd⟩:=by rfl):AllReadyH P md ops Q S fuel listed a w (i :: rs):=AllReadyH.cons ho h hs
theorem rdn {fuel:Nat} {listed:Array Bool} {a:Act} {w:World} {op:Op} {ty:TypeId} {pos:String} {af:Array Edge} {gd:Option (Nat×Bool)} {rs:List Nat} (i:Nat)
    (h:∀ K':Act→World→Prop,Shut (∀ a w,S w→(S w→wpAnyH P md ops Q S fuel (listed.setIfInBounds i true) a w)→K' a w)→if Region.wanted ⟨none,op,ty,pos,af,gd⟩ (yielded ops a.tmps)=true then Oper.wp P ⟨none,op,ty,pos,af,gd⟩ a w K' Q else K' (a.put none undef) w)
    (hs:AllReadyH P md ops Q S fuel listed a w rs) (ho:ops[i]?=some ⟨none,op,ty,pos,af,gd⟩:=by rfl):AllReadyH P md ops Q S fuel listed a w (i :: rs):=AllReadyH.cons ho h hs
theorem rdy {fuel:Nat} {listed:Array Bool} {a:Act} {w:World} {i:Nat} {rs:List Nat} (h:AllReadyH P md ops Q S fuel listed a w (i :: rs)) (hr:Region.ready md ops listed=i :: rs:=by kernel_rfl):wpAnyH P md ops Q S (fuel+1) listed a w:=wpAnyH_ready hr (by simp) h
end
end Go.Proofs.YtmdobcffijnaoaaGreatDoor


