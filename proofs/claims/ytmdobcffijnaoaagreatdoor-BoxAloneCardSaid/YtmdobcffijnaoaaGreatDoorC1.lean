/- Joined texts: Base, Small, Put, Rows2, VbvA, Err, Cmp. Conditions: each part names its own. -/
import Derived.Test.YtmdobcffijnaoaaGreatDoorProg
import Derived.WalkKit
import Derived.WalkSpells
import Derived.WalkLawsBesides
import Derived.Maps.AppendAt
import Derived.Deep.AppendLies
import Derived.Deep.QuietTactic
import Derived.BigQuiet
import Derived.Lib.Hide
import Derived.Deep.RegionHeld3
namespace Go.Proofs.YtmdobcffijnaoaaGreatDoor
open Go.RowKit
set_option linter.unusedVariables false
set_option linter.unusedSimpArgs false
set_option maxRecDepth 100000
set_option maxHeartbeats 16000000
theorem lh {p:Prop} (h:p):Hid p:=Lib.hid h
theorem mSg {α:Type} {a b:α}:a∈[b]↔a=b:=List.mem_singleton
/-! ### what may have been written -/
/-- Of the blocks that were there, only those of the list S may have changed. -/
structure Only (S:List Nat) (w w':World):Prop where
 os:w'.os=w.os
 tape:w'.tape=w.tape
 output:w'.output=w.output
 size:w.heap.size≤w'.heap.size
 block:∀ k,k<w.heap.size→k∉S→w'.heap[k]?=w.heap[k]?
section
variable {S T U:List Nat} {w w' a b c:World}
theorem Only.refl (S:List Nat) (w:World):Only S w w:=⟨rfl,rfl,rfl,Nat.le_refl _,fun _ _ _=>rfl⟩
theorem Only.trans (h:Only S a b) (k:Only T b c) (hS:∀ g∈S,g<a.heap.size→g∈U) (hT:∀ g∈T,g<a.heap.size→g∈U):Only U a c :=
 ⟨k.os.trans h.os,k.tape.trans h.tape,k.output.trans h.output,Nat.le_trans h.size k.size,fun i hi hn =>
  (k.block i (Nat.lt_of_lt_of_le hi h.size) (fun e=>hn (hT i e hi))).trans (h.block i hi (fun e=>hn (hS i e hi)))⟩
theorem Only.mono (h:Only S a b) (hS:∀ g∈S,g<a.heap.size→g∈U):Only U a b:=h.trans (Only.refl [] b) hS (by simp)
theorem Only.of_below (h:Below w.heap.size w w'):Only S w w':=⟨h.os,h.tape,h.output,h.size,fun k hk _=>h.block k hk⟩
theorem Only.of_grown {row:Option Nat} (h:w.grownBy w' row):Only row.toList w w' :=
 ⟨h.os,h.tape,h.output,h.size,fun k hk hn=>h.block k hk (fun e=>hn (by cases row <;> simp_all))⟩
theorem Only.below {B:Nat} (h:Only S w w') (hB:B≤w.heap.size) (hS:∀ g∈S,B≤g):Below B w w' :=
 ⟨h.os,h.tape,h.output,h.size,fun k hk=>h.block k (by omega) (fun e=>by have:=hS k e;omega)⟩
theorem Only.quiet (h:Only [] w w'):Below w.heap.size w w':=h.below (Nat.le_refl _) (by simp)
theorem Only.alloc (h:Only S a w) (o:Obj):Only S a (w.alloc o) :=
 h.trans (T:=[]) (Only.of_below ((Below.refl _ _).alloc (Nat.le_refl _) o)) (fun _ h _=>h) (by simp)
theorem Only.drew (h:Only S a w):Only S a w.drew:=⟨h.os,h.tape,h.output,h.size,h.block⟩
theorem Only.drewN (h:Only S a w) (n:Nat):Only S a (w.drewN n):=⟨h.os,h.tape,h.output,h.size,h.block⟩
theorem Only.setCell (h:Only S a w) {p:Addr} (hp:p.block<a.heap.size→p.block∈S) (u:Value):Only S a (w.setCell p u) :=
 ⟨h.os,h.tape,h.output,by simpa [World.setCell] using h.size,fun i hi hne=>(Below.heap_setCell w p u i (by
  rintro rfl;exact hne (hp hi))).trans (h.block i hi hne)⟩
theorem Only.cell (h:Only S w w') {p:Addr} {v:Value} (hc:w.cell? p=some v) (hn:p.block∉S):w'.cell? p=some v :=
 (World.cell?_of_block (h.block p.block (block_lt_of_cell hc) hn)).trans hc
end
theorem Only.q {a b c:World} (h:Only [] a b) (k:Only [] b c):Only [] a c:=h.trans k (by simp) (by simp)
theorem Only.new (w:World) (o:Obj):Only [] w (w.alloc o):=(Only.refl _ _).alloc _
/-! ### a slice that reads as a list of cells -/
def Cells (size lo hi:Nat) (w:World) (v:Value) (n:Nat) (xs:List Value):Prop :=
 xs.length=n*size∧∃ (a:Option Addr) (cap:Nat),v=.slice a n cap∧n≤cap∧cap≤maxLen ∧
  (0<n→∃ b off,a=some ⟨b,off,none⟩∧lo≤b∧b<hi∧∀ j u,xs[j]?=some u→w.cell? ⟨b,off+j,none⟩=some u)
section
variable {size lo hi lo' hi' n:Nat} {w w':World} {v:Value} {xs:List Value} {S:List Nat}
theorem Cells.only (h:Cells size lo hi w v n xs) (o:Only S w w') (hS:∀ g∈S,g<lo∨hi≤g):Cells size lo hi w' v n xs:=by
 obtain ⟨h1,a,cap,h2,h3,h4,h5⟩:=h
 refine ⟨h1,a,cap,h2,h3,h4,fun hn=>?_⟩
 obtain ⟨b,off,e,hl,hh,hc⟩:=h5 hn
 exact ⟨b,off,e,hl,hh,fun j u hu=>o.cell (hc j u hu) (fun hm=>by have:=hS _ hm;simp at this;omega)⟩
theorem Cells.mono (h:Cells size lo hi w v n xs) (hl:lo'≤lo) (hh:hi≤hi'):Cells size lo' hi' w v n xs:=by
 obtain ⟨h1,a,cap,h2,h3,h4,h5⟩:=h
 refine ⟨h1,a,cap,h2,h3,h4,fun hn=>?_⟩
 obtain ⟨b,off,e,hl',hh',hc⟩:=h5 hn
 exact ⟨b,off,e,by omega,by omega,hc⟩
theorem Cells.nil (size lo hi:Nat) (w:World):Cells size lo hi w (.slice none 0 0) 0 [] :=
 ⟨by simp,none,0,rfl,Nat.le_refl _,by simp,fun h=>absurd h (by omega)⟩
theorem Cells.of_own {base:Nat} {e:TypeId} (h:w.ownsRow base e size v n xs):Cells size base w.heap.size w v n xs:=by
 obtain ⟨h1,h2⟩:=h
 refine ⟨h1,?_⟩
 rcases h2 with ⟨rfl,rfl⟩ | ⟨g,cap,cur,rfl,hb,hg,hn,hm,hcs,ht⟩
 ·exact ⟨none,0,rfl,Nat.le_refl _,by simp,fun h=>absurd h (by omega)⟩
 ·refine ⟨some ⟨g,0,none⟩,cap,rfl,hn,hm,fun _=>⟨g,0,rfl,hb,(Array.getElem?_eq_some_iff.1 hg).1,fun j u hu=>?_⟩⟩
  rw [cell_of_row w g (0+j) cur e (0,0) hg]
  rw [← ht,List.getElem?_take] at hu
  split at hu
  ·simpa using hu
  ·cases hu
theorem Cells.len_le (h:Cells size lo hi w v n xs):n≤maxLen:=by
 obtain ⟨_,a,cap,_,h3,h4,_⟩:=h;omega
end
/-! ### integers -/
/-- Does a number fit its kind? -/
def InK:IntKind→Int→Prop
 | .u8,x=>0≤x∧x≤255
 | .i64,x=>-9223372036854775808≤x∧x≤9223372036854775807
 | .u32,x=>0≤x∧x≤4294967295
 | .u64,x=>0≤x∧x≤18446744073709551615
 | _,_=>True
/-- A slice that reads as a list of integers. -/
def Ints (k:IntKind) (lo hi:Nat) (w:World) (v:Value) (l:List Int):Prop :=
 Cells 1 lo hi w v l.length (l.map (Value.int k))∧∀ x∈l,InK k x
/-- A slice of the call's own that reads as a list of integers. -/
def Own (k:IntKind) (e:TypeId) (base:Nat) (w:World) (v:Value) (l:List Int):Prop :=
 w.ownsRow base e 1 v l.length (l.map (Value.int k))∧∀ x∈l,InK k x
section
variable {k:IntKind} {e:TypeId} {lo hi lo' hi' base:Nat} {w w':World} {v:Value} {l:List Int} {S:List Nat}
theorem Ints.only (h:Ints k lo hi w v l) (o:Only S w w') (hS:∀ g∈S,g<lo∨hi≤g):Ints k lo hi w' v l:=⟨h.1.only o hS,h.2⟩
theorem Ints.quiet (h:Ints k lo hi w v l) (o:Only [] w w'):Ints k lo hi w' v l:=⟨h.1.only o (by simp),h.2⟩
theorem Ints.mono (h:Ints k lo hi w v l) (hl:lo'≤lo) (hh:hi≤hi'):Ints k lo' hi' w v l:=⟨h.1.mono hl hh,h.2⟩
theorem Ints.nil (k:IntKind) (lo hi:Nat) (w:World):Ints k lo hi w (.slice none 0 0) []:=⟨Cells.nil _ _ _ _,by simp⟩
theorem Ints.open (h:Ints k lo hi w v l):∃ (a:Option Addr) (cap:Nat),v=.slice a l.length cap∧l.length≤cap∧cap≤maxLen ∧
  (∀ i,i<l.length→∃ b off,a=some ⟨b,off,none⟩∧lo≤b∧b<hi) ∧
  ∀ b off,a=some ⟨b,off,none⟩→∀ i,i<l.length→w.cell? ⟨b,off+i,none⟩=some (.int k (l.getD i 0)):=by
 obtain ⟨⟨_,a,cap,h2,h3,h4,h5⟩,_⟩:=h
 refine ⟨a,cap,h2,h3,h4,fun i hi=>?_,fun b off e i hi=>?_⟩
 ·obtain ⟨b,off,e,x,y,_⟩:=h5 (by omega)
  exact ⟨b,off,e,x,y⟩
 ·obtain ⟨b',off',e',x,y,hc⟩:=h5 (by omega)
  rw [e] at e'
  injection e' with e'
  injection e' with e1 e2
  subst e1;subst e2
  refine hc i _ ?_
  simp [List.getElem?_eq_getElem hi]
theorem Ints.at (h:Ints k lo hi w v l) {i:Nat} (hi':i<l.length):∃ b off cap,v=.slice (some ⟨b,off,none⟩) l.length cap∧lo≤b∧b<hi ∧
  w.cell? ⟨b,off+i,none⟩=some (.int k (l.getD i 0)):=by
 obtain ⟨a,cap,rfl,_,_,h1,h2⟩:=h.open
 obtain ⟨b,off,rfl,x,y⟩:=h1 i hi'
 exact ⟨b,off,cap,rfl,x,y,h2 b off rfl i hi'⟩
theorem Ints.range (h:Ints k lo hi w v l) {i:Nat} (hi':i<l.length):InK k (l.getD i 0):=by
 refine h.2 _ ?_
 simp [hi']
theorem Own.ints (h:Own k e base w v l):Ints k base w.heap.size w v l:=⟨Cells.of_own h.1,h.2⟩
theorem Own.nil (k:IntKind) (e:TypeId) (base:Nat) (w:World):Own k e base w (.slice none 0 0) []:=⟨World.ownsRow_nil w base e 1,by simp⟩
end
section
variable {size base n:Nat} {e:TypeId} {w w':World} {v:Value} {xs:List Value} {S:List Nat} {k:IntKind} {l:List Int}
theorem owns_only (h:w.ownsRow base e size v n xs) (o:Only S w w') (hS:∀ g∈S,v.ownBlock≠some g):w'.ownsRow base e size v n xs:=by
 refine ⟨h.1,?_⟩
 rcases h.2 with hn | ⟨g,cap,cur,rfl,hb,hgg,rest⟩
 ·exact .inl hn
 ·refine .inr ⟨g,cap,cur,rfl,hb,?_,rest⟩
  rw [o.block g (Array.getElem?_eq_some_iff.1 hgg).1 (fun hm=>hS g hm rfl)]
  exact hgg
theorem owns_base {base':Nat} (h:w.ownsRow base e size v n xs) (hb:base'≤base):w.ownsRow base' e size v n xs:=by
 refine ⟨h.1,?_⟩
 rcases h.2 with hn | ⟨g,cap,cur,rfl,hb',rest⟩
 ·exact .inl hn
 ·exact .inr ⟨g,cap,cur,rfl,by omega,rest⟩
theorem Own.only (h:Own k e base w v l) (o:Only S w w') (hS:∀ g∈S,v.ownBlock≠some g):Own k e base w' v l:=⟨owns_only h.1 o hS,h.2⟩
theorem Own.quiet (h:Own k e base w v l) (o:Only [] w w'):Own k e base w' v l:=h.only o (by simp)
theorem Own.lower {base':Nat} (h:Own k e base w v l) (hb:base'≤base):Own k e base' w v l:=⟨owns_base h.1 hb,h.2⟩
/-- where an own row lies -/
theorem Own.at (h:Own k e base w v l):∀ g,v.ownBlock=some g→base≤g∧g<w.heap.size:=h.1.lt
end
/-! ### a row that grows -/
/-- From w to w' the row of bv has grown into the row of v'; nothing else that was there has changed. -/
structure Acc (bv:Value) (w:World) (v':Value) (w':World):Prop where
 only:Only bv.ownBlock.toList w w'
 at_:v'.ownBlock=bv.ownBlock∨∀ g,v'.ownBlock=some g→w.heap.size≤g
section
variable {a b c:Value} {w w' w'':World} {S:List Nat}
theorem Acc.refl (a:Value) (w:World):Acc a w a w:=⟨Only.refl _ _,.inl rfl⟩
theorem Acc.trans (h:Acc a w b w') (k:Acc b w' c w''):Acc a w c w'':=by
 have hsz:=h.only.size
 refine ⟨h.only.trans k.only (fun g hg _=>hg) (fun g hg hlt=>?_),?_⟩
 ·rcases h.at_ with e | e
  ·rw [← e];exact hg
  ·have:b.ownBlock=some g:=by simpa using hg
   have:=e g this
   omega
 ·rcases k.at_ with e | e
  ·rcases h.at_ with e' | e'
   ·exact .inl (e.trans e')
   ·refine .inr (fun g hg=>e' g ?_)
    rw [← e];exact hg
  ·exact .inr (fun g hg=>by have:=e g hg;omega)
theorem Acc.quiet (h:Only [] w w'):Acc a w a w':=⟨h.mono (by simp),.inl rfl⟩
theorem Acc.then (h:Acc a w b w') (k:Only [] w' w''):Acc a w b w'':=h.trans (Acc.quiet k)
/-- Seen from an elder world: a row that did not lie there. -/
theorem Acc.from_nil (h:Acc a w b w') (ha:a.ownBlock=none):Only [] w w':=h.only.mono (by rw [ha];simp)
theorem Acc.base {B:Nat} (h:Acc a w b w') (ha:∀ g,a.ownBlock=some g→B≤g) (hB:B≤w.heap.size):∀ g,b.ownBlock=some g→B≤g:=by
 intro g hg
 rcases h.at_ with e | e
 ·exact ha g (e ▸ hg)
 ·have:=e g hg;omega
end
/-- every row of v lies from B on -/
def From (B:Nat) (v:Value):Prop:=∀ g,v.ownBlock=some g→B≤g
theorem From.lit {B g n c:Nat} (h:B≤g):From B (.slice (some ⟨g,0,none⟩) n c):=by intro x hx;simp [Value.ownBlock] at hx;omega
theorem From.nil (B:Nat):From B (.slice none 0 0):=by intro x hx;simp [Value.ownBlock] at hx
theorem Acc.from_ {a b:Value} {w w':World} {B:Nat} (h:Acc a w b w') (ha:From B a) (hB:B≤w.heap.size):From B b:=h.base ha hB
theorem Acc.cell {a b:Value} {w w':World} {B:Nat} (h:Acc a w b w') (ha:From B a) {p:Addr} {v:Value} (hc:w.cell? p=some v) (hp:p.block<B):w'.cell? p=some v :=
 h.only.cell hc (fun hm=>by have:=ha p.block (by simpa using hm);omega)
theorem Only.acc {a b:Value} {w0 w w':World} (h:Only [] w0 w) (k:Acc a w b w') (ha:From w0.heap.size a):Only [] w0 w' :=
 h.trans k.only (by simp) (fun g hg hlt=>by have:=ha g (by simpa using hg);omega)
/-! ### append onto an own row -/
/-- What the walk must know of a slice type t, its elements' type e. -/
structure Elem (P:Program) (t e:TypeId) (z:Value) (size bytes:Nat):Prop where
 ut:P.underlying t=some (.slice e)
 inf:∃ i,P.info? e=some i∧i.zero=some z∧i.size=size∧i.bytes=bytes
 zs:z.cells.size=size
 pos:0<size
 bp:0<bytes
theorem Elem.mk' {P:Program} {t e:TypeId} {z:Value} {size bytes:Nat} (ut:P.underlying t=some (.slice e))
  (h:(P.info? e).map (fun i=>(i.zero,i.size,i.bytes))=some (some z,size,bytes)) (zs:z.cells.size=size) (pos:0<size) (bp:0<bytes):Elem P t e z size bytes:=by
 obtain ⟨i,h1,h2,h3,h4⟩:=info_parts h
 exact ⟨ut,⟨i,h1,h2,h3,h4⟩,zs,pos,bp⟩
section
variable {P:Program}
theorem run_append_cells {w:World} {t ty e:TypeId} {z:Value} {size bytes base lo hi n m:Nat} {v sv:Value} {xs news:List Value} (E:Elem P t e z size bytes)
  (hown:w.ownsRow base e size v n xs) (hs:Cells size lo hi w sv m news) (h1:∀ u∈news,u.oneCell'=true)
  (h63:n+m≤maxLen) (hbytes:(n+m)*bytes≤140737488355328) (hbase:base≤w.heap.size) :
  ∃ v' w',(Builtin.append_ #[t,t] ty #[v,sv]).run P w=.ok v' w'∧w'.ownsRow base e size v' (n+m) (xs ++ news)∧Only v.ownBlock.toList w w' ∧
   (v'.ownBlock=v.ownBlock∨v'.ownBlock=some w.heap.size):=by
 obtain ⟨i,hi,hz,hsize,hby⟩:=E.inf
 obtain ⟨hl,A,cap,rfl,_,_,hc⟩:=hs
 have hnil:∀ c,m=0→∃ v' w',(Builtin.append_ #[t,t] ty #[v,.slice none m c]).run P w=.ok v' w'∧w'.ownsRow base e size v' (n+m) (xs ++ news)∧Only v.ownBlock.toList w w' ∧
   (v'.ownBlock=v.ownBlock∨v'.ownBlock=some w.heap.size):=by
  rintro c rfl
  have hn:news=[]:=List.eq_nil_of_length_eq_zero (by simpa using hl)
  subst hn
  refine ⟨v,w,?_,by simpa using hown,Only.refl _ _,.inl rfl⟩
  rcases hown.2 with ⟨rfl,rfl⟩ | ⟨g,cap,cur,rfl,_,_,hnc,_⟩
  ·simp [Builtin.append_,run_underlying E.ut,sizeOf,typeInfo,hi,Builtin.lenOf,Builtin.firstCells]
  ·simp [Builtin.append_,run_underlying E.ut,sizeOf,typeInfo,hi,Builtin.lenOf,Builtin.firstCells,hnc,storeCells]
 rcases A with _ | ad
 ·have hm:m=0:=by
   rcases Nat.eq_zero_or_pos m with h0 | h0
   ·exact h0
   ·obtain ⟨b,off,h,_⟩:=hc h0
    cases h
  exact hnil cap hm
 ·have hcells:∀ j u,news[j]?=some u→w.cell? (ad.add j)=some u:=by
   intro j u hu
   rcases Nat.eq_zero_or_pos m with h0 | h0
   ·subst h0
    have hn:news=[]:=List.eq_nil_of_length_eq_zero (by simpa using hl)
    subst hn
    simp at hu
   ·obtain ⟨b,off,h,_,_,hc'⟩:=hc h0
    injection h with h
    subst h
    have:=hc' j u hu
    unfold Addr.add
    split
    ·rename_i hj;subst hj;simpa using this
    ·simpa using this
  obtain ⟨v',w',hrun,h2,h3,_,h5⟩:=run_append_own_at (P:=P) w base t ty e i z size bytes E.ut hi hz hsize hby E.zs E.pos v n xs hown ad m cap news hl hcells h1 h63 hbytes hbase
  exact ⟨v',w',hrun,h2,Only.of_grown h3,h5⟩
theorem wp_append_cells {w:World} {o:Oper} {a:Act} {K:Act→World→Prop} {Q:Exit→Act→World→Prop} (s x:Operand) (t:TypeId)
  (ho:o.op=.call { callee:=.builtin .append,args:=#[s,x],argTypes:=#[t,t] })
  {e:TypeId} {z:Value} {size bytes base lo hi n m:Nat} {v sv:Value} {xs news:List Value} (E:Elem P t e z size bytes)
  (hown:w.ownsRow base e size v n xs) (hv:a.eval s=v) (hs:Cells size lo hi w sv m news) (hx:a.eval x=sv) (h1:∀ u∈news,u.oneCell'=true)
  (h63:n+m≤maxLen) (hbytes:(n+m)*bytes≤140737488355328) (hbase:base≤w.heap.size)
  (h:∀ v' w',w'.ownsRow base e size v' (n+m) (xs ++ news)→Only v.ownBlock.toList w w'→(v'.ownBlock=v.ownBlock∨v'.ownBlock=some w.heap.size)→K (a.put o.dst v') w'):o.wp P a w K Q:=by
 obtain ⟨v',w',hrun,h2,h3,h4⟩:=run_append_cells (P:=P) (ty:=o.type) E hown hs h1 h63 hbytes hbase
 unfold Oper.wp execOp
 simp only [ho,resolve,invoke,builtin,Sem.run_bind,Sem.run_pure,Result.andThen_ok,List.map_toArray,List.map_cons,List.map_nil,hv,hx,hrun]
 exact h v' w' h2 h3 h4
theorem wpList_append_cells {w:World} {ops:Array Oper} {rest:List Oper} {o:Oper} {a:Act} {Q:Exit→Act→World→Prop} (hgd:o.guard=none) (s x:Operand) (t:TypeId)
  (ho:o.op=.call { callee:=.builtin .append,args:=#[s,x],argTypes:=#[t,t] })
  {e:TypeId} {z:Value} {size bytes base lo hi n m:Nat} {v sv:Value} {xs news:List Value} (E:Elem P t e z size bytes)
  (hown:w.ownsRow base e size v n xs) (hv:a.eval s=v) (hs:Cells size lo hi w sv m news) (hx:a.eval x=sv) (h1:∀ u∈news,u.oneCell'=true)
  (h63:n+m≤maxLen) (hbytes:(n+m)*bytes≤140737488355328) (hbase:base≤w.heap.size)
  (h:∀ v' w',w'.ownsRow base e size v' (n+m) (xs ++ news)→Only v.ownBlock.toList w w'→(v'.ownBlock=v.ownBlock∨v'.ownBlock=some w.heap.size)→wpList P ops Q rest (a.put o.dst v') w'):wpList P ops Q (o :: rest) a w :=
 wpList_plain hgd fun _ hK=>wp_append_cells s x t ho E hown hv hs hx h1 h63 hbytes hbase fun v' w' h2 h3 h4=>hK _ _ (h v' w' h2 h3 h4)
/-- the same inside a region that draws its order -/
theorem step_append_cells {w:World} {ops:Array Oper} {o:Oper} {a:Act} {K:Act→World→Prop} {Q:Exit→Act→World→Prop} {E':Prop} (hgd:o.guard=none) (s x:Operand) (t:TypeId)
  (ho:o.op=.call { callee:=.builtin .append,args:=#[s,x],argTypes:=#[t,t] })
  {e:TypeId} {z:Value} {size bytes base lo hi n m:Nat} {v sv:Value} {xs news:List Value} (E:Elem P t e z size bytes)
  (hown:w.ownsRow base e size v n xs) (hv:a.eval s=v) (hs:Cells size lo hi w sv m news) (hx:a.eval x=sv) (h1:∀ u∈news,u.oneCell'=true)
  (h63:n+m≤maxLen) (hbytes:(n+m)*bytes≤140737488355328) (hbase:base≤w.heap.size)
  (h:∀ v' w',w'.ownsRow base e size v' (n+m) (xs ++ news)→Acc v w v' w'→K (a.put o.dst v') w'):if Region.wanted o (yielded ops a.tmps)=true then Oper.wp P o a w K Q else E':=by
 rw [if_pos (by simp [Region.wanted,hgd])]
 exact wp_append_cells s x t ho E hown hv hs hx h1 h63 hbytes hbase fun v' w' h2 h3 h4=>h v' w' h2 ⟨h3,h4.imp id fun e g hg=>by rw [e] at hg;injection hg with hg;omega⟩
/-- append onto an own row of integers. -/
theorem wpList_append_ints {w:World} {ops:Array Oper} {rest:List Oper} {o:Oper} {a:Act} {Q:Exit→Act→World→Prop} (hgd:o.guard=none) (s x:Operand) (t:TypeId)
  (ho:o.op=.call { callee:=.builtin .append,args:=#[s,x],argTypes:=#[t,t] })
  {k:IntKind} {e:TypeId} {z:Value} {bytes base lo hi:Nat} {v sv:Value} {l m:List Int} (E:Elem P t e z 1 bytes)
  (hown:Own k e base w v l) (hv:a.eval s=v) (hs:Ints k lo hi w sv m) (hx:a.eval x=sv)
  (hbytes:(l.length+m.length)*bytes≤140737488355328) (hbase:base≤w.heap.size)
  (h:∀ v' w',Own k e base w' v' (l ++ m)→Acc v w v' w'→wpList P ops Q rest (a.put o.dst v') w'):wpList P ops Q (o :: rest) a w:=by
 have hle:l.length+m.length≤140737488355328:=Nat.le_trans (Nat.le_mul_of_pos_right _ E.bp) hbytes
 refine wpList_append_cells hgd s x t ho E hown.1 hv hs.1 hx (by simp only [List.mem_map];rintro u ⟨x,_,rfl⟩;rfl) (by simp only [maxLen];omega) hbytes hbase fun v' w' h2 h3 h4=>h v' w' ⟨?_,?_⟩ ⟨h3,h4.imp id fun e g hg=>by rw [e] at hg;injection hg with hg;omega⟩
 ·simpa using h2
 ·intro y hy
  rcases List.mem_append.1 hy with hy | hy
  ·exact hown.2 y hy
  ·exact hs.2 y hy
end
/-- The cells of a block that was just made, as integers. -/
theorem ints_new {k:IntKind} {w:World} {t:TypeId} {l:List Int} {vs:Array Value} (hl:vs=(l.map (Value.int k)).toArray) (hm:l.length≤maxLen) (hk:∀ x∈l,InK k x) (n:Nat) (hn:n=l.length) :
  Ints k w.heap.size (w.heap.size+1) (w.alloc (.cells vs t)) (.slice (some ⟨w.heap.size,0,none⟩) n n) l:=by
 subst hn;subst hl
 refine ⟨⟨by simp,some ⟨w.heap.size,0,none⟩,_,rfl,Nat.le_refl _,hm,fun _=>⟨w.heap.size,0,rfl,Nat.le_refl _,Nat.lt_succ_self _,fun j u hu=>?_⟩⟩,hk⟩
 rw [cell_of_row _ _ _ _ _ _ (heap_alloc_new w _)]
 simpa using hu
theorem own_new {k:IntKind} {w:World} {t:TypeId} {l:List Int} {vs:Array Value} (hl:vs=(l.map (Value.int k)).toArray) (hm:l.length≤maxLen) (hk:∀ x∈l,InK k x) (n:Nat) (hn:n=l.length) :
  Own k t w.heap.size (w.alloc (.cells vs t)) (.slice (some ⟨w.heap.size,0,none⟩) n n) l:=by
 subst hn;subst hl
 refine ⟨⟨by simp,.inr ⟨w.heap.size,_,_,rfl,Nat.le_refl _,heap_alloc_new w _,Nat.le_refl _,hm,by simp,by simp [List.take_of_length_le]⟩⟩,hk⟩
/-- The cells of a block that was just made, as cells of a slice. -/
theorem cells_newG {size:Nat} {w:World} {t:TypeId} {vs:Array Value} {g n:Nat} {xs:List Value} (hl:vs.toList=xs) (hn:xs.length=n*size) (hm:n≤maxLen) (hg:w.heap.size=g) :
  Cells size g (g+1) (w.alloc (.cells vs t)) (.slice (some ⟨g,0,none⟩) n n) n xs:=by
 subst hg;subst hl
 refine ⟨hn,some ⟨w.heap.size,0,none⟩,n,rfl,Nat.le_refl _,hm,fun _=>⟨w.heap.size,0,rfl,Nat.le_refl _,Nat.lt_succ_self _,fun j u hu=>?_⟩⟩
 rw [cell_of_row _ _ _ _ _ _ (heap_alloc_new w _)]
 simpa using hu
theorem heap_alloc_new' {w:World} {o:Obj} {g:Nat} (hg:w.heap.size=g):(w.alloc o).heap[g]?=some o:=by subst hg;exact heap_alloc_new w o
/-- own_new and ints_new, the block's number as the walk writes it. -/
theorem own_newG {k:IntKind} {w:World} {t:TypeId} {l:List Int} {vs:Array Value} {g:Nat} (hl:vs=(l.map (Value.int k)).toArray) (hm:l.length≤maxLen) (hk:∀ x∈l,InK k x) (n:Nat) (hn:n=l.length) (hg:w.heap.size=g) :
  Own k t g (w.alloc (.cells vs t)) (.slice (some ⟨g,0,none⟩) n n) l:=by
 subst hg;exact own_new hl hm hk n hn
theorem ints_newG {k:IntKind} {w:World} {t:TypeId} {l:List Int} {vs:Array Value} {g:Nat} (hl:vs=(l.map (Value.int k)).toArray) (hm:l.length≤maxLen) (hk:∀ x∈l,InK k x) (n:Nat) (hn:n=l.length) (hg:w.heap.size=g) :
  Ints k g (g+1) (w.alloc (.cells vs t)) (.slice (some ⟨g,0,none⟩) n n) l:=by
 subst hg;exact ints_new hl hm hk n hn
theorem ret_bool {a b:Bool} (h:a=b):Ending.returned (.bool a)=.returned (.bool b):=by rw [h]
theorem ret_int {k:IntKind} {a b:Int} (h:a=b):Ending.returned (.int k a)=.returned (.int k b):=by rw [h]
def fromB (v l m:Int):Bool:=decide (l≤v) && decide (v≤m)
theorem from_any (v l m:Int) (w:World) :
  Calls Tryz.prog 104 #[.int .i64 v,.int .i64 l,.int .i64 m] w fun e w'=>e=.returned (.bool (fromB v l m))∧w=w':=by
 go_enter Tryz.func104,Tryz.ntmps104
 go_wp2
 all_goals
  go_ret
  exact ⟨ret_bool (by unfold fromB;rw [Bool.eq_iff_iff];simp;try omega),rfl⟩
def sideB (n:Int):Bool:=decide (8≤n∧n≤32∧n % 8=0)
theorem qSmall0 {p:Prop} (h:p:=by
 go_enter Tryz.func55,Tryz.ntmps55
 go_wp2
 all_goals
  go_ret
  exact ⟨ret_bool (by unfold sideB;rw [Bool.eq_iff_iff];simp;try omega),rfl⟩):p:=h
theorem side_any (n:Int) (w:World) :
  Calls Tryz.prog 55 #[.int .i64 n] w fun e w'=>e=.returned (.bool (sideB n))∧w=w':=by
 by_cases h8:8≤n
 ·by_cases h32:n≤32
  all_goals
   exact qSmall0
 ·exact qSmall0
def sampleB (n:Int):Bool:=decide (0≤n∧n≤255)
theorem sample_any (n:Int) (w:World) :
  Calls Tryz.prog 56 #[.int .i64 n] w fun e w'=>e=.returned (.bool (sampleB n))∧w=w':=by
 go_enter Tryz.func56,Tryz.ntmps56
 go_wp2
 all_goals
  go_ret
  exact ⟨ret_bool (by unfold sampleB;rw [Bool.eq_iff_iff];simp;try omega),rfl⟩
def firstB (k:Int):Bool:=decide (k=1∨k=4)
theorem gfirst_any (k:Int) (w:World) :
  Calls Tryz.prog 107 #[.int .i64 k] w fun e w'=>e=.returned (.bool (firstB k))∧w=w':=by
 go_enter Tryz.func107,Tryz.ntmps107
 go_wp2
 all_goals
  go_ret
  exact ⟨ret_bool (by unfold firstB;rw [Bool.eq_iff_iff];simp;try omega),rfl⟩
def kindB (k:Int):Bool:=decide (1≤k∧k≤4)
theorem kind_any (k:Int) (w:World) :
  Calls Tryz.prog 91 #[.int .i64 k] w fun e w'=>e=.returned (.bool (kindB k))∧w=w':=by
 go_enter Tryz.func91,Tryz.ntmps91
 go_wp2
 all_goals
  go_ret
  exact ⟨ret_bool (by unfold kindB;rw [Bool.eq_iff_iff];simp;try omega),rfl⟩
def bareB (k:Int):Bool:=decide (k=3∨k=4)
theorem bare_any (k:Int) (w:World) :
  Calls Tryz.prog 92 #[.int .i64 k] w fun e w'=>e=.returned (.bool (bareB k))∧w=w':=by
 go_enter Tryz.func92,Tryz.ntmps92
 go_wp2
 all_goals
  go_ret
  exact ⟨ret_bool (by unfold bareB;rw [Bool.eq_iff_iff];simp;try omega),rfl⟩
def headB (n f c:Int):Bool:=decide (0≤n∧n<16∧0≤f∧f<16∧1≤c∧c≤16)
theorem ghead_any (n f c:Int) (w:World) :
  Calls Tryz.prog 106 #[.int .i64 n,.agg #[.int .i64 f,.int .i64 c]] w fun e w'=>e=.returned (.bool (headB n f c))∧Only [] w w':=by
 go_enter Tryz.func106,Tryz.ntmps106
 go_wp2
 all_goals
  go_ret
  exact ⟨ret_bool (by unfold headB;rw [Bool.eq_iff_iff];simp;try omega),(Only.refl _ _).alloc _⟩
theorem size_any (n:Int) (w:World) (h:0≤n) (h1:n≤9223372036854775799) :
  Calls Tryz.prog 64 #[.int .i64 n] w fun e w'=>e=.returned (.int .i64 (n+8))∧w=w':=by
 go_enter Tryz.func64,Tryz.ntmps64
 go_wp2
 go_ret
 exact ⟨rfl,rfl⟩
theorem ok_any (c:Int) (x:Value) (w:World) :
  Calls Tryz.prog 20 #[.agg #[.int .i64 c,x]] w fun e w'=>e=.returned (.bool (c == 0))∧Only [] w w':=by
 go_enter Tryz.func20,Tryz.ntmps20
 go_wp2
 go_ret
 exact ⟨rfl,(Only.refl _ _).alloc _⟩
/-- syntax.Cost: eight bytes more than the data. -/
theorem cost_any {lo hi:Nat} {k:Int} {v:Value} {l:List Int} {w:World} (h:Ints .u8 lo hi w v l) (hl:l.length≤9223372036854775799) :
  Calls Tryz.prog 37 #[.agg #[.int .i64 k,v]] w fun e w'=>e=.returned (.int .i64 (l.length+8))∧Only [] w w':=by
 obtain ⟨a,cap,rfl,_⟩:=h.open
 go_enter Tryz.func37,Tryz.ntmps37
 go_wp2_with (go_at_call 64;refine (size_any _ _ (by omega) (by omega)).mono ?_;rintro e w' ⟨rfl,rfl⟩)
 go_ret
 exact ⟨rfl,(Only.refl _ _).alloc _⟩
theorem E8:Elem Tryz.prog 22 5 (.int .u8 0) 1 1:=Elem.mk' Tryz.underlying22 (by kernel_rfl) rfl (by omega) (by omega)
theorem EI:Elem Tryz.prog 48 3 (.int .i64 0) 1 8:=Elem.mk' Tryz.underlying48 (by kernel_rfl) rfl (by omega) (by omega)
/-- n bytes of a number, the highest first. -/
def be (v:Int):Nat→List Int
 | 0=>[]
 | n+1=>v / 2 ^ (8*n) % 256 :: be v n
theorem be_length (v:Int):∀ n,(be v n).length=n
 | 0=>rfl
 | n+1=>by simp [be,be_length v n]
theorem be_range (v:Int):∀ n,∀ x∈be v n,InK .u8 x
 | 0=>by simp [be]
 | n+1=>by
  intro x hx
  simp only [be,List.mem_cons] at hx
  rcases hx with rfl | hx
  ·exact ⟨by omega,by omega⟩
  ·exact be_range v n x hx
theorem put_any {base:Nat} {bv:Value} {l:List Int} (v:Int) (n:Nat) {w:World} (h:Own .u8 5 base w bv l) (hb:base≤w.heap.size) (hn:n≤7) (hl:l.length≤1000000000) :
  Calls Tryz.prog 62 #[bv,.int .i64 v,.int .i64 n] w fun e w'=>∃ v',e=.returned v'∧Own .u8 5 base w' v' (l ++ be v n)∧Acc bv w v' w':=by
 go_enter Tryz.func62,Tryz.ntmps62
 go_wp2
 go_loopw [7,0] (fun k b wr=>∃ j:Nat,j≤n∧k=.int .i64 ((j:Int)-1)∧∃ m,Own .u8 5 base wr b (l ++ m)∧m ++ be v j=be v n∧Acc bv w b wr) (fun k _ _=>(intOf k+1).toNat)
 case atStart=>exact ⟨n,Nat.le_refl _,rfl,[],by simpa using h,by simp,Acc.refl _ _⟩
 case round =>
  obtain ⟨j,hj,rfl,m,hown,hm,ho⟩:=hrel
  have Hm:=lh hm
  have Hl:=lh hl
  clear hm hl
  rcases j with _ | j
  ·go_wp2
   go_ret
   refine ⟨_,rfl,?_,ho⟩
   have:=Hm.out
   simp only [be,List.append_nil] at this
   rw [← this];exact hown
  ·rw [show (((j+1:Nat):Int)-1)=(j:Int) by omega]
   clear h
   have hlm:(l ++ m).length≤1000000007:=by
    have:=congrArg List.length Hm.out
    simp only [List.length_append,be_length] at this ⊢
    have:=Hl.out
    omega
   have Hlm:=lh hlm
   clear hlm
   have hnew:=ints_new (k:=.u8) (w:=wr) (t:=5) (l:=[v / 2 ^ (8*j) % 256]) rfl (by simp [maxLen]) (by simp [InK];omega) 1 rfl
   have hb':base≤(wr.alloc (Obj.cells #[Value.int IntKind.u8 (v / 2 ^ (8*j) % 256)] 5)).heap.size:=by have:=ho.only.size;simp;omega
   go_wp2_with (at_builtin;refine wpList_append_ints rfl (.tmp 14) (.tmp 20) _ rfl E8 (hown.quiet ((Only.refl [] _).alloc _)) rfl hnew rfl ?c1 hb' (fun v1 w1 hown1 ho1=>?_))
   case c1=>have:=Hlm.out;simp only [List.length_append,List.length_cons,List.length_nil] at this ⊢;omega
   go_roundw
   case rel=>exact ⟨j,by omega,by go_num,m ++ [v / 2 ^ (8*j) % 256],by simpa using hown1,by simpa [be] using Hm.out,(ho.then ((Only.refl [] _).alloc _)).trans ho1⟩
   case measure=>simp [intOf]
theorem put2_any {base:Nat} {bv:Value} {l:List Int} (v:Int) {w:World} (h:Own .u8 5 base w bv l) (hb:base≤w.heap.size) (hl:l.length≤1000000000) :
  Calls Tryz.prog 62 #[bv,.int .i64 v,.int .i64 2] w fun e w'=>∃ v',e=.returned v'∧Own .u8 5 base w' v' (l ++ be v 2)∧Acc bv w v' w' :=
 put_any v 2 h hb (by omega) hl
theorem put4_any {base:Nat} {bv:Value} {l:List Int} (v:Int) {w:World} (h:Own .u8 5 base w bv l) (hb:base≤w.heap.size) (hl:l.length≤1000000000) :
  Calls Tryz.prog 62 #[bv,.int .i64 v,.int .i64 4] w fun e w'=>∃ v',e=.returned v'∧Own .u8 5 base w' v' (l ++ be v 4)∧Acc bv w v' w' :=
 put_any v 4 h hb (by omega) hl
/-- A slice of n elements of 'size' cells each: cell j of element i holds f i j. -/
def Rows (size lo hi:Nat) (w:World) (v:Value) (n:Nat) (f:Nat→Nat→Value):Prop :=
 ∃ (a:Option Addr) (cap:Nat),v=.slice a n cap∧n≤cap∧cap≤maxLen ∧
  (0<n→∃ b off,a=some ⟨b,off,none⟩∧lo≤b∧b<hi∧∀ i j,i<n→j<size→w.cell? ⟨b,off+i*size+j,none⟩=some (f i j))
section
variable {size lo hi lo' hi' n:Nat} {w w':World} {v:Value} {f:Nat→Nat→Value} {S:List Nat}
theorem Rows.only (h:Rows size lo hi w v n f) (o:Only S w w') (hS:∀ g∈S,g<lo∨hi≤g):Rows size lo hi w' v n f:=by
 obtain ⟨a,cap,h2,h3,h4,h5⟩:=h
 refine ⟨a,cap,h2,h3,h4,fun hn=>?_⟩
 obtain ⟨b,off,e,hl,hh,hc⟩:=h5 hn
 exact ⟨b,off,e,hl,hh,fun i j hi hj=>o.cell (hc i j hi hj) (fun hm=>by have:=hS _ hm;simp at this;omega)⟩
theorem Rows.mono (h:Rows size lo hi w v n f) (hl:lo'≤lo) (hh:hi≤hi'):Rows size lo' hi' w v n f:=by
 obtain ⟨a,cap,h2,h3,h4,h5⟩:=h
 refine ⟨a,cap,h2,h3,h4,fun hn=>?_⟩
 obtain ⟨b,off,e,hl',hh',hc⟩:=h5 hn
 exact ⟨b,off,e,by omega,by omega,hc⟩
theorem Rows.open (h:Rows size lo hi w v n f):∃ (a:Option Addr) (cap:Nat),v=.slice a n cap∧n≤cap∧cap≤maxLen ∧
  ∀ i,i<n→∃ b off,a=some ⟨b,off,none⟩∧lo≤b∧b<hi∧∀ j,j<size→w.cell? ⟨b,off+i*size+j,none⟩=some (f i j):=by
 obtain ⟨a,cap,h2,h3,h4,h5⟩:=h
 refine ⟨a,cap,h2,h3,h4,fun i hi=>?_⟩
 obtain ⟨b,off,e,hl,hh,hc⟩:=h5 (by omega)
 exact ⟨b,off,e,hl,hh,fun j hj=>hc i j hi hj⟩
/-- An own row, read as rows. -/
theorem Rows.of_own {base:Nat} {e:TypeId} {xs:List Value} (h:w.ownsRow base e size v n xs) (hf:∀ i j,i<n→j<size→xs[i*size+j]?=some (f i j)):Rows size base w.heap.size w v n f:=by
 obtain ⟨h1,a,cap,h2,h3,h4,h5⟩:=Cells.of_own h
 refine ⟨a,cap,h2,h3,h4,fun hn=>?_⟩
 obtain ⟨b,off,e,hl,hh,hc⟩:=h5 hn
 refine ⟨b,off,e,hl,hh,fun i j hi hj=>?_⟩
 have:=hc (i*size+j) _ (hf i j hi hj)
 rwa [← Nat.add_assoc] at this
end
/-! ### coded frames -/
structure Coded where
 kind:Int
 data:List Int
 deriving DecidableEq,Inhabited
def CodedsAt (lo hi:Nat) (w:World) (v:Value) (l:List Coded):Prop :=
 ∃ f,Rows 2 lo hi w v l.length f∧∀ i,i<l.length→f i 0=.int .i64 (l.getD i default).kind∧InK .i64 (l.getD i default).kind∧Ints .u8 lo hi w (f i 1) (l.getD i default).data
/-! ### chunks -/
structure Chunk where
 number:Int
 first:Int
 count:Int
 coded:List Coded
 deriving DecidableEq,Inhabited
def ChunkOk (k:Chunk):Prop:=InK .i64 k.number∧InK .i64 k.first∧InK .i64 k.count
def ChunksAt (lo hi:Nat) (w:World) (v:Value) (l:List Chunk):Prop :=
 ∃ f,Rows 4 lo hi w v l.length f∧∀ i,i<l.length→f i 0=.int .i64 (l.getD i default).number∧f i 1=.int .i64 (l.getD i default).first∧f i 2=.int .i64 (l.getD i default).count ∧
  ChunkOk (l.getD i default)∧CodedsAt lo hi w (f i 3) (l.getD i default).coded
/-! ### entries -/
structure Entry where
 first:Int
 count:Int
 offset:Int
 length:Int
 deriving DecidableEq,Inhabited
def Entry.cells (e:Entry):List Value:=[.int .i64 e.first,.int .i64 e.count,.int .i64 e.offset,.int .i64 e.length]
def entryF (l:List Entry) (i j:Nat):Value:=((l.getD i default).cells).getD j undef
def EntriesAt (lo hi:Nat) (w:World) (v:Value) (l:List Entry):Prop:=Rows 4 lo hi w v l.length (entryF l)
section
variable {lo hi lo' hi':Nat} {w w':World} {v:Value} {S:List Nat}
theorem CodedsAt.only {l:List Coded} (h:CodedsAt lo hi w v l) (o:Only S w w') (hS:∀ g∈S,g<lo∨hi≤g):CodedsAt lo hi w' v l:=by
 obtain ⟨f,h1,h2⟩:=h
 exact ⟨f,h1.only o hS,fun i hi=>⟨(h2 i hi).1,(h2 i hi).2.1,(h2 i hi).2.2.only o hS⟩⟩
theorem CodedsAt.quiet {l:List Coded} (h:CodedsAt lo hi w v l) (o:Only [] w w'):CodedsAt lo hi w' v l:=h.only o (by simp)
theorem CodedsAt.mono {l:List Coded} (h:CodedsAt lo hi w v l) (hl:lo'≤lo) (hh:hi≤hi'):CodedsAt lo' hi' w v l:=by
 obtain ⟨f,h1,h2⟩:=h
 exact ⟨f,h1.mono hl hh,fun i hi=>⟨(h2 i hi).1,(h2 i hi).2.1,(h2 i hi).2.2.mono hl hh⟩⟩
theorem ChunksAt.only {l:List Chunk} (h:ChunksAt lo hi w v l) (o:Only S w w') (hS:∀ g∈S,g<lo∨hi≤g):ChunksAt lo hi w' v l:=by
 obtain ⟨f,h1,h2⟩:=h
 exact ⟨f,h1.only o hS,fun i hi=>⟨(h2 i hi).1,(h2 i hi).2.1,(h2 i hi).2.2.1,(h2 i hi).2.2.2.1,(h2 i hi).2.2.2.2.only o hS⟩⟩
theorem ChunksAt.quiet {l:List Chunk} (h:ChunksAt lo hi w v l) (o:Only [] w w'):ChunksAt lo hi w' v l:=h.only o (by simp)
theorem EntriesAt.only {l:List Entry} (h:EntriesAt lo hi w v l) (o:Only S w w') (hS:∀ g∈S,g<lo∨hi≤g):EntriesAt lo hi w' v l:=Rows.only h o hS
theorem CodedsAt.open {l:List Coded} (h:CodedsAt lo hi w v l):∃ (a:Option Addr) (cap:Nat),v=.slice a l.length cap∧l.length≤cap∧cap≤maxLen ∧
  ∀ i,i<l.length→∃ b off dv,a=some ⟨b,off,none⟩∧lo≤b∧b<hi ∧
   w.cell? ⟨b,off+i*2,none⟩=some (.int .i64 (l.getD i default).kind)∧w.cell? ⟨b,off+i*2+1,none⟩=some dv∧InK .i64 (l.getD i default).kind∧Ints .u8 lo hi w dv (l.getD i default).data:=by
 obtain ⟨f,h1,h2⟩:=h
 obtain ⟨a,cap,rfl,x,y,hc⟩:=h1.open
 refine ⟨a,cap,rfl,x,y,fun i hi=>?_⟩
 obtain ⟨b,off,e,p,q,hj⟩:=hc i hi
 obtain ⟨e0,e1,e2⟩:=h2 i hi
 exact ⟨b,off,f i 1,e,p,q,by rw [← e0];exact hj 0 (by omega),hj 1 (by omega),e1,e2⟩
theorem ChunksAt.open {l:List Chunk} (h:ChunksAt lo hi w v l):∃ (a:Option Addr) (cap:Nat),v=.slice a l.length cap∧l.length≤cap∧cap≤maxLen ∧
  ∀ i,i<l.length→∃ b off cv,a=some ⟨b,off,none⟩∧lo≤b∧b<hi ∧
   w.cell? ⟨b,off+i*4,none⟩=some (.int .i64 (l.getD i default).number)∧w.cell? ⟨b,off+i*4+1,none⟩=some (.int .i64 (l.getD i default).first) ∧
   w.cell? ⟨b,off+i*4+2,none⟩=some (.int .i64 (l.getD i default).count)∧w.cell? ⟨b,off+i*4+3,none⟩=some cv∧ChunkOk (l.getD i default)∧CodedsAt lo hi w cv (l.getD i default).coded:=by
 obtain ⟨f,h1,h2⟩:=h
 obtain ⟨a,cap,rfl,x,y,hc⟩:=h1.open
 refine ⟨a,cap,rfl,x,y,fun i hi=>?_⟩
 obtain ⟨b,off,e,p,q,hj⟩:=hc i hi
 obtain ⟨e0,e1,e2,e3,e4⟩:=h2 i hi
 exact ⟨b,off,f i 3,e,p,q,by rw [← e0];exact hj 0 (by omega),by rw [← e1];exact hj 1 (by omega),by rw [← e2];exact hj 2 (by omega),hj 3 (by omega),e3,e4⟩
theorem EntriesAt.open {l:List Entry} (h:EntriesAt lo hi w v l):∃ (a:Option Addr) (cap:Nat),v=.slice a l.length cap∧l.length≤cap∧cap≤maxLen ∧
  ∀ i,i<l.length→∃ b off,a=some ⟨b,off,none⟩∧lo≤b∧b<hi ∧
   w.cell? ⟨b,off+i*4,none⟩=some (.int .i64 (l.getD i default).first)∧w.cell? ⟨b,off+i*4+1,none⟩=some (.int .i64 (l.getD i default).count) ∧
   w.cell? ⟨b,off+i*4+2,none⟩=some (.int .i64 (l.getD i default).offset)∧w.cell? ⟨b,off+i*4+3,none⟩=some (.int .i64 (l.getD i default).length):=by
 obtain ⟨a,cap,rfl,x,y,hc⟩:=Rows.open h
 refine ⟨a,cap,rfl,x,y,fun i hi=>?_⟩
 obtain ⟨b,off,e,p,q,hj⟩:=hc i hi
 exact ⟨b,off,e,p,q,hj 0 (by omega),hj 1 (by omega),hj 2 (by omega),hj 3 (by omega)⟩
end
structure Cfg where
 qmin:Int
 qmax:Int
 reach:Int
 cut:Int
 gop:Int
 rate:Int
 room:Int
 fill:Int
 deriving DecidableEq
def Cfg.v (c:Cfg):Value:=.agg #[.int .i64 c.qmin,.int .i64 c.qmax,.int .i64 c.reach,.int .i64 c.cut,.int .i64 c.gop,.int .i64 c.rate,.int .i64 c.room,.int .i64 c.fill]
def mayB (c:Cfg):Bool:=decide (0≤c.qmin∧c.qmin≤c.qmax∧c.qmax≤15∧0≤c.reach∧c.reach≤7∧0≤c.cut∧c.cut≤16320∧1≤c.gop∧c.gop≤16∧8≤c.rate∧c.rate≤c.room∧c.room≤16384∧8≤c.fill∧c.fill≤c.room)
theorem may_any (c:Cfg) (w:World) :
  Calls Tryz.prog 54 #[c.v] w fun e w'=>e=.returned (.bool (mayB c))∧Only [] w w':=by
 obtain ⟨a0,a1,a2,a3,a4,a5,a6,a7⟩:=c
 unfold Cfg.v
 go_enter Tryz.func54,Tryz.ntmps54
 go_wp2_with (go_at_call 104;refine (from_any _ _ _ _).mono ?_;rintro e w' ⟨rfl,rfl⟩)
 all_goals
  go_ret
  refine ⟨ret_bool ?_,(Only.refl _ _).alloc _⟩
  simp only [fromB,Bool.and_eq_true,decide_eq_true_eq] at *
  unfold mayB
  rw [Bool.eq_iff_iff]
  simp
  try omega
theorem may_bounds {c:Cfg} (h:mayB c=true):0≤c.qmin∧c.qmin≤15∧0≤c.qmax∧c.qmax≤15∧0≤c.reach∧c.reach≤7∧0≤c.cut∧c.cut≤16320∧1≤c.gop∧c.gop≤16∧8≤c.rate∧c.rate≤16384∧8≤c.room∧c.room≤16384∧8≤c.fill∧c.fill≤16384∧c.rate≤c.room∧c.fill≤c.room:=by
 unfold mayB at h
 have:=of_decide_eq_true h
 omega
/-- An error: the places that it came through, the outermost first; its code. -/
structure Err where
 path:List (ByteArray×Int)
 code:Int
def codeV:Option Int→Value
 | none=>.nilIface
 | some c=>.iface 29 (.int .i64 c)
/-- What an error is in memory; its faults lie in blocks from lo on, below hi. -/
def FaultAt (lo hi:Nat) (w:World):List (ByteArray×Int)→Int→Value→Prop
 | [],c,v=>v=.iface 29 (.int .i64 c)
 | (s,n) :: p,c,v=>∃ b v',v=.iface 114 (.pointer (some ⟨b,0,none⟩))∧lo≤b∧b<hi∧w.heap[b]?=some (.cells #[.string s,.int .i64 n,v'] 117 (0,0))∧FaultAt lo hi w p c v'
def ErrV (lo hi:Nat) (w:World) (v:Value) (e:Err):Prop:=FaultAt lo hi w e.path e.code v
section
variable {lo hi lo' hi':Nat} {w w':World} {S:List Nat}
theorem FaultAt.only:∀ {p:List (ByteArray×Int)} {c:Int} {v:Value},FaultAt lo hi w p c v→Only S w w'→(∀ g∈S,g<lo∨hi≤g)→FaultAt lo hi w' p c v
 | [],_,_,h,_,_=>h
 | (s,n) :: p,c,v,⟨b,v',h1,h2,h3,h4,h5⟩,o,hS =>
  ⟨b,v',h1,h2,h3,(o.block b (Array.getElem?_eq_some_iff.1 h4).1 (fun hm=>by have:=hS b hm;omega)).trans h4,FaultAt.only h5 o hS⟩
theorem FaultAt.mono:∀ {p:List (ByteArray×Int)} {c:Int} {v:Value},FaultAt lo hi w p c v→lo'≤lo→hi≤hi'→FaultAt lo' hi' w p c v
 | [],_,_,h,_,_=>h
 | (s,n) :: p,c,v,⟨b,v',h1,h2,h3,h4,h5⟩,x,y=>⟨b,v',h1,by omega,by omega,h4,FaultAt.mono h5 x y⟩
theorem ErrV.only {v:Value} {e:Err} (h:ErrV lo hi w v e) (o:Only S w w') (hS:∀ g∈S,g<lo∨hi≤g):ErrV lo hi w' v e:=FaultAt.only h o hS
theorem ErrV.quiet {v:Value} {e:Err} (h:ErrV lo hi w v e) (o:Only [] w w'):ErrV lo hi w' v e:=FaultAt.only h o (by simp)
theorem ErrV.mono {v:Value} {e:Err} (h:ErrV lo hi w v e) (x:lo'≤lo) (y:hi≤hi'):ErrV lo' hi' w v e:=FaultAt.mono h x y
theorem ErrV.code (lo hi:Nat) (w:World) (c:Int):ErrV lo hi w (.iface 29 (.int .i64 c)) ⟨[],c⟩:=rfl
/-- an error is an interface value that is not nil -/
theorem ErrV.held {v:Value} {e:Err} (h:ErrV lo hi w v e):∃ t u,v=.iface t u:=by
 obtain ⟨p,c⟩:=e
 cases p with
 | nil=>exact ⟨_,_,h⟩
 | cons x p=>obtain ⟨b,v',h1,_⟩:=h;exact ⟨_,_,h1⟩
end
def inE (s:ByteArray) (n:Int) (e:Err):Err:=⟨(s,n) :: e.path,e.code⟩
theorem in_any {lo hi:Nat} {v:Value} {e:Err} (s:ByteArray) (n:Int) {w:World} (h:ErrV lo hi w v e) (hh:hi≤w.heap.size) (hl:lo≤w.heap.size) :
  Calls Tryz.prog 26 #[.string s,.int .i64 n,v] w fun r w'=>∃ v',r=.returned v'∧ErrV lo w'.heap.size w' v' (inE s n e)∧Only [] w w':=by
 obtain ⟨t,u,rfl⟩:=h.held
 have hq:∀ o,Only [] w (w.alloc o):=fun o=>(Only.refl _ _).alloc _
 have H:=lh h
 clear h
 go_enter Tryz.func26,Tryz.ntmps26
 go_wp2
 go_ret
 refine ⟨_,rfl,⟨w.heap.size,_,rfl,hl,by simp,heap_alloc_new w _,?_⟩,hq _⟩
 exact (H.out.quiet (hq _)).mono (Nat.le_refl _) (by simp;omega)
theorem inc_any (s:ByteArray) (n c:Int) (w:World) :
  Calls Tryz.prog 26 #[.string s,.int .i64 n,.iface 29 (.int .i64 c)] w fun r w'=>∃ v',r=.returned v'∧ErrV w.heap.size w'.heap.size w' v' ⟨[(s,n)],c⟩∧Only [] w w':=by
 go_enter Tryz.func26,Tryz.ntmps26
 go_wp2
 go_ret
 refine ⟨_,rfl,⟨w.heap.size,_,rfl,Nat.le_refl _,by simp,heap_alloc_new w _,rfl⟩,(Only.refl _ _).alloc _⟩
theorem check_any (c:Cfg) (w:World) :
  Calls Tryz.prog 28 #[c.v] w fun e w'=>e=.returned (codeV (if mayB c then none else some 11))∧Only [] w w':=by
 have hq:Only [] w (w.alloc (.cells c.v.cells 39)):=(Only.refl _ _).alloc _
 obtain ⟨a0,a1,a2,a3,a4,a5,a6,a7⟩:=c
 by_cases hm:mayB ⟨a0,a1,a2,a3,a4,a5,a6,a7⟩=true
 all_goals
  have Hm:=lh hm
  clear hm
  unfold Cfg.v
  go_enter Tryz.func28,Tryz.ntmps28
  go_wp2_with (go_at_call 54;refine (may_any ⟨a0,a1,a2,a3,a4,a5,a6,a7⟩ _).mono ?_;rintro e w' ⟨rfl,ho⟩)
  all_goals
   go_ret
   have:=Hm.out
   refine ⟨?_,hq.q ho⟩
   simp_all [codeV]
def eqB {α:Type} [DecidableEq α] (l m:α):Bool:=decide (l=m)
theorem str_inj:∀ {l m:List Int},(∀ x∈l,InK .u8 x)→(∀ x∈m,InK .u8 x)→l.map (fun n=>UInt8.ofNat n.toNat)=m.map (fun n=>UInt8.ofNat n.toNat)→l=m
 | [],[],_,_,_=>rfl
 | [],_ :: _,_,_,h=>by simp at h
 | _ :: _,[],_,_,h=>by simp at h
 | x :: l,y :: m,hl,hm,h=>by
  simp only [List.map_cons,List.cons.injEq] at h
  have hx:=hl x (by simp)
  have hy:=hm y (by simp)
  unfold InK at hx hy
  have e:x=y:=by
   have:=congrArg UInt8.toNat h.1
   simp only [UInt8.toNat_ofNat'] at this
   omega
  rw [e,str_inj (fun z hz=>hl z (by simp [hz])) (fun z hz=>hm z (by simp [hz])) h.2]
theorem str_eq {l m:List Int} (hl:∀ x∈l,InK .u8 x) (hm:∀ x∈m,InK .u8 x):((strOfNums l).toList == (strOfNums m).toList)=eqB l m:=by
 rw [ByteArray.toList_eq,ByteArray.toList_eq,strOfNums_data,strOfNums_data,Bool.eq_iff_iff]
 simp only [beq_iff_eq,eqB,decide_eq_true_eq]
 exact ⟨str_inj hl hm,fun h=>by rw [h]⟩
theorem ints_str {lo hi:Nat} {v:Value} {l:List Int} {w:World} (h:Ints .u8 lo hi w v l) :
  (convert 22 9 v).run Tryz.prog w=.ok (.string (strOfNums l)) w:=by
 obtain ⟨a,cap,rfl,_,_,hat,hcell⟩:=h.open
 rcases Nat.eq_zero_or_pos l.length with h0 | h0
 ·have hl:l=[]:=List.eq_nil_of_length_eq_zero h0
  subst hl
  rw [run_convert_bytes_string w _ _ _ _ _ _ Tryz.underlying22 Tryz.underlying5 Tryz.underlying9]
  rcases a with _ | a
  ·simp [Conv.bytesToString];rfl
  ·rw [run_bytesToString w _ _ cap [] (by simp [loadCells,loadCellsFrom])];rfl
 ·obtain ⟨b,off,rfl,_,_⟩:=hat 0 h0
  exact run_convert_bytes_arg w _ _ Tryz.underlying22 Tryz.underlying5 b off _ cap l rfl (hcell b off rfl) _ Tryz.underlying9
theorem bequal_any {lo hi lo' hi':Nat} {v u:Value} {l m:List Int} {w:World} (h:Ints .u8 lo hi w v l) (g:Ints .u8 lo' hi' w u m) :
  Calls Tryz.prog 109 #[v,u] w fun e w'=>e=.returned (.bool (eqB l m))∧w=w':=by
 have h1:=ints_str h
 have h2:=ints_str g
 have hs:=str_eq h.2 g.2
 have Hs:=lh hs
 clear hs
 go_enter Tryz.func109,Tryz.ntmps109
 go_wp2
 go_ret
 exact ⟨ret_bool Hs.out,rfl⟩
theorem getD_of_lt {α:Type} (l:List α) (d:α) {i:Nat} (h:i<l.length):l[i]?=some (l.getD i d):=by simp [h]
theorem take_eq_succ {α:Type} {l m:List α} (d:α) {k:Nat} (h:l.take k=m.take k) (hl:k<l.length) (hm:k<m.length) (e:l.getD k d=m.getD k d):l.take (k+1)=m.take (k+1):=by
 rw [List.take_add_one,List.take_add_one,h,getD_of_lt l d hl,getD_of_lt m d hm,e]
theorem intsEq_any {lo hi lo' hi':Nat} {v u:Value} {l m:List Int} {w:World} (h:Ints .i64 lo hi w v l) (g:Ints .i64 lo' hi' w u m) :
  Calls Tryz.prog 17 #[v,u] w fun e w'=>e=.returned (.bool (eqB l m))∧Only [] w w':=by
 have hll:=h.1.len_le
 unfold maxLen at hll
 obtain ⟨a,cap,rfl,_,_,hat,hcell⟩:=h.open
 obtain ⟨a',cap',rfl,_,_,hat',hcell'⟩:=g.open
 by_cases hlen:l.length=m.length
 ·have hlm:m.length=l.length:=hlen.symm
  have Hlm:=lh hlm
  clear hlm
  have hb:(((l.length:Nat):Int) != ((m.length:Nat):Int))=false:=by simp [hlen]
  go_enter Tryz.func17,Tryz.ntmps17
  clear hlen
  go_wp2
  clear hb
  go_loopw [5] (fun i wr=>∃ k:Nat,k≤l.length∧i=.int .i64 k∧l.take k=m.take k∧Only [] w wr) (fun i _=>l.length-(intOf i).toNat)
  case atStart=>exact ⟨0,by omega,rfl,by simp,Only.refl _ _⟩
  case round =>
   obtain ⟨k,hk,rfl,htake,hq⟩:=hrel
   have Ht:=lh htake
   clear htake
   by_cases hlt:k<l.length
   ·obtain ⟨b,off,rfl,_,_⟩:=hat k hlt
    have hltm:k<m.length:=by rw [Hlm.out];exact hlt
    obtain ⟨b',off',rfl,_,_⟩:=hat' k hltm
    have c1:=hq.cell (hcell b off rfl k hlt) (by simp)
    have c2:=hq.cell (hcell' b' off' rfl k hltm) (by simp)
    clear hat hat' hcell hcell' h g
    have hx:(0:Int)≤(k:Int):=by omega
    have hx1:(k:Int)<(l.length:Int):=by omega
    have hx2:(k:Int)<(m.length:Int):=by omega
    generalize he:l.getD k 0=x at *
    generalize he':m.getD k 0=y at *
    have He:=lh he
    have He':=lh he'
    clear he he'
    by_cases hxy:x=y
    ·subst hxy
     go_wp2
     go_quiet (fail)
     go_wp2
     go_roundw
     case rel=>exact ⟨k+1,by omega,by go_num,take_eq_succ 0 Ht.out hlt hltm (by rw [He.out,He'.out]),hq.drewN _⟩
     case measure=>simp [intOf];omega
    ·have hbe:(x != y)=true:=by simpa using hxy
     go_wp2
     go_quiet (fail)
     go_wp2
     go_ret
     refine ⟨ret_bool ?_,hq.drewN _⟩
     have:l≠m:=by rintro rfl;exact hxy (He.out.symm.trans He'.out)
     simp [eqB,this]
   ·obtain rfl:k=l.length:=by omega
    go_wp2
    go_ret
    refine ⟨ret_bool ?_,hq⟩
    have:=Ht.out
    rw [List.take_length,← Hlm.out,List.take_length] at this
    simp [eqB,this]
 ·have hb:(((l.length:Nat):Int) != ((m.length:Nat):Int))=true:=by simp;omega
  go_enter Tryz.func17,Tryz.ntmps17
  go_wp2
  go_ret
  exact ⟨ret_bool (by have:l≠m:=fun e=>hlen (by rw [e]);simp [eqB,this]),Only.refl _ _⟩
end Go.Proofs.YtmdobcffijnaoaaGreatDoor
