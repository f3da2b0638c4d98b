/- Joined texts: DOwnF, DOwnK, DOwnC, GOwn. Conditions: each part names its own. -/
import Derived.Test.YtkigikallkpbcaaGreatDoorS7
import Derived.Test.YtkigikallkpbcaaGreatDoorK6
import Derived.Test.YtkigikallkpbcaaGreatDoorG6
import Derived.Test.YtkigikallkpbcaaGreatDoorC3
import Derived.Test.YtkigikallkpbcaaGreatDoorS5
namespace Go.Proofs.YtkigikallkpbcaaGreatDoor
open Go.RowKit
set_option linter.unusedVariables false
set_option linter.unusedSimpArgs false
set_option maxRecDepth 100000
set_option maxHeartbeats 16000000
/-- what the elements of a row of frames are: their samples lie in blocks of which B speaks -/
def ElF (B:Nat→Prop) (w:World) (xs:List Value) (l:List FrameD):Prop :=
 (∀ u∈xs,u.oneCell'=true)∧∀ i f,l[i]?=some f→xs[i*3]?=some (.int .i64 f.W)∧xs[i*3+1]?=some (.int .i64 f.H)∧∃ pv b,xs[i*3+2]?=some pv∧Ints .i64 b (b+1) w pv f.pix∧B b
def OwnF (base:Nat) (w:World) (v:Value) (l:List FrameD):Prop:=∃ xs,w.ownsRow base 73 3 v l.length xs∧ElF (fun b=>base≤b∧b<w.heap.size∧v.ownBlock≠some b) w xs l
section
variable {base:Nat} {w w':World} {v v':Value} {l m:List FrameD} {S:List Nat}
theorem OwnF.at (h:OwnF base w v l):∀ g,v.ownBlock=some g→base≤g∧g<w.heap.size:=by obtain ⟨xs,h1,_⟩:=h;exact h1.lt
theorem OwnF.frames (h:OwnF base w v l):FramesAt base w.heap.size w v l:=by
 obtain ⟨xs,h1,_,h2⟩:=h
 have hlx:=h1.1
 refine ⟨fun i j=>xs.getD (i*3+j) undef,Rows.of_own h1 (fun i j hi hj=>?_),fun i hi=>?_⟩
 ·have:i*3+j<xs.length:=by omega
  simp [this]
 ·obtain ⟨a,b,pv,c,d1,d2,d3⟩:=h2 i (l.getD i default) (by simp [hi])
  refine ⟨?_,?_,?_⟩
  ·show xs.getD (i*3+0) undef=_
   rw [Nat.add_zero,List.getD_eq_getElem?_getD,a];rfl
  ·show xs.getD (i*3+1) undef=_
   rw [List.getD_eq_getElem?_getD,b];rfl
  ·show Ints .i64 base w.heap.size w (xs.getD (i*3+2) undef) _
   rw [List.getD_eq_getElem?_getD,d1]
   exact d2.mono d3.1 (by omega)
end
section
variable {P:Program}
end
theorem EFr:Elem Tryz.prog 61 73 (.agg #[.int .i64 0,.int .i64 0,.slice none 0 0]) 3 40:=Elem.mk' Tryz.underlying61 (by kernel_rfl) rfl (by omega) (by omega)
/-- what the elements of a row of coded frames are: their data lie from lo on, below hi -/
def ElKD (lo hi:Nat) (w:World) (xs:List Value) (l:List Coded):Prop :=
 (∀ u∈xs,u.oneCell'=true)∧∀ i c,l[i]?=some c→xs[i*2]?=some (.int .i64 c.kind)∧InK .i64 c.kind∧∃ dv,xs[i*2+1]?=some dv∧Ints .u8 lo hi w dv c.data
def OwnKD (lo hi base:Nat) (w:World) (v:Value) (l:List Coded):Prop:=hi≤base∧∃ xs,w.ownsRow base 69 2 v l.length xs∧ElKD lo hi w xs l
section
variable {lo hi base:Nat} {w w':World} {v v':Value} {l m:List Coded} {S:List Nat}
theorem ElKD.only {xs:List Value} (h:ElKD lo hi w xs l) (o:Only S w w') (hS:∀ g∈S,hi≤g):ElKD lo hi w' xs l :=
 ⟨h.1,fun i c hc=>by obtain ⟨a,b,dv,d1,d2⟩:=h.2 i c hc;exact ⟨a,b,dv,d1,d2.only o (fun g hg=>.inr (hS g hg))⟩⟩
theorem OwnKD.only (h:OwnKD lo hi base w v l) (o:Only S w w') (hS:∀ g∈S,hi≤g∧v.ownBlock≠some g):OwnKD lo hi base w' v l:=by
 obtain ⟨h0,xs,h1,h2⟩:=h
 exact ⟨h0,xs,owns_only h1 o (fun g hg=>(hS g hg).2),h2.only o (fun g hg=>(hS g hg).1)⟩
theorem OwnKD.quiet (h:OwnKD lo hi base w v l) (o:Only [] w w'):OwnKD lo hi base w' v l:=h.only o (by simp)
theorem OwnKD.nil (h:hi≤base) (w:World):OwnKD lo hi base w (.slice none 0 0) []:=⟨h,[],World.ownsRow_nil _ _ _ _,by simp,by simp⟩
theorem OwnKD.at (h:OwnKD lo hi base w v l):∀ g,v.ownBlock=some g→base≤g∧g<w.heap.size:=by obtain ⟨_,xs,h1,_⟩:=h;exact h1.lt
theorem OwnKD.isSlice (h:OwnKD lo hi base w v l):∃ a cap,v=.slice a l.length cap:=by
 obtain ⟨_,xs,h1,_⟩:=h
 obtain ⟨_,a,cap,rfl,_⟩:=Cells.of_own h1
 exact ⟨a,cap,rfl⟩
theorem OwnKD.codeds (h:OwnKD lo hi base w v l) (hl:lo≤hi) (hb:base≤w.heap.size):CodedsAt lo w.heap.size w v l:=by
 obtain ⟨h0,xs,h1,_,h2⟩:=h
 have hlx:=h1.1
 refine ⟨fun i j=>xs.getD (i*2+j) undef,(Rows.of_own h1 (fun i j hi hj=>?_)).mono (by omega) (Nat.le_refl _),fun i hi=>?_⟩
 ·have:i*2+j<xs.length:=by omega
  simp [this]
 ·obtain ⟨a,b,dv,c,d⟩:=h2 i (l.getD i default) (by simp [hi])
  refine ⟨?_,b,?_⟩
  ·show xs.getD (i*2+0) undef=_
   rw [Nat.add_zero,List.getD_eq_getElem?_getD,a];rfl
  ·show Ints .u8 lo w.heap.size w (xs.getD (i*2+1) undef) _
   rw [List.getD_eq_getElem?_getD,c]
   exact d.mono (Nat.le_refl _) (by omega)
theorem ElKD.one {k:Int} {dv:Value} {data:List Int} (hk:InK .i64 k) (hd:Ints .u8 lo hi w dv data):ElKD lo hi w [.int .i64 k,dv] [⟨k,data⟩]:=by
 have hdv:dv.oneCell'=true:=by obtain ⟨a,cap,rfl,_⟩:=hd.open;rfl
 refine ⟨?_,fun i c hc=>?_⟩
 ·intro u hu
  rcases List.mem_cons.1 hu with rfl | hu
  ·rfl
  ·rw [mSg.1 hu];exact hdv
 ·have hlt:=(List.getElem?_eq_some_iff.1 hc).1
  obtain rfl:i=0:=by simp at hlt;omega
  simp at hc;subst hc
  exact ⟨rfl,hk,dv,rfl,hd⟩
theorem ElKD.append {xs ys:List Value} (hl:xs.length=l.length*2) (h1:ElKD lo hi w xs l) (h2:ElKD lo hi w ys m):ElKD lo hi w (xs ++ ys) (l ++ m):=by
 refine ⟨fun u hu=>(List.mem_append.1 hu).elim (h1.1 u) (h2.1 u),fun i c hc=>?_⟩
 by_cases hi:i<l.length
 ·rw [List.getElem?_append_left hi] at hc
  obtain ⟨a,b,dv,d1,d2⟩:=h1.2 i c hc
  exact ⟨by rw [List.getElem?_append_left (by omega)];exact a,b,dv,by rw [List.getElem?_append_left (by omega)];exact d1,d2⟩
 ·rw [List.getElem?_append_right (by omega)] at hc
  obtain ⟨a,b,dv,d1,d2⟩:=h2.2 _ c hc
  have e1:(xs ++ ys)[i*2]?=ys[(i-l.length)*2]?:=by rw [List.getElem?_append_right (by omega)];congr 1;omega
  have e2:(xs ++ ys)[i*2+1]?=ys[(i-l.length)*2+1]?:=by rw [List.getElem?_append_right (by omega)];congr 1;omega
  exact ⟨by rw [e1];exact a,b,dv,by rw [e2];exact d1,d2⟩
end
section
variable {P:Program}
theorem wpList_append_ckD {w:World} {ops:Array Oper} {rest:List Oper} {o:Oper} {a:Act} {Q:Exit→Act→World→Prop} (hgd:o.guard=none) (s x:Operand) (t:TypeId)
  (ho:o.op=.call { callee:=.builtin .append,args:=#[s,x],argTypes:=#[t,t] })
  {z:Value} {bytes base lo hi lo2 hi2:Nat} {v sv:Value} {l m:List Coded} {ys:List Value} (E:Elem P t 69 z 2 bytes)
  (hown:OwnKD lo hi base w v l) (hv:a.eval s=v) (hs:Cells 2 lo2 hi2 w sv m.length ys) (hel:ElKD lo hi w ys m) (hx:a.eval x=sv)
  (hbytes:(l.length+m.length)*bytes≤140737488355328) (hbase:base≤w.heap.size)
  (h:∀ v' w',OwnKD lo hi base w' v' (l ++ m)→Acc v w v' w'→wpList P ops Q rest (a.put o.dst v') w'):wpList P ops Q (o :: rest) a w:=by
 have hle:l.length+m.length≤140737488355328:=Nat.le_trans (Nat.le_mul_of_pos_right _ E.bp) hbytes
 obtain ⟨h0,xs,h1,h2⟩:=hown
 refine wpList_append_cells hgd s x t ho E h1 hv hs hx hel.1 (by simp only [maxLen];omega) hbytes hbase fun v' w' h2' h3' h4=>?_
 have ha:Acc v w v' w':=⟨h3',h4.imp id fun e g hg=>by rw [e] at hg;injection hg with hg;omega⟩
 refine h v' w' ⟨h0,xs ++ ys,by rw [List.length_append];exact h2',(h2.append h1.1 hel).only h3' (fun g hg=>?_)⟩ ha
 have:=(h1.lt g (by simpa using hg)).1
 omega
end
theorem ECd:Elem Tryz.prog 24 69 (.agg #[.int .i64 0,.slice none 0 0]) 2 32:=Elem.mk' Tryz.underlying24 (by kernel_rfl) rfl (by omega) (by omega)
theorem ints_none {k:IntKind} {lo hi lo' hi':Nat} {w w':World} {v:Value} {l:List Int} (h:Ints k lo hi w v l) (hl:l=[]):Ints k lo' hi' w' v l:=by
 subst hl
 obtain ⟨⟨h1,a,c,e,h3,h4,h5⟩,h6⟩:=h
 exact ⟨⟨h1,a,c,e,h3,h4,fun hp=>absurd hp (by simp)⟩,h6⟩
/-- what the elements of a row of coded frames are: their data lie in blocks of which B speaks -/
def ElCD (B:Nat→Prop) (w:World) (xs:List Value) (l:List Coded):Prop :=
 (∀ u∈xs,u.oneCell'=true)∧∀ i c,l[i]?=some c→xs[i*2]?=some (.int .i64 c.kind)∧InK .i64 c.kind∧∃ dv b,xs[i*2+1]?=some dv∧Ints .u8 b (b+1) w dv c.data∧(c.data=[]∨B b)
def OwnCD (base:Nat) (w:World) (v:Value) (l:List Coded):Prop:=∃ xs,w.ownsRow base 69 2 v l.length xs∧ElCD (fun b=>base≤b∧b<w.heap.size∧v.ownBlock≠some b) w xs l
section
variable {base:Nat} {w w':World} {v v':Value} {l m:List Coded} {S:List Nat}
theorem OwnCD.at (h:OwnCD base w v l):∀ g,v.ownBlock=some g→base≤g∧g<w.heap.size:=by obtain ⟨xs,h1,_⟩:=h;exact h1.lt
theorem OwnCD.isSlice (h:OwnCD base w v l):∃ a cap,v=.slice a l.length cap:=by
 obtain ⟨xs,h1,_⟩:=h
 obtain ⟨_,a,cap,rfl,_⟩:=Cells.of_own h1
 exact ⟨a,cap,rfl⟩
theorem OwnCD.codeds (h:OwnCD base w v l):CodedsAt base w.heap.size w v l:=by
 obtain ⟨xs,h1,_,h2⟩:=h
 have hlx:=h1.1
 refine ⟨fun i j=>xs.getD (i*2+j) undef,Rows.of_own h1 (fun i j hi hj=>?_),fun i hi=>?_⟩
 ·have:i*2+j<xs.length:=by omega
  simp [this]
 ·obtain ⟨a,b,dv,z,c,d,d3⟩:=h2 i (l.getD i default) (by simp [hi])
  refine ⟨?_,b,?_⟩
  ·show xs.getD (i*2+0) undef=_
   rw [Nat.add_zero,List.getD_eq_getElem?_getD,a];rfl
  ·show Ints .u8 base w.heap.size w (xs.getD (i*2+1) undef) _
   rw [List.getD_eq_getElem?_getD,c]
   rcases d3 with d3 | d3
   ·exact ints_none d d3
   ·exact d.mono d3.1 (by omega)
end
section
variable {P:Program}
end
/-- a block of the call's own that is no row's -/
def Free (base:Nat) (w:World) (va vb:Value) (b:Nat):Prop:=base≤b∧b<w.heap.size∧va.ownBlock≠some b∧vb.ownBlock≠some b
def OwnG (base:Nat) (w:World) (va:Value) (A:List Coded) (vb:Value) (B:List FrameD):Prop :=
 ∃ xs ys,w.ownsRow base 69 2 va A.length xs∧w.ownsRow base 73 3 vb B.length ys∧(∀ g,va.ownBlock=some g→vb.ownBlock≠some g) ∧
  ElCD (Free base w va vb) w xs A∧ElF (Free base w va vb) w ys B
section
variable {base:Nat} {w w':World} {va vb:Value} {A:List Coded} {B:List FrameD} {S:List Nat}
theorem ElCD.step {P R:Nat→Prop} {xs:List Value} (h:ElCD P w xs A) (o:Only S w w') (hS:∀ g∈S,¬ P g) (hi:∀ b,P b→R b):ElCD R w' xs A:=by
 obtain ⟨h2,h3⟩:=h
 refine ⟨h2,fun i c hc=>?_⟩
 obtain ⟨a,b,dv,z,d1,d2,d3⟩:=h3 i c hc
 rcases d3 with d3 | d3
 ·exact ⟨a,b,dv,z,d1,ints_none d2 d3,.inl d3⟩
 ·exact ⟨a,b,dv,z,d1,d2.only o (fun g hg=>by have hne:g≠z:=fun e=>hS g hg (e ▸ d3);omega),.inr (hi z d3)⟩
theorem ElF.step {P R:Nat→Prop} {xs:List Value} (h:ElF P w xs B) (o:Only S w w') (hS:∀ g∈S,¬ P g) (hi:∀ b,P b→R b):ElF R w' xs B:=by
 obtain ⟨h2,h3⟩:=h
 refine ⟨h2,fun i f hf=>?_⟩
 obtain ⟨a,b,pv,c,d1,d2,d3⟩:=h3 i f hf
 exact ⟨a,b,pv,c,d1,d2.only o (fun g hg=>by have hne:g≠c:=fun e=>hS g hg (e ▸ d3);omega),hi c d3⟩
theorem OwnG.only (h:OwnG base w va A vb B) (o:Only S w w') (hS:∀ g∈S,g<base):OwnG base w' va A vb B:=by
 obtain ⟨xs,ys,h1,h2,h3,h4,h5⟩:=h
 have hz:=o.size
 have hf:∀ b,Free base w va vb b→Free base w' va vb b:=fun b h=>⟨h.1,Nat.lt_of_lt_of_le h.2.1 hz,h.2.2⟩
 have hn:∀ g∈S,¬ Free base w va vb g:=fun g hg h=>by have:=hS g hg;have:=h.1;omega
 exact ⟨xs,ys,owns_only h1 o (fun g hg e=>by have:=(h1.lt g e).1;have:=hS g hg;omega),owns_only h2 o (fun g hg e=>by have:=(h2.lt g e).1;have:=hS g hg;omega),h3,h4.step o hn hf,h5.step o hn hf⟩
theorem OwnG.quiet (h:OwnG base w va A vb B) (o:Only [] w w'):OwnG base w' va A vb B:=h.only o (by simp)
theorem OwnG.nil (base:Nat) (w:World):OwnG base w (.slice none 0 0) [] (.slice none 0 0) [] :=
 ⟨[],[],World.ownsRow_nil _ _ _ _,World.ownsRow_nil _ _ _ _,(fun g e=>by cases e),⟨by simp,by simp⟩,⟨by simp,by simp⟩⟩
theorem OwnG.left (h:OwnG base w va A vb B):OwnCD base w va A:=by
 obtain ⟨xs,ys,h1,h2,h3,h4,h5⟩:=h
 exact ⟨xs,h1,h4.step (Only.refl [] w) (by simp) (fun b h=>⟨h.1,h.2.1,h.2.2.1⟩)⟩
theorem OwnG.slices (h:OwnG base w va A vb B):∃ a c b d,va=.slice a A.length c∧vb=.slice b B.length d:=by
 obtain ⟨a,c,e⟩:=h.left.isSlice
 obtain ⟨xs,ys,h1,h2,-⟩:=h
 obtain ⟨_,b,d,f,_⟩:=Cells.of_own h2
 exact ⟨a,c,b,d,e,f⟩
theorem OwnG.right (h:OwnG base w va A vb B):OwnF base w vb B:=by
 obtain ⟨xs,ys,h1,h2,h3,h4,h5⟩:=h
 exact ⟨ys,h2,h5.step (Only.refl [] w) (by simp) (fun b h=>⟨h.1,h.2.1,h.2.2.2⟩)⟩
end
section
variable {P:Program}
theorem wpList_append_gA {w:World} {ops:Array Oper} {rest:List Oper} {o:Oper} {a:Act} {Q:Exit→Act→World→Prop} (hgd:o.guard=none) (s x:Operand) (t:TypeId)
  (ho:o.op=.call { callee:=.builtin .append,args:=#[s,x],argTypes:=#[t,t] })
  {z:Value} {bytes base lo2 hi2 b:Nat} {va vb sv dv:Value} {A:List Coded} {B:List FrameD} {c:Coded} (E:Elem P t 69 z 2 bytes)
  (hown:OwnG base w va A vb B) (hv:a.eval s=va) (hs:Cells 2 lo2 hi2 w sv 1 [.int .i64 c.kind,dv]) (hk:InK .i64 c.kind) (hp:Ints .u8 b (b+1) w dv c.data) (hb:c.data=[]∨Free base w va vb b) (hx:a.eval x=sv)
  (hbytes:(A.length+1)*bytes≤140737488355328) (hbase:base≤w.heap.size)
  (h:∀ v' w',OwnG base w' v' (A ++ [c]) vb B→Acc va w v' w'→wpList P ops Q rest (a.put o.dst v') w'):wpList P ops Q (o :: rest) a w:=by
 have hle:A.length+1≤140737488355328:=Nat.le_trans (Nat.le_mul_of_pos_right _ E.bp) hbytes
 obtain ⟨xs,ys,h1,h2,h3,h4,h5⟩:=hown
 have hpv:dv.oneCell'=true:=by obtain ⟨a,cap,rfl,_⟩:=hp.open;rfl
 have hone:∀ u∈[Value.int .i64 c.kind,dv],u.oneCell'=true:=by
  intro u hu
  simp only [List.mem_cons,List.not_mem_nil,or_false] at hu
  rcases hu with rfl | rfl
  ·rfl
  ·exact hpv
 refine wpList_append_cells hgd s x t ho E h1 hv hs hx hone (by simp only [maxLen];omega) hbytes hbase fun v' w' h2' h3' h4'=>?_
 have ha:Acc va w v' w':=⟨h3',h4'.imp id fun e g hg=>by rw [e] at hg;injection hg with hg;omega⟩
 have hsz:=h3'.size
 have hf:∀ y,Free base w va vb y→Free base w' v' vb y:=fun y hc=>⟨hc.1,by have:=hc.2.1;omega,fun e=>by
  rcases h4' with e' | e'
  ·exact hc.2.2.1 (e'.symm.trans e)
  ·rw [e'] at e;injection e with e;have:=hc.2.1;omega,hc.2.2.2⟩
 have hn:∀ g∈va.ownBlock.toList,¬ Free base w va vb g:=fun g hg h=>h.2.2.1 (by simpa using hg)
 have hlx:=h1.1
 obtain ⟨k1,k2⟩:=h4.step h3' hn hf
 refine h v' w' ⟨xs ++ [.int .i64 c.kind,dv],ys,by rw [List.length_append];exact h2',owns_only h2 h3' (fun g hg e=>h3 g (by simpa using hg) e),fun g e e2=>?_,⟨fun u hu=>(List.mem_append.1 hu).elim (k1 u) (hone u),fun i g hg=>?_⟩,h5.step h3' hn hf⟩ ha
 ·rcases h4' with e' | e'
  ·exact h3 g (e'.symm.trans e) e2
  ·rw [e'] at e;injection e with e;have:=(h2.lt g e2).2;omega
 by_cases hi:i<A.length
 ·rw [List.getElem?_append_left hi] at hg
  obtain ⟨e0,e1,q,y,d1,d2⟩:=k2 i g hg
  exact ⟨by rw [List.getElem?_append_left (by omega)];exact e0,e1,q,y,by rw [List.getElem?_append_left (by omega)];exact d1,d2⟩
 ·rw [List.getElem?_append_right (by omega)] at hg
  have hlt:=(List.getElem?_eq_some_iff.1 hg).1
  have hi0:i=A.length:=by simp at hlt;omega
  subst hi0
  simp at hg
  subst hg
  refine ⟨?_,hk,dv,b,?_,?_⟩
  ·rw [List.getElem?_append_right (by omega),show A.length*2-xs.length=0 by omega];rfl
  ·rw [List.getElem?_append_right (by omega),show A.length*2+1-xs.length=1 by omega];rfl
  ·rcases hb with hb | hb
   ·exact ⟨ints_none hp hb,.inl hb⟩
   ·exact ⟨hp.only h3' (fun x hx=>by have hne:x≠b:=fun e=>hb.2.2.1 (by rw [← e];simpa using hx);omega),.inr (hf b hb)⟩
theorem wpList_append_gB {w:World} {ops:Array Oper} {rest:List Oper} {o:Oper} {a:Act} {Q:Exit→Act→World→Prop} (hgd:o.guard=none) (s x:Operand) (t:TypeId)
  (ho:o.op=.call { callee:=.builtin .append,args:=#[s,x],argTypes:=#[t,t] })
  {z:Value} {bytes base lo2 hi2 b:Nat} {va vb sv pv:Value} {A:List Coded} {B:List FrameD} {f:FrameD} (E:Elem P t 73 z 3 bytes)
  (hown:OwnG base w va A vb B) (hv:a.eval s=vb) (hs:Cells 3 lo2 hi2 w sv 1 [.int .i64 f.W,.int .i64 f.H,pv]) (hp:Ints .i64 b (b+1) w pv f.pix) (hb:Free base w va vb b) (hx:a.eval x=sv)
  (hbytes:(B.length+1)*bytes≤140737488355328) (hbase:base≤w.heap.size)
  (h:∀ v' w',OwnG base w' va A v' (B ++ [f])→Acc vb w v' w'→wpList P ops Q rest (a.put o.dst v') w'):wpList P ops Q (o :: rest) a w:=by
 have hle:B.length+1≤140737488355328:=Nat.le_trans (Nat.le_mul_of_pos_right _ E.bp) hbytes
 obtain ⟨xs,ys,h1,h2,h3,h4,h5⟩:=hown
 have hpv:pv.oneCell'=true:=by obtain ⟨a,cap,rfl,_⟩:=hp.open;rfl
 have hone:∀ u∈[Value.int .i64 f.W,.int .i64 f.H,pv],u.oneCell'=true:=by
  intro u hu
  simp only [List.mem_cons,List.not_mem_nil,or_false] at hu
  rcases hu with rfl | rfl | rfl
  ·rfl
  ·rfl
  ·exact hpv
 refine wpList_append_cells hgd s x t ho E h2 hv hs hx hone (by simp only [maxLen];omega) hbytes hbase fun v' w' h2' h3' h4'=>?_
 have ha:Acc vb w v' w':=⟨h3',h4'.imp id fun e g hg=>by rw [e] at hg;injection hg with hg;omega⟩
 have hsz:=h3'.size
 have hf:∀ y,Free base w va vb y→Free base w' va v' y:=fun y hc=>⟨hc.1,by have:=hc.2.1;omega,hc.2.2.1,fun e=>by
  rcases h4' with e' | e'
  ·exact hc.2.2.2 (e'.symm.trans e)
  ·rw [e'] at e;injection e with e;have:=hc.2.1;omega⟩
 have hn:∀ g∈vb.ownBlock.toList,¬ Free base w va vb g:=fun g hg h=>h.2.2.2 (by simpa using hg)
 have hlx:=h2.1
 obtain ⟨k1,k2⟩:=h5.step h3' hn hf
 refine h v' w' ⟨xs,ys ++ [.int .i64 f.W,.int .i64 f.H,pv],owns_only h1 h3' (fun g hg e=>h3 g e (by simpa using hg)),by rw [List.length_append];exact h2',fun g e e2=>?_,h4.step h3' hn hf,fun u hu=>(List.mem_append.1 hu).elim (k1 u) (hone u),fun i g hg=>?_⟩ ha
 ·rcases h4' with e' | e'
  ·exact h3 g e (e'.symm.trans e2)
  ·rw [e'] at e2;injection e2 with e2;have:=(h1.lt g e).2;omega
 by_cases hi:i<B.length
 ·rw [List.getElem?_append_left hi] at hg
  obtain ⟨e0,e1,q,y,d1,d2⟩:=k2 i g hg
  exact ⟨by rw [List.getElem?_append_left (by omega)];exact e0,by rw [List.getElem?_append_left (by omega)];exact e1,q,y,by rw [List.getElem?_append_left (by omega)];exact d1,d2⟩
 ·rw [List.getElem?_append_right (by omega)] at hg
  have hlt:=(List.getElem?_eq_some_iff.1 hg).1
  have hi0:i=B.length:=by simp at hlt;omega
  subst hi0
  simp at hg
  subst hg
  refine ⟨?_,?_,pv,b,?_,hp.only h3' (fun x hx=>by have hne:x≠b:=fun e=>hb.2.2.2 (by rw [← e];simpa using hx);omega),hf b hb⟩
  ·rw [List.getElem?_append_right (by omega),show B.length*3-ys.length=0 by omega];rfl
  ·rw [List.getElem?_append_right (by omega),show B.length*3+1-ys.length=1 by omega];rfl
  ·rw [List.getElem?_append_right (by omega),show B.length*3+2-ys.length=2 by omega];rfl
end
end Go.Proofs.YtkigikallkpbcaaGreatDoor
