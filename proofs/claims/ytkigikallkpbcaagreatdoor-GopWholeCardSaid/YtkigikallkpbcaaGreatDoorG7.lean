/- Joined texts: DOwnF, DOwnK, DOwnC, GOwn, DFrames, DKFrs. Conditions: each part names its own. -/
import Derived.Test.YtkigikallkpbcaaGreatDoorT1
import Derived.Test.YtkigikallkpbcaaGreatDoorS7
import Derived.Test.YtkigikallkpbcaaGreatDoorG6
import Derived.Test.YtkigikallkpbcaaGreatDoorC3
import Derived.Test.YtkigikallkpbcaaGreatDoorS5
namespace Go.Proofs.YtkigikallkpbcaaGreatDoor
open Go.RowKit
set_option linter.unusedVariables false
set_option linter.unusedSimpArgs false
set_option maxRecDepth 100000
set_option maxHeartbeats 16000000
/-- what coded frames mean, from the i-th on -/
def framesGo (W H:Int):List Coded→Nat→FrameD→List FrameD→Except Err (List FrameD)
 | [],_,_,acc=>.ok acc
 | c :: l,i,prev,acc =>
  match frameD c prev W H with
  | .error e=>.error (inE sFrames i e)
  | .ok f=>framesGo W H l (i+1) f (acc ++ [f])
def framesD (l:List Coded) (W H:Int):Except Err (List FrameD):=if 16<l.length then .error ⟨[],5⟩ else framesGo W H l 0 frame0 []
theorem framesGo_bad {W H:Int} {c:Coded} {l:List Coded} {i:Nat} {prev:FrameD} {acc:List FrameD} {e:Err} (h:frameD c prev W H=.error e):framesGo W H (c :: l) i prev acc=.error (inE sFrames i e):=by rw [framesGo,h]
theorem framesGo_more {W H:Int} {c:Coded} {l:List Coded} {i:Nat} {prev f:FrameD} {acc:List FrameD} (h:frameD c prev W H=.ok f):framesGo W H (c :: l) i prev acc=framesGo W H l (i+1) f (acc ++ [f]):=by rw [framesGo,h]
/-- what the elements of a row of frames are: their samples lie in blocks of which B speaks -/
def ElF (B:Nat→Prop) (w:World) (xs:List Value) (l:List FrameD):Prop :=
 (∀ u∈xs,u.oneCell'=true)∧∀ i f,l[i]?=some f→xs[i*3]?=some (.int .i64 f.W)∧xs[i*3+1]?=some (.int .i64 f.H)∧∃ pv b,xs[i*3+2]?=some pv∧Ints .i64 b (b+1) w pv f.pix∧B b
def OwnF (base:Nat) (w:World) (v:Value) (l:List FrameD):Prop:=∃ xs,w.ownsRow base 73 3 v l.length xs∧ElF (fun b=>base≤b∧b<w.heap.size∧v.ownBlock≠some b) w xs l
section
variable {base:Nat} {w w':World} {v v':Value} {l m:List FrameD} {S:List Nat}
theorem OwnF.only (h:OwnF base w v l) (o:Only S w w') (hS:∀ g∈S,g<base):OwnF base w' v l:=by
 obtain ⟨xs,h1,h2,h3⟩:=h
 refine ⟨xs,owns_only h1 o (fun g hg e=>by have:=(h1.lt g e).1;have:=hS g hg;omega),h2,fun i f hf=>?_⟩
 obtain ⟨a,b,pv,c,d1,d2,d3⟩:=h3 i f hf
 exact ⟨a,b,pv,c,d1,d2.only o (fun g hg=>by have:=hS g hg;have:=d3.1;omega),d3.1,Nat.lt_of_lt_of_le d3.2.1 o.size,d3.2.2⟩
theorem OwnF.quiet (h:OwnF base w v l) (o:Only [] w w'):OwnF base w' v l:=h.only o (by simp)
theorem OwnF.nil (base:Nat) (w:World):OwnF base w (.slice none 0 0) []:=⟨[],World.ownsRow_nil _ _ _ _,by simp,by simp⟩
theorem OwnF.at (h:OwnF base w v l):∀ g,v.ownBlock=some g→base≤g∧g<w.heap.size:=by obtain ⟨xs,h1,_⟩:=h;exact h1.lt
theorem OwnF.isSlice (h:OwnF base w v l):∃ a cap,v=.slice a l.length cap:=by
 obtain ⟨xs,h1,_⟩:=h
 obtain ⟨_,a,cap,rfl,_⟩:=Cells.of_own h1
 exact ⟨a,cap,rfl⟩
theorem OwnF.lower {base':Nat} (h:OwnF base w v l) (hb:base'≤base):OwnF base' w v l:=by
 obtain ⟨xs,h1,h2,h3⟩:=h
 exact ⟨xs,owns_base h1 hb,h2,fun i f hf=>by obtain ⟨a,b,pv,c,d1,d2,d3⟩:=h3 i f hf;exact ⟨a,b,pv,c,d1,d2,by omega,d3.2⟩⟩
theorem OwnF.frames (h:OwnF base w v l):FramesAt base w.heap.size w v l:=by
 obtain ⟨xs,h1,_,h2⟩:=h
 have hlx:=h1.1
 refine ⟨fun i j=>xs.getD (i*3+j) undef,Rows.of_own h1 (fun i j hi hj=>?_),fun i hi=>?_⟩
 ·have:i*3+j<xs.length:=by omega
  simp [this]
 ·obtain ⟨a,b,pv,c,d1,d2,d3⟩:=h2 i (l.getD i default) (by simp [hi])
  refine ⟨?_,?_,?_⟩
  ·show xs.getD (i*3+0) undef=_
   rw [Nat.add_zero,List.getD_eq_getElem?_getD,a];rfl
  ·show xs.getD (i*3+1) undef=_
   rw [List.getD_eq_getElem?_getD,b];rfl
  ·show Ints .i64 base w.heap.size w (xs.getD (i*3+2) undef) _
   rw [List.getD_eq_getElem?_getD,d1]
   exact d2.mono d3.1 (by omega)
end
section
variable {P:Program}
theorem wpList_append_frame {w:World} {ops:Array Oper} {rest:List Oper} {o:Oper} {a:Act} {Q:Exit→Act→World→Prop} (hgd:o.guard=none) (s x:Operand) (t:TypeId)
  (ho:o.op=.call { callee:=.builtin .append,args:=#[s,x],argTypes:=#[t,t] })
  {z:Value} {bytes base lo2 hi2 b:Nat} {v sv pv:Value} {l:List FrameD} {f:FrameD} (E:Elem P t 73 z 3 bytes)
  (hown:OwnF base w v l) (hv:a.eval s=v) (hs:Cells 3 lo2 hi2 w sv 1 [.int .i64 f.W,.int .i64 f.H,pv]) (hp:Ints .i64 b (b+1) w pv f.pix) (hb:base≤b∧b<w.heap.size∧v.ownBlock≠some b) (hx:a.eval x=sv)
  (hbytes:(l.length+1)*bytes≤140737488355328) (hbase:base≤w.heap.size)
  (h:∀ v' w',OwnF base w' v' (l ++ [f])→Acc v w v' w'→wpList P ops Q rest (a.put o.dst v') w'):wpList P ops Q (o :: rest) a w:=by
 have hle:l.length+1≤140737488355328:=Nat.le_trans (Nat.le_mul_of_pos_right _ E.bp) hbytes
 obtain ⟨xs,h1,h2,h3⟩:=hown
 have hpv:pv.oneCell'=true:=by obtain ⟨a,cap,rfl,_⟩:=hp.open;rfl
 have hone:∀ u∈[Value.int .i64 f.W,.int .i64 f.H,pv],u.oneCell'=true:=by
  intro u hu
  simp only [List.mem_cons,List.not_mem_nil,or_false] at hu
  rcases hu with rfl | rfl | rfl
  ·rfl
  ·rfl
  ·exact hpv
 refine wpList_append_cells hgd s x t ho E h1 hv hs hx hone (by simp only [maxLen];omega) hbytes hbase fun v' w' h2' h3' h4=>?_
 have ha:Acc v w v' w':=⟨h3',h4.imp id fun e g hg=>by rw [e] at hg;injection hg with hg;omega⟩
 have hsz:=h3'.size
 have hblk:∀ c,base≤c∧c<w.heap.size∧v.ownBlock≠some c→base≤c∧c<w'.heap.size∧v'.ownBlock≠some c:=fun c hc=>⟨hc.1,by omega,fun e=>by
  rcases h4 with e' | e'
  ·exact hc.2.2 (e'.symm.trans e)
  ·rw [e'] at e;injection e with e;omega⟩
 refine h v' w' ⟨xs ++ [.int .i64 f.W,.int .i64 f.H,pv],by rw [List.length_append];exact h2',fun u hu=>(List.mem_append.1 hu).elim (h2 u) (hone u),fun i g hg=>?_⟩ ha
 have hlx:=h1.1
 by_cases hi:i<l.length
 ·rw [List.getElem?_append_left hi] at hg
  obtain ⟨e0,e1,q,c,d1,d2,d3⟩:=h3 i g hg
  exact ⟨by rw [List.getElem?_append_left (by omega)];exact e0,by rw [List.getElem?_append_left (by omega)];exact e1,q,c,by rw [List.getElem?_append_left (by omega)];exact d1,
   d2.only h3' (fun x hx=>by have hne:x≠c:=fun e=>d3.2.2 (by rw [← e];simpa using hx);omega),hblk c d3⟩
 ·rw [List.getElem?_append_right (by omega)] at hg
  have hlt:=(List.getElem?_eq_some_iff.1 hg).1
  have hi0:i=l.length:=by simp at hlt;omega
  subst hi0
  simp at hg
  subst hg
  refine ⟨?_,?_,pv,b,?_,hp.only h3' (fun x hx=>by have hne:x≠b:=fun e=>hb.2.2 (by rw [← e];simpa using hx);omega),hblk b hb⟩
  ·rw [List.getElem?_append_right (by omega),show l.length*3-xs.length=0 by omega];rfl
  ·rw [List.getElem?_append_right (by omega),show l.length*3+1-xs.length=1 by omega];rfl
  ·rw [List.getElem?_append_right (by omega),show l.length*3+2-xs.length=2 by omega];rfl
end
theorem EFr:Elem Tryz.prog 61 73 (.agg #[.int .i64 0,.int .i64 0,.slice none 0 0]) 3 40:=Elem.mk' Tryz.underlying61 (by kernel_rfl) rfl (by omega) (by omega)
/-- what the elements of a row of coded frames are: their data lie from lo on, below hi -/
def ElKD (lo hi:Nat) (w:World) (xs:List Value) (l:List Coded):Prop :=
 (∀ u∈xs,u.oneCell'=true)∧∀ i c,l[i]?=some c→xs[i*2]?=some (.int .i64 c.kind)∧InK .i64 c.kind∧∃ dv,xs[i*2+1]?=some dv∧Ints .u8 lo hi w dv c.data
def OwnKD (lo hi base:Nat) (w:World) (v:Value) (l:List Coded):Prop:=hi≤base∧∃ xs,w.ownsRow base 69 2 v l.length xs∧ElKD lo hi w xs l
section
variable {lo hi base:Nat} {w w':World} {v v':Value} {l m:List Coded} {S:List Nat}
theorem ElKD.only {xs:List Value} (h:ElKD lo hi w xs l) (o:Only S w w') (hS:∀ g∈S,hi≤g):ElKD lo hi w' xs l :=
 ⟨h.1,fun i c hc=>by obtain ⟨a,b,dv,d1,d2⟩:=h.2 i c hc;exact ⟨a,b,dv,d1,d2.only o (fun g hg=>.inr (hS g hg))⟩⟩
theorem OwnKD.only (h:OwnKD lo hi base w v l) (o:Only S w w') (hS:∀ g∈S,hi≤g∧v.ownBlock≠some g):OwnKD lo hi base w' v l:=by
 obtain ⟨h0,xs,h1,h2⟩:=h
 exact ⟨h0,xs,owns_only h1 o (fun g hg=>(hS g hg).2),h2.only o (fun g hg=>(hS g hg).1)⟩
theorem OwnKD.quiet (h:OwnKD lo hi base w v l) (o:Only [] w w'):OwnKD lo hi base w' v l:=h.only o (by simp)
theorem OwnKD.nil (h:hi≤base) (w:World):OwnKD lo hi base w (.slice none 0 0) []:=⟨h,[],World.ownsRow_nil _ _ _ _,by simp,by simp⟩
theorem OwnKD.at (h:OwnKD lo hi base w v l):∀ g,v.ownBlock=some g→base≤g∧g<w.heap.size:=by obtain ⟨_,xs,h1,_⟩:=h;exact h1.lt
theorem OwnKD.isSlice (h:OwnKD lo hi base w v l):∃ a cap,v=.slice a l.length cap:=by
 obtain ⟨_,xs,h1,_⟩:=h
 obtain ⟨_,a,cap,rfl,_⟩:=Cells.of_own h1
 exact ⟨a,cap,rfl⟩
theorem OwnKD.codeds (h:OwnKD lo hi base w v l) (hl:lo≤hi) (hb:base≤w.heap.size):CodedsAt lo w.heap.size w v l:=by
 obtain ⟨h0,xs,h1,_,h2⟩:=h
 have hlx:=h1.1
 refine ⟨fun i j=>xs.getD (i*2+j) undef,(Rows.of_own h1 (fun i j hi hj=>?_)).mono (by omega) (Nat.le_refl _),fun i hi=>?_⟩
 ·have:i*2+j<xs.length:=by omega
  simp [this]
 ·obtain ⟨a,b,dv,c,d⟩:=h2 i (l.getD i default) (by simp [hi])
  refine ⟨?_,b,?_⟩
  ·show xs.getD (i*2+0) undef=_
   rw [Nat.add_zero,List.getD_eq_getElem?_getD,a];rfl
  ·show Ints .u8 lo w.heap.size w (xs.getD (i*2+1) undef) _
   rw [List.getD_eq_getElem?_getD,c]
   exact d.mono (Nat.le_refl _) (by omega)
theorem ElKD.one {k:Int} {dv:Value} {data:List Int} (hk:InK .i64 k) (hd:Ints .u8 lo hi w dv data):ElKD lo hi w [.int .i64 k,dv] [⟨k,data⟩]:=by
 have hdv:dv.oneCell'=true:=by obtain ⟨a,cap,rfl,_⟩:=hd.open;rfl
 refine ⟨?_,fun i c hc=>?_⟩
 ·intro u hu
  rcases List.mem_cons.1 hu with rfl | hu
  ·rfl
  ·rw [mSg.1 hu];exact hdv
 ·have hlt:=(List.getElem?_eq_some_iff.1 hc).1
  obtain rfl:i=0:=by simp at hlt;omega
  simp at hc;subst hc
  exact ⟨rfl,hk,dv,rfl,hd⟩
theorem ElKD.append {xs ys:List Value} (hl:xs.length=l.length*2) (h1:ElKD lo hi w xs l) (h2:ElKD lo hi w ys m):ElKD lo hi w (xs ++ ys) (l ++ m):=by
 refine ⟨fun u hu=>(List.mem_append.1 hu).elim (h1.1 u) (h2.1 u),fun i c hc=>?_⟩
 by_cases hi:i<l.length
 ·rw [List.getElem?_append_left hi] at hc
  obtain ⟨a,b,dv,d1,d2⟩:=h1.2 i c hc
  exact ⟨by rw [List.getElem?_append_left (by omega)];exact a,b,dv,by rw [List.getElem?_append_left (by omega)];exact d1,d2⟩
 ·rw [List.getElem?_append_right (by omega)] at hc
  obtain ⟨a,b,dv,d1,d2⟩:=h2.2 _ c hc
  have e1:(xs ++ ys)[i*2]?=ys[(i-l.length)*2]?:=by rw [List.getElem?_append_right (by omega)];congr 1;omega
  have e2:(xs ++ ys)[i*2+1]?=ys[(i-l.length)*2+1]?:=by rw [List.getElem?_append_right (by omega)];congr 1;omega
  exact ⟨by rw [e1];exact a,b,dv,by rw [e2];exact d1,d2⟩
end
section
variable {P:Program}
end
theorem ECd:Elem Tryz.prog 24 69 (.agg #[.int .i64 0,.slice none 0 0]) 2 32:=Elem.mk' Tryz.underlying24 (by kernel_rfl) rfl (by omega) (by omega)
theorem ints_none {k:IntKind} {lo hi lo' hi':Nat} {w w':World} {v:Value} {l:List Int} (h:Ints k lo hi w v l) (hl:l=[]):Ints k lo' hi' w' v l:=by
 subst hl
 obtain ⟨⟨h1,a,c,e,h3,h4,h5⟩,h6⟩:=h
 exact ⟨⟨h1,a,c,e,h3,h4,fun hp=>absurd hp (by simp)⟩,h6⟩
/-- what the elements of a row of coded frames are: their data lie in blocks of which B speaks -/
def ElCD (B:Nat→Prop) (w:World) (xs:List Value) (l:List Coded):Prop :=
 (∀ u∈xs,u.oneCell'=true)∧∀ i c,l[i]?=some c→xs[i*2]?=some (.int .i64 c.kind)∧InK .i64 c.kind∧∃ dv b,xs[i*2+1]?=some dv∧Ints .u8 b (b+1) w dv c.data∧(c.data=[]∨B b)
def OwnCD (base:Nat) (w:World) (v:Value) (l:List Coded):Prop:=∃ xs,w.ownsRow base 69 2 v l.length xs∧ElCD (fun b=>base≤b∧b<w.heap.size∧v.ownBlock≠some b) w xs l
section
variable {base:Nat} {w w':World} {v v':Value} {l m:List Coded} {S:List Nat}
theorem OwnCD.at (h:OwnCD base w v l):∀ g,v.ownBlock=some g→base≤g∧g<w.heap.size:=by obtain ⟨xs,h1,_⟩:=h;exact h1.lt
theorem OwnCD.isSlice (h:OwnCD base w v l):∃ a cap,v=.slice a l.length cap:=by
 obtain ⟨xs,h1,_⟩:=h
 obtain ⟨_,a,cap,rfl,_⟩:=Cells.of_own h1
 exact ⟨a,cap,rfl⟩
theorem OwnCD.codeds (h:OwnCD base w v l):CodedsAt base w.heap.size w v l:=by
 obtain ⟨xs,h1,_,h2⟩:=h
 have hlx:=h1.1
 refine ⟨fun i j=>xs.getD (i*2+j) undef,Rows.of_own h1 (fun i j hi hj=>?_),fun i hi=>?_⟩
 ·have:i*2+j<xs.length:=by omega
  simp [this]
 ·obtain ⟨a,b,dv,z,c,d,d3⟩:=h2 i (l.getD i default) (by simp [hi])
  refine ⟨?_,b,?_⟩
  ·show xs.getD (i*2+0) undef=_
   rw [Nat.add_zero,List.getD_eq_getElem?_getD,a];rfl
  ·show Ints .u8 base w.heap.size w (xs.getD (i*2+1) undef) _
   rw [List.getD_eq_getElem?_getD,c]
   rcases d3 with d3 | d3
   ·exact ints_none d d3
   ·exact d.mono d3.1 (by omega)
end
section
variable {P:Program}
end
/-- a block of the call's own that is no row's -/
def Free (base:Nat) (w:World) (va vb:Value) (b:Nat):Prop:=base≤b∧b<w.heap.size∧va.ownBlock≠some b∧vb.ownBlock≠some b
def OwnG (base:Nat) (w:World) (va:Value) (A:List Coded) (vb:Value) (B:List FrameD):Prop :=
 ∃ xs ys,w.ownsRow base 69 2 va A.length xs∧w.ownsRow base 73 3 vb B.length ys∧(∀ g,va.ownBlock=some g→vb.ownBlock≠some g) ∧
  ElCD (Free base w va vb) w xs A∧ElF (Free base w va vb) w ys B
section
variable {base:Nat} {w w':World} {va vb:Value} {A:List Coded} {B:List FrameD} {S:List Nat}
theorem ElCD.step {P R:Nat→Prop} {xs:List Value} (h:ElCD P w xs A) (o:Only S w w') (hS:∀ g∈S,¬ P g) (hi:∀ b,P b→R b):ElCD R w' xs A:=by
 obtain ⟨h2,h3⟩:=h
 refine ⟨h2,fun i c hc=>?_⟩
 obtain ⟨a,b,dv,z,d1,d2,d3⟩:=h3 i c hc
 rcases d3 with d3 | d3
 ·exact ⟨a,b,dv,z,d1,ints_none d2 d3,.inl d3⟩
 ·exact ⟨a,b,dv,z,d1,d2.only o (fun g hg=>by have hne:g≠z:=fun e=>hS g hg (e ▸ d3);omega),.inr (hi z d3)⟩
theorem ElF.step {P R:Nat→Prop} {xs:List Value} (h:ElF P w xs B) (o:Only S w w') (hS:∀ g∈S,¬ P g) (hi:∀ b,P b→R b):ElF R w' xs B:=by
 obtain ⟨h2,h3⟩:=h
 refine ⟨h2,fun i f hf=>?_⟩
 obtain ⟨a,b,pv,c,d1,d2,d3⟩:=h3 i f hf
 exact ⟨a,b,pv,c,d1,d2.only o (fun g hg=>by have hne:g≠c:=fun e=>hS g hg (e ▸ d3);omega),hi c d3⟩
theorem OwnG.only (h:OwnG base w va A vb B) (o:Only S w w') (hS:∀ g∈S,g<base):OwnG base w' va A vb B:=by
 obtain ⟨xs,ys,h1,h2,h3,h4,h5⟩:=h
 have hz:=o.size
 have hf:∀ b,Free base w va vb b→Free base w' va vb b:=fun b h=>⟨h.1,Nat.lt_of_lt_of_le h.2.1 hz,h.2.2⟩
 have hn:∀ g∈S,¬ Free base w va vb g:=fun g hg h=>by have:=hS g hg;have:=h.1;omega
 exact ⟨xs,ys,owns_only h1 o (fun g hg e=>by have:=(h1.lt g e).1;have:=hS g hg;omega),owns_only h2 o (fun g hg e=>by have:=(h2.lt g e).1;have:=hS g hg;omega),h3,h4.step o hn hf,h5.step o hn hf⟩
theorem OwnG.quiet (h:OwnG base w va A vb B) (o:Only [] w w'):OwnG base w' va A vb B:=h.only o (by simp)
theorem OwnG.nil (base:Nat) (w:World):OwnG base w (.slice none 0 0) [] (.slice none 0 0) [] :=
 ⟨[],[],World.ownsRow_nil _ _ _ _,World.ownsRow_nil _ _ _ _,(fun g e=>by cases e),⟨by simp,by simp⟩,⟨by simp,by simp⟩⟩
theorem OwnG.left (h:OwnG base w va A vb B):OwnCD base w va A:=by
 obtain ⟨xs,ys,h1,h2,h3,h4,h5⟩:=h
 exact ⟨xs,h1,h4.step (Only.refl [] w) (by simp) (fun b h=>⟨h.1,h.2.1,h.2.2.1⟩)⟩
theorem OwnG.slices (h:OwnG base w va A vb B):∃ a c b d,va=.slice a A.length c∧vb=.slice b B.length d:=by
 obtain ⟨a,c,e⟩:=h.left.isSlice
 obtain ⟨xs,ys,h1,h2,-⟩:=h
 obtain ⟨_,b,d,f,_⟩:=Cells.of_own h2
 exact ⟨a,c,b,d,e,f⟩
theorem OwnG.right (h:OwnG base w va A vb B):OwnF base w vb B:=by
 obtain ⟨xs,ys,h1,h2,h3,h4,h5⟩:=h
 exact ⟨ys,h2,h5.step (Only.refl [] w) (by simp) (fun b h=>⟨h.1,h.2.1,h.2.2.2⟩)⟩
end
section
variable {P:Program}
theorem wpList_append_gA {w:World} {ops:Array Oper} {rest:List Oper} {o:Oper} {a:Act} {Q:Exit→Act→World→Prop} (hgd:o.guard=none) (s x:Operand) (t:TypeId)
  (ho:o.op=.call { callee:=.builtin .append,args:=#[s,x],argTypes:=#[t,t] })
  {z:Value} {bytes base lo2 hi2 b:Nat} {va vb sv dv:Value} {A:List Coded} {B:List FrameD} {c:Coded} (E:Elem P t 69 z 2 bytes)
  (hown:OwnG base w va A vb B) (hv:a.eval s=va) (hs:Cells 2 lo2 hi2 w sv 1 [.int .i64 c.kind,dv]) (hk:InK .i64 c.kind) (hp:Ints .u8 b (b+1) w dv c.data) (hb:c.data=[]∨Free base w va vb b) (hx:a.eval x=sv)
  (hbytes:(A.length+1)*bytes≤140737488355328) (hbase:base≤w.heap.size)
  (h:∀ v' w',OwnG base w' v' (A ++ [c]) vb B→Acc va w v' w'→wpList P ops Q rest (a.put o.dst v') w'):wpList P ops Q (o :: rest) a w:=by
 have hle:A.length+1≤140737488355328:=Nat.le_trans (Nat.le_mul_of_pos_right _ E.bp) hbytes
 obtain ⟨xs,ys,h1,h2,h3,h4,h5⟩:=hown
 have hpv:dv.oneCell'=true:=by obtain ⟨a,cap,rfl,_⟩:=hp.open;rfl
 have hone:∀ u∈[Value.int .i64 c.kind,dv],u.oneCell'=true:=by
  intro u hu
  simp only [List.mem_cons,List.not_mem_nil,or_false] at hu
  rcases hu with rfl | rfl
  ·rfl
  ·exact hpv
 refine wpList_append_cells hgd s x t ho E h1 hv hs hx hone (by simp only [maxLen];omega) hbytes hbase fun v' w' h2' h3' h4'=>?_
 have ha:Acc va w v' w':=⟨h3',h4'.imp id fun e g hg=>by rw [e] at hg;injection hg with hg;omega⟩
 have hsz:=h3'.size
 have hf:∀ y,Free base w va vb y→Free base w' v' vb y:=fun y hc=>⟨hc.1,by have:=hc.2.1;omega,fun e=>by
  rcases h4' with e' | e'
  ·exact hc.2.2.1 (e'.symm.trans e)
  ·rw [e'] at e;injection e with e;have:=hc.2.1;omega,hc.2.2.2⟩
 have hn:∀ g∈va.ownBlock.toList,¬ Free base w va vb g:=fun g hg h=>h.2.2.1 (by simpa using hg)
 have hlx:=h1.1
 obtain ⟨k1,k2⟩:=h4.step h3' hn hf
 refine h v' w' ⟨xs ++ [.int .i64 c.kind,dv],ys,by rw [List.length_append];exact h2',owns_only h2 h3' (fun g hg e=>h3 g (by simpa using hg) e),fun g e e2=>?_,⟨fun u hu=>(List.mem_append.1 hu).elim (k1 u) (hone u),fun i g hg=>?_⟩,h5.step h3' hn hf⟩ ha
 ·rcases h4' with e' | e'
  ·exact h3 g (e'.symm.trans e) e2
  ·rw [e'] at e;injection e with e;have:=(h2.lt g e2).2;omega
 by_cases hi:i<A.length
 ·rw [List.getElem?_append_left hi] at hg
  obtain ⟨e0,e1,q,y,d1,d2⟩:=k2 i g hg
  exact ⟨by rw [List.getElem?_append_left (by omega)];exact e0,e1,q,y,by rw [List.getElem?_append_left (by omega)];exact d1,d2⟩
 ·rw [List.getElem?_append_right (by omega)] at hg
  have hlt:=(List.getElem?_eq_some_iff.1 hg).1
  have hi0:i=A.length:=by simp at hlt;omega
  subst hi0
  simp at hg
  subst hg
  refine ⟨?_,hk,dv,b,?_,?_⟩
  ·rw [List.getElem?_append_right (by omega),show A.length*2-xs.length=0 by omega];rfl
  ·rw [List.getElem?_append_right (by omega),show A.length*2+1-xs.length=1 by omega];rfl
  ·rcases hb with hb | hb
   ·exact ⟨ints_none hp hb,.inl hb⟩
   ·exact ⟨hp.only h3' (fun x hx=>by have hne:x≠b:=fun e=>hb.2.2.1 (by rw [← e];simpa using hx);omega),.inr (hf b hb)⟩
theorem wpList_append_gB {w:World} {ops:Array Oper} {rest:List Oper} {o:Oper} {a:Act} {Q:Exit→Act→World→Prop} (hgd:o.guard=none) (s x:Operand) (t:TypeId)
  (ho:o.op=.call { callee:=.builtin .append,args:=#[s,x],argTypes:=#[t,t] })
  {z:Value} {bytes base lo2 hi2 b:Nat} {va vb sv pv:Value} {A:List Coded} {B:List FrameD} {f:FrameD} (E:Elem P t 73 z 3 bytes)
  (hown:OwnG base w va A vb B) (hv:a.eval s=vb) (hs:Cells 3 lo2 hi2 w sv 1 [.int .i64 f.W,.int .i64 f.H,pv]) (hp:Ints .i64 b (b+1) w pv f.pix) (hb:Free base w va vb b) (hx:a.eval x=sv)
  (hbytes:(B.length+1)*bytes≤140737488355328) (hbase:base≤w.heap.size)
  (h:∀ v' w',OwnG base w' va A v' (B ++ [f])→Acc vb w v' w'→wpList P ops Q rest (a.put o.dst v') w'):wpList P ops Q (o :: rest) a w:=by
 have hle:B.length+1≤140737488355328:=Nat.le_trans (Nat.le_mul_of_pos_right _ E.bp) hbytes
 obtain ⟨xs,ys,h1,h2,h3,h4,h5⟩:=hown
 have hpv:pv.oneCell'=true:=by obtain ⟨a,cap,rfl,_⟩:=hp.open;rfl
 have hone:∀ u∈[Value.int .i64 f.W,.int .i64 f.H,pv],u.oneCell'=true:=by
  intro u hu
  simp only [List.mem_cons,List.not_mem_nil,or_false] at hu
  rcases hu with rfl | rfl | rfl
  ·rfl
  ·rfl
  ·exact hpv
 refine wpList_append_cells hgd s x t ho E h2 hv hs hx hone (by simp only [maxLen];omega) hbytes hbase fun v' w' h2' h3' h4'=>?_
 have ha:Acc vb w v' w':=⟨h3',h4'.imp id fun e g hg=>by rw [e] at hg;injection hg with hg;omega⟩
 have hsz:=h3'.size
 have hf:∀ y,Free base w va vb y→Free base w' va v' y:=fun y hc=>⟨hc.1,by have:=hc.2.1;omega,hc.2.2.1,fun e=>by
  rcases h4' with e' | e'
  ·exact hc.2.2.2 (e'.symm.trans e)
  ·rw [e'] at e;injection e with e;have:=hc.2.1;omega⟩
 have hn:∀ g∈vb.ownBlock.toList,¬ Free base w va vb g:=fun g hg h=>h.2.2.2 (by simpa using hg)
 have hlx:=h2.1
 obtain ⟨k1,k2⟩:=h5.step h3' hn hf
 refine h v' w' ⟨xs,ys ++ [.int .i64 f.W,.int .i64 f.H,pv],owns_only h1 h3' (fun g hg e=>h3 g e (by simpa using hg)),by rw [List.length_append];exact h2',fun g e e2=>?_,h4.step h3' hn hf,fun u hu=>(List.mem_append.1 hu).elim (k1 u) (hone u),fun i g hg=>?_⟩ ha
 ·rcases h4' with e' | e'
  ·exact h3 g e (e'.symm.trans e2)
  ·rw [e'] at e2;injection e2 with e2;have:=(h1.lt g e).2;omega
 by_cases hi:i<B.length
 ·rw [List.getElem?_append_left hi] at hg
  obtain ⟨e0,e1,q,y,d1,d2⟩:=k2 i g hg
  exact ⟨by rw [List.getElem?_append_left (by omega)];exact e0,by rw [List.getElem?_append_left (by omega)];exact e1,q,y,by rw [List.getElem?_append_left (by omega)];exact d1,d2⟩
 ·rw [List.getElem?_append_right (by omega)] at hg
  have hlt:=(List.getElem?_eq_some_iff.1 hg).1
  have hi0:i=B.length:=by simp at hlt;omega
  subst hi0
  simp at hg
  subst hg
  refine ⟨?_,?_,pv,b,?_,hp.only h3' (fun x hx=>by have hne:x≠b:=fun e=>hb.2.2.2 (by rw [← e];simpa using hx);omega),hf b hb⟩
  ·rw [List.getElem?_append_right (by omega),show B.length*3-ys.length=0 by omega];rfl
  ·rw [List.getElem?_append_right (by omega),show B.length*3+1-ys.length=1 by omega];rfl
  ·rw [List.getElem?_append_right (by omega),show B.length*3+2-ys.length=2 by omega];rfl
end
def FramesP (w:World) (r:Except Err (List FrameD)) (e:Ending) (w':World):Prop :=
 Only [] w w'∧match r with
  | .ok fs=>∃ a cap,e=.returned (.tuple #[.slice a fs.length cap,.nilIface])∧FramesAt w.heap.size w'.heap.size w' (.slice a fs.length cap) fs
  | .error er=>∃ ev,e=.returned (.tuple #[.slice none 0 0,ev])∧ErrV w.heap.size w'.heap.size w' ev er
theorem dropC {l:List Coded} {k:Nat} (h:k<l.length):l.drop k=l.getD k default :: l.drop (k+1):=by
 rw [List.drop_eq_getElem_cons h,List.getD_eq_getElem?_getD,List.getElem?_eq_getElem h];rfl
theorem frames_any {lo hi:Nat} {v:Value} {w:World} {l:List Coded} (W H:Int) (h:CodedsAt lo hi w v l) :
  Calls Tryz.prog 31 #[v,.int .i64 W,.int .i64 H] w (FramesP w (framesD l W H)):=by
 refine hidQ fun Q HPost=>?_
 obtain ⟨a,cap,rfl,hcap,hmax,hel⟩:=h.open
 have Hel:=lh hel
 have hll:(l.length:Int)≤9223372036854775807:=by unfold maxLen at hmax;omega
 by_cases h16:16<l.length
 ·have hr:framesD l W H=.error ⟨[],5⟩:=by unfold framesD;rw [if_pos h16]
  rw [hr] at HPost
  have h16i:(16:Int)<(l.length:Int):=by omega
  clear h hel hcap hmax hr h16
  go_enter Tryz.func31,Tryz.ntmps31
  go_wp2_with fail
  exact HPost.out _ _ ⟨Only.refl _ _,_,rfl,ErrV.code _ _ _ _⟩
 ·have hr:framesD l W H=framesGo W H l 0 frame0 []:=by unfold framesD;rw [if_neg h16]
  rw [hr] at HPost
  have h16i:¬ (16:Int)<(l.length:Int):=by omega
  have h16n:l.length≤16:=by omega
  clear h hel hcap hmax hr h16
  go_enter Tryz.func31,Tryz.ntmps31
  go_wp2_with fail
  have HQ1:=lh (Only.new w (.cells #[.int .i64 0,.int .i64 0,.slice none 0 0] 73))
  have HRA:Hid ((w.alloc (.cells #[.int .i64 0,.int .i64 0,.slice none 0 0] 73)).heap[w.heap.size]?=some (.cells #[.int .i64 0,.int .i64 0,.slice none 0 0] 73 (0,0))):=lh (heap_alloc_new w _)
  have HZ1:Hid ((w.alloc (.cells #[.int .i64 0,.int .i64 0,.slice none 0 0] 73)).heap.size=w.heap.size+1):=lh (by simp)
  generalize hW1:World.alloc w _=W1 at *
  clear hW1
  go_loopw [20,8,10,11,12,13] (fun i r _ _ _ _ wr=>∃ (k:Nat) (prev:FrameD) (acc:List FrameD) (pv:Value) (b:Nat),k≤l.length∧i=.int .i64 k∧Hid (framesGo W H (l.drop k) k prev acc=framesGo W H l 0 frame0 [])∧Hid (acc.length=k)∧Hid (OwnF (w.heap.size+1) wr r acc)∧Hid (From (w.heap.size+1) r)∧Hid (wr.heap[w.heap.size]?=some (.cells #[.int .i64 prev.W,.int .i64 prev.H,pv] 73 (0,0)))∧Hid (Ints .i64 b (b+1) wr pv prev.pix)∧Hid (Only [] w wr)) (fun i _ _ _ _ _ _=>l.length-(intOf i).toNat)
  case atStart=>exact ⟨0,frame0,[],.slice none 0 0,0,by omega,rfl,lh rfl,lh rfl,lh (OwnF.nil _ _),lh (From.nil _),HRA,lh (Ints.nil _ _ _ _),HQ1⟩
  case round =>
   obtain ⟨k,prev,acc,pv,b,hk,rfl,Hgo,Hal,HOk,HFk,HRk,HIk,HQk⟩:=hrel
   obtain ⟨ra,rcap,rfl⟩:=HOk.out.isSlice
   rw [Hal.out] at HOk HFk ⊢
   by_cases hlt:k<l.length
   ·have hki:(k:Int)<(l.length:Int):=by omega
    have hk0:(0:Int)≤(k:Int):=by omega
    obtain ⟨cb,coff,dv,rfl,_,_,hc1,hc2,hik,hd⟩:=Hel.out k hlt
    have c0:=HQk.out.cell hc1 (by simp)
    have c1:=HQk.out.cell hc2 (by simp)
    have hgo:=Hgo.out
    rw [dropC hlt] at hgo
    generalize l.getD k default=c at *
    obtain ⟨pa,pcap,rfl,-⟩:=HIk.out.open
    obtain ⟨da,dcap,rfl,-⟩:=hd.open
    have HGo:=lh hgo
    have HD:=lh (hd.quiet HQk.out)
    have hzk:=HQk.out.size
    obtain ⟨r0,r1,r2⟩:=frame_cells HRk.out
    have n0:=block_lt_of_cell r0
    simp only at n0
    have n1:¬ wr.heap.size=w.heap.size:=by omega
    have n2:¬ w.heap.size=wr.heap.size:=by omega
    clear hgo hc1 hc2 hd hzk
    go_wp2_with fail
    clear r0 r1 r2 n0 n1 n2 c0 c1
    have hn2:=Only.new wr (.cells #[.int .i64 c.kind,.slice da c.data.length dcap] 69)
    have HQ2:=lh (HQk.out.q hn2)
    have HFr:=lh (frame_any (c:=c) (prev:=prev) W H (HD.out.quiet hn2) (HIk.out.quiet hn2))
    have HR2:=lh (hn2.row HRk.out)
    have HO2:=lh (HOk.out.quiet hn2)
    have hz2:=hn2.size
    have hzk:=HQk.out.size
    have HZ2:=lh hz2
    clear hn2
    generalize hW2:World.alloc wr _=W2 at *
    clear hW2
    go_at_call 62
    refine HFr.out.mono ?_
    rintro e W3 ⟨hq3,hm⟩
    have HQ3:=lh (HQ2.out.q hq3)
    have HR3:=lh (hq3.row HR2.out)
    have HO3:=lh (HO2.out.quiet hq3)
    have HZ3:=lh (And.intro hq3.size (And.intro hz2 hzk))
    have hn3:=block_lt_of_cell (frame_cells HR3.out).1
    have HN3:Hid (w.heap.size<W3.heap.size):=lh hn3
    clear hq3 hz2 hzk hn3
    cases hfr:frameD c prev W H with
    | error er =>
     rw [hfr] at hm
     obtain ⟨ev,rfl,hev⟩:=hm
     obtain ⟨et,eu,rfl⟩:=hev.held
     have hgo:=HGo.out
     rw [framesGo_bad hfr] at hgo
     have HGO:=lh hgo
     have hnw:=Only.new W3 (.cells #[.int .i64 0,.int .i64 0,.slice none 0 0] 73)
     have HEv:=lh ((hev.quiet hnw).mono (Nat.le_refl _) hnw.size)
     have HQ4:=lh (HQ3.out.q hnw)
     have HZ4:=lh hnw.size
     clear hgo hfr hev hnw
     go_wp2_with fail
     generalize hW4:World.alloc W3 _=W4 at *
     clear hW4
     go_at_call 53
     refine (in_any _ _ HEv.out (Nat.le_refl _) (by have:=HZ3.out;have:=HZ4.out;omega)).mono ?_
     rintro e W5 ⟨v5,rfl,he5,hq5⟩
     have HE5:=lh he5
     have HQ5:=lh (HQ4.out.q hq5)
     clear he5 hq5
     go_wp2_with fail
     refine HPost.out _ _ ?_
     rw [← HGO.out]
     exact ⟨HQ5.out,_,rfl,HE5.out.mono (by have:=HZ3.out;omega) (Nat.le_refl _)⟩
    | ok f =>
     rw [hfr] at hm
     obtain ⟨g,gcap,rfl,hown⟩:=hm
     have hff:=frameD_both (c:=c) (prev:=prev) (w:=W) (h:=H) HD.out.2
     obtain ⟨hok,hfw,hfh⟩:=hff.1 f hfr
     rw [hfw,hfh]
     have hgo:=HGo.out
     rw [framesGo_more hfr] at hgo
     have HGO:=lh hgo
     have hga:=hown.at g rfl
     have hgI:Ints .i64 g (g+1) W3 (.slice (some ⟨g,0,none⟩) f.pix.length gcap) f.pix:=by
      obtain ⟨⟨h1,a',c',e',h3,h4,h5⟩,hk'⟩:=hown.ints
      refine ⟨⟨h1,a',c',e',h3,h4,fun hp=>?_⟩,hk'⟩
      obtain ⟨b',off',e2,x,y,hc⟩:=h5 hp
      injection e' with q1 q2 q3
      rw [← q1] at e2
      injection e2 with e2
      injection e2 with e2 e3
      subst e2
      exact ⟨g,off',by rw [← q1,← e3],Nat.le_refl _,Nat.lt_succ_self _,hc⟩
     have hn4:=Only.new W3 (.cells #[.int .i64 W,.int .i64 H,.slice (some ⟨g,0,none⟩) f.pix.length gcap] 73)
     have hrT:=heap_alloc_new W3 (.cells #[.int .i64 W,.int .i64 H,.slice (some ⟨g,0,none⟩) f.pix.length gcap] 73)
     have hnotG:∀ x,(Value.slice ra k rcap).ownBlock=some x→x<wr.heap.size∧w.heap.size+1≤x:=fun x hx=>⟨(HOk.out.at x hx).2,(HOk.out.at x hx).1⟩
     have HnG:=lh hnotG
     have HQ4:=lh (HQ3.out.q hn4)
     have HR4:=lh (hn4.row HR3.out)
     have HT4:=lh hrT
     have HO4:=lh (HO3.out.quiet hn4)
     have HG4:=lh (hgI.quiet hn4)
     have HZ4:=lh (show g<W3.heap.size∧W2.heap.size≤g∧W3.heap.size<(W3.alloc (.cells #[.int .i64 W,.int .i64 H,.slice (some ⟨g,0,none⟩) f.pix.length gcap] 73)).heap.size from ⟨hga.2,hga.1,by simp⟩)
     have Hff:=lh (And.intro hfw hfh)
     clear hgo hfr hown hff hok hga hgI hn4 hrT hnotG hfw hfh
     have hn5:=Only.new (W3.alloc (.cells #[.int .i64 W,.int .i64 H,.slice (some ⟨g,0,none⟩) f.pix.length gcap] 73)) (.cells #[.int .i64 W,.int .i64 H,.slice (some ⟨g,0,none⟩) f.pix.length gcap] 73)
     have HCs:Hid (Cells 3 (W3.heap.size+1) (W3.heap.size+1+1) ((W3.alloc (.cells #[.int .i64 W,.int .i64 H,.slice (some ⟨g,0,none⟩) f.pix.length gcap] 73)).alloc (.cells #[.int .i64 W,.int .i64 H,.slice (some ⟨g,0,none⟩) f.pix.length gcap] 73)) (.slice (some ⟨W3.heap.size+1,0,none⟩) 1 1) 1 [.int .i64 f.W,.int .i64 f.H,.slice (some ⟨g,0,none⟩) f.pix.length gcap]):=lh (by
      rw [Hff.out.1,Hff.out.2]
      exact cells_newG rfl rfl (by simp [maxLen]) (by simp))
     have HO5:=lh (HO4.out.quiet hn5)
     have HG5:=lh (HG4.out.quiet hn5)
     have HT5:=lh (hn5.row HT4.out)
     have HR5:=lh (hn5.row HR4.out)
     have HQ5:=lh (HQ4.out.q hn5)
     have Hb5:Hid (w.heap.size+1≤g∧g<((W3.alloc (.cells #[.int .i64 W,.int .i64 H,.slice (some ⟨g,0,none⟩) f.pix.length gcap] 73)).alloc (.cells #[.int .i64 W,.int .i64 H,.slice (some ⟨g,0,none⟩) f.pix.length gcap] 73)).heap.size∧(Value.slice ra k rcap).ownBlock≠some g):=lh ⟨by have:=HZ4.out;have:=HZ3.out;have:=HZ2.out;have:=HN3.out;have h6:=HQk.out.size;have h7:=block_lt_of_cell (frame_cells HRk.out).1;simp only at h7;omega,by have:=HZ4.out;simp;omega,fun e=>by have:=(HnG.out g e).1;have:=HZ4.out;have:=HZ2.out;omega⟩
     have Hby:Hid ((acc.length+1)*40≤140737488355328):=lh (by rw [Hal.out];omega)
     have Hba:Hid (w.heap.size+1≤((W3.alloc (.cells #[.int .i64 W,.int .i64 H,.slice (some ⟨g,0,none⟩) f.pix.length gcap] 73)).alloc (.cells #[.int .i64 W,.int .i64 H,.slice (some ⟨g,0,none⟩) f.pix.length gcap] 73)).heap.size):=lh (by have:=HN3.out;simp;omega)
     have HTf:Hid (∀ v1 w6,Acc (.slice ra k rcap) ((W3.alloc (.cells #[.int .i64 W,.int .i64 H,.slice (some ⟨g,0,none⟩) f.pix.length gcap] 73)).alloc (.cells #[.int .i64 W,.int .i64 H,.slice (some ⟨g,0,none⟩) f.pix.length gcap] 73)) v1 w6→w6.heap[W3.heap.size]?=some (.cells #[.int .i64 W,.int .i64 H,.slice (some ⟨g,0,none⟩) f.pix.length gcap] 73 (0,0))):=lh (fun v1 w6 ho=>ho.only.rowAt HT5.out (fun hm=>by have:=(HnG.out _ (by simpa using hm)).1;have:=HZ3.out;have:=HZ2.out;omega))
     have HRf:Hid (∀ v1 w6,Acc (.slice ra k rcap) ((W3.alloc (.cells #[.int .i64 W,.int .i64 H,.slice (some ⟨g,0,none⟩) f.pix.length gcap] 73)).alloc (.cells #[.int .i64 W,.int .i64 H,.slice (some ⟨g,0,none⟩) f.pix.length gcap] 73)) v1 w6→w6.heap[w.heap.size]?=some (.cells #[.int .i64 prev.W,.int .i64 prev.H,.slice pa prev.pix.length pcap] 73 (0,0))):=lh (fun v1 w6 ho=>ho.only.rowAt HR5.out (fun hm=>by have:=(HnG.out _ (by simpa using hm)).2;omega))
     have HL:Hid ((acc ++ [f]).length=k+1):=lh (by rw [List.length_append,Hal.out];rfl)
     clear hn5
     go_wp2_with (first
      | (at_builtin;refine wpList_append_frame rfl (.tmp 38) (.tmp 40) _ rfl EFr HO5.out rfl HCs.out HG5.out Hb5.out rfl Hby.out Hba.out (fun v1 w6 hown1 ho1=>?_);obtain ⟨x1,x1cap,hx1⟩:=hown1.isSlice;subst hx1;rw [HL.out] at hown1 ho1 ⊢;obtain ⟨t0,t1,t2⟩:=frame_cells (HTf.out _ _ ho1);obtain ⟨z0,z1,z2⟩:=frame_cells (HRf.out _ _ ho1);have fz0:=frozen_of_row _ _ 0 _ _ (HRf.out _ _ ho1);have fz1:=frozen_of_row _ _ 1 _ _ (HRf.out _ _ ho1);have fz2:=frozen_of_row _ _ 2 _ _ (HRf.out _ _ ho1);have HO6:=lh hown1;have HA6:=lh ho1;clear hown1 ho1)
      | fail)
     obtain ⟨hrow,hon⟩:=row3_set (x:=.int .i64 W) (y:=.int .i64 H) (z:=.slice (some ⟨g,0,none⟩) f.pix.length gcap) (HRf.out _ _ HA6.out)
     have hq6:Only [] w w6:=HQ5.out.trans HA6.out.only (U:=[]) (by simp) (fun x hx hl=>by have:=(HnG.out x (by simpa using hx)).2;omega)
     refine ⟨⟨k+1,f,acc ++ [f],.slice (some ⟨g,0,none⟩) f.pix.length gcap,g,by omega,by go_num,HGO,HL,lh (HO6.out.only hon (by simp)),lh (HA6.out.from_ HFk.out Hba.out),lh ?_,lh ?_,lh (hq6.trans hon (by simp) (fun x hx hl=>by rw [mSg] at hx;omega))⟩,by simp [intOf];omega⟩
     ·rw [Hff.out.1,Hff.out.2];exact hrow
     ·refine (HG5.out.only HA6.out.only (fun x hx=>?_)).only hon (fun x hx=>?_)
      ·have hx1:=(HnG.out x (by simpa using hx)).1
       have:=HZ4.out
       have:=HZ2.out
       left;omega
      ·rw [mSg] at hx
       have:=Hb5.out.1
       left;omega
   ·obtain rfl:k=l.length:=by omega
    have hx:¬ (l.length:Int)<(l.length:Int):=by omega
    have hgo:=Hgo.out
    rw [List.drop_length,framesGo] at hgo
    have HGO:=lh hgo
    have hzz:=block_lt_of_cell (frame_cells HRk.out).1
    have HZZ:Hid (w.heap.size<wr.heap.size):=lh hzz
    clear hgo hzz
    go_wp2_with fail
    refine HPost.out _ _ ?_
    rw [← HGO.out]
    have hfr:=(HOk.out.lower (base':=w.heap.size) (by omega)).frames
    refine ⟨HQk.out,ra,rcap,by rw [Hal.out],?_⟩
    rw [Hal.out]
    exact hfr
theorem kframes_same {lo hi lo' hi':Nat} {v u:Value} {l:List FrameD} {w:World} (h:FramesAt lo hi w v l) (g:FramesAt lo' hi' w u l) :
  Calls Tryz.prog 29 #[v,u] w fun e w'=>e=.returned (.bool true)∧Only [] w w':=by
 refine hidQ fun Q HPost=>?_
 obtain ⟨a,cap,rfl,_,hmax,hel⟩:=h.open
 obtain ⟨a',cap',rfl,_,_,hel'⟩:=g.open
 have hll:(l.length:Int)≤9223372036854775807:=by unfold maxLen at hmax;omega
 have Hh:=lh hel
 have Hg:=lh hel'
 clear h g hel hel' hmax
 go_enter Tryz.func29,Tryz.ntmps29
 go_wp2_with fail
 go_loopw [5,17] (fun i _ wr=>∃ k:Nat,k≤l.length∧i=.int .i64 k∧Hid (Only [] w wr)) (fun i _ _=>l.length-(intOf i).toNat)
 case atStart=>exact ⟨0,by omega,rfl,lh (Only.refl _ _)⟩
 case round =>
  obtain ⟨k,hk,rfl,HQk⟩:=hrel
  by_cases hlt:k<l.length
  ·have hki:(k:Int)<(l.length:Int):=by omega
   have hk0:(0:Int)≤(k:Int):=by omega
   obtain ⟨b,off,dv,rfl,_,_,c0,c1,c2,hd⟩:=Hh.out k hlt
   obtain ⟨b',off',dv',rfl,_,_,c0',c1',c2',hd'⟩:=Hg.out k hlt
   generalize l.getD k default=x at *
   have d0:=HQk.out.cell c0 (by simp)
   have d1:=HQk.out.cell c1 (by simp)
   have d2:=HQk.out.cell c2 (by simp)
   have d3:=HQk.out.cell c0' (by simp)
   have d4:=HQk.out.cell c1' (by simp)
   have d5:=HQk.out.cell c2' (by simp)
   have hcmp:=fun (wx:World) (o:Only [] w wx)=>kframe_any (A:=x) (B:=x) (hd.quiet o) (hd'.quiet o)
   rw [show frEq x x=true by simp [frEq,eqB]] at hcmp
   have HCm:=lh hcmp
   obtain ⟨pa,pcap,rfl,-⟩:=hd.open
   obtain ⟨qa,qcap,rfl,-⟩:=hd'.open
   clear c0 c1 c2 c0' c1' c2' hd hd' hcmp
   go_wp2_with fail
   refine wp_region_held_drew (S:=(fun w'=>w'.cell? ⟨b,off+k*3,none⟩=some (.int .i64 x.W)∧w'.cell? ⟨b,off+k*3+1,none⟩=some (.int .i64 x.H)∧w'.cell? ⟨b,off+k*3+2,none⟩=some (.slice pa x.pix.length pcap)∧w'.cell? ⟨b',off'+k*3,none⟩=some (.int .i64 x.W)∧w'.cell? ⟨b',off'+k*3+1,none⟩=some (.int .i64 x.H)∧w'.cell? ⟨b',off'+k*3+2,none⟩=some (.slice qa x.pix.length qcap))) (by kernel_rfl) ?_ (fun hHeld=>?_)
   ·exact ⟨d0,d1,d2,d3,d4,d5⟩
   refine tk 0 17 ?_
   refine tk 1 18 ?_
   refine tk 2 19 ?_
   refine tk 3 20 ?_
   refine tk 4 21 ?_
   refine tk 5 22 ?_
   refine tk 6 23 ?_
   refine tk 7 24 ?_
   refine rdy (rdc 8 25 (fun K hK=>?_) .nil)
   go_simp
   go_at_call 37
   refine (HCm.out wr.drew HQk.out.drew).mono ?_
   rintro e wn ⟨rfl,hqn⟩
   have HQn:=lh ((Only.refl [] wr).drew.q hqn)
   have e0:=HQn.out.cell d0 (by simp)
   have e1:=HQn.out.cell d1 (by simp)
   have e2:=HQn.out.cell d2 (by simp)
   have e3:=HQn.out.cell d3 (by simp)
   have e4:=HQn.out.cell d4 (by simp)
   have e5:=HQn.out.cell d5 (by simp)
   clear hqn
   refine hK.out _ _ ?_ (fun hHeld=>?_)
   ·exact ⟨e0,e1,e2,e3,e4,e5⟩
   clear hK K
   try simp only [Act.put,List.setIfInBounds_toArray,List.set_cons_zero,List.set_cons_succ]
   refine tk 9 26 ?_
   refine wpAnyH_done (by kernel_rfl) ?_ _
   go_wp2_with fail
   exact ⟨⟨k+1,by omega,by go_num,lh (HQk.out.q HQn.out)⟩,by simp [intOf];omega⟩
  ·obtain rfl:k=l.length:=by omega
   have hx:¬ (l.length:Int)<(l.length:Int):=by omega
   go_wp2_with fail
   exact HPost.out _ _ ⟨rfl,HQk.out⟩
end Go.Proofs.YtkigikallkpbcaaGreatDoor
