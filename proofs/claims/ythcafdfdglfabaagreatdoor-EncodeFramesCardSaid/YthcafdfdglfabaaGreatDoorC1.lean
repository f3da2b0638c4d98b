/- Joined texts: Base, Tk, Small, Put, Rows2, VbvA, Err, Cmp. Conditions: each part names its own. -/
import Derived.Test.YthcafdfdglfabaaGreatDoorProg
import Derived.WalkSpells
import Derived.WalkLawsBesides
import Derived.Deep.AppendLies
import Derived.BigQuiet
import Derived.Lib.Hide
import Derived.Deep.RegionHeld3
namespace Go.Proofs.YthcafdfdglfabaaGreatDoor
open Go.RowKit
set_option linter.unusedVariables false
set_option linter.unusedSimpArgs false
set_option maxRecDepth 100000
set_option maxHeartbeats 16000000
inductive JEt where
 | n
abbrev JEu:=JEt.n
instance JEq:Coe Int Value:=⟨fun x=>.int .i64 x⟩
instance JEr:Coe Nat Value:=⟨fun x=>.int .i64 (x:Int)⟩
instance JEs:Coe Unit Value:=⟨fun _=>.int .i64 0⟩
instance JEtC:Coe JEt Value:=⟨fun _=>.slice none 0 0⟩
theorem Mf {p:Prop} (h:p:=by omega):p:=h
theorem Mg {p:Prop} (h:p:=by simp):p:=h
theorem Mh {p:Prop} (h:p:=by kernel_rfl):p:=h
theorem Mi {p:Prop} (h:p:=by rw [Ll];omega):p:=h
theorem Mm {p:Prop} (h:p:=by go_num):p:=h
theorem Mn {p:Prop} (h:p:=by decide):p:=h
theorem Mj {p:Prop} (h:p:=by rw [mSg] at hg;omega):p:=h
theorem Mk {p:Prop} (h:p:=by simp [intOf];omega):p:=h
theorem Ml {p:Prop} (h:p:=by rw [mSg];omega):p:=h
theorem Mo {p:Prop} (h:p:=by simp [maxLen]):p:=h
theorem Mq {p:Prop} (h:p:=by simp;omega):p:=h
theorem Mv {p:Prop} (h:p:=by cases h):p:=h
theorem Ms {p:Prop} (h:p:=by simpa using h):p:=h
theorem Mt {p:Prop} (h:p:=by simpa using hg):p:=h
theorem Mp {p:Prop} (h:p:=by rw [beq_eq_false_iff_ne];omega):p:=h
theorem Mr {p:Prop} (h:p:=by rw [mSg] at hx;omega):p:=h
theorem Mu {p:Prop} (h:p:=by simpa using hm):p:=h
theorem Mw {p:Prop} (h:p:=by rw [Lp];omega):p:=h
theorem Mx {p:Prop} (h:p:=by rw [aD];omega):p:=h
theorem My {p:Prop} (h:p:=by decide +kernel):p:=h
theorem MG {p:Prop} (h:p:=by assumption):p:=h
theorem MD {p:Prop} (h:p:=by simpa using hp):p:=h
theorem ME {p:Prop} (h:p:=by simpa using hq):p:=h
theorem MH {p:Prop} (h:p:=by simpa using hv):p:=h
theorem MI {p:Prop} (h:p:=by rw [MR];omega):p:=h
theorem Mz {p:Prop} (h:p:=by rw [beq_iff_eq];omega):p:=h
theorem MK {p:Prop} (h:p:=by rw [hfw];omega):p:=h
theorem MJ {p:Prop} (h:p:=by rw [hfh];omega):p:=h
theorem ML {p:Prop} (h:p:=by simpa using hr):p:=h
abbrev Le:=@List.getD_eq_getElem?_getD
abbrev Lf:=@List.getElem?_eq_getElem
abbrev Lg:=@List.setIfInBounds_toArray
abbrev Lh:=@List.mem_cons
abbrev Li:=@List.not_mem_nil
abbrev Lj:=@List.set_cons_zero
abbrev Lk:=@List.set_cons_succ
abbrev Ll:=@IntKind.wrap_i64
abbrev Lm:=@Nat.le_refl
abbrev Ln:=@List.length_append
abbrev Lp:=@List.length_take
abbrev Lq:=@List.length_drop
abbrev Lr:=@List.length_cons
abbrev Lt:=@List.length_map
abbrev Lu:=@List.getElem?_append_right
abbrev Lv:=@List.getElem?_append_left
abbrev Lx:=@List.mem_cons_of_mem
abbrev Lz:=@Nat.le_trans
abbrev LA:=@List.append_nil
abbrev LC:=@List.drop_eq_getElem_cons
abbrev LG:=@List.getElem?_map
abbrev LH:=@List.getElem?_drop
abbrev LI:=@List.getElem?_take
abbrev LJ:=@List.length_replicate
abbrev LK:=@List.length_set
abbrev LM:=@List.getElem_mem
abbrev LN:=@Nat.lt_of_lt_of_le
abbrev LO:=@Nat.lt_of_le_of_lt
abbrev LQ:=@List.nil_append
abbrev LR:=@List.append_assoc
abbrev LS:=@List.map_append
abbrev LU:=@Option.some.injEq
abbrev LW:=@Int.natCast_add
abbrev LX:=@Int.tmod_eq_emod_of_nonneg
abbrev LY:=@List.getElem?_set_ne
abbrev LZ:=@List.getElem?_set_self
abbrev Ma:=@List.map_cons
abbrev Mb:=@List.map_nil
abbrev Mc:=@Nat.zero_le
abbrev Md:=@List.mem_range
abbrev Me:=@List.mem_of_getElem?
theorem lh {p:Prop} (h:p):Hid p:=Lib.hid h
theorem mSg {α:Type} {a b:α}:a∈[b]↔a=b:=List.mem_singleton
structure ae (S:List Nat) (w w':World):Prop where
 os:w'.os=w.os
 tape:w'.tape=w.tape
 output:w'.output=w.output
 size:w.heap.size<=w'.heap.size
 block:∀ k,k<w.heap.size->k∉S->w'.heap[k]?=w.heap[k]?
section
variable {S T U:List Nat} {w w' a b c:World}
theorem ae.refl (S:List Nat) (w:World):ae S w w:=⟨rfl,rfl,rfl,Lm _,fun _ _ _=>rfl⟩
theorem ae.trans (h:ae S a b) (k:ae T b c) (hS:∀ g∈S,g<a.heap.size->g∈U) (hT:∀ g∈T,g<a.heap.size->g∈U):ae U a c :=
 ⟨k.os.trans h.os,k.tape.trans h.tape,k.output.trans h.output,Lz h.size k.size,fun i hi hn =>
  (k.block i (LN hi h.size) (fun e=>hn (hT i e hi))).trans (h.block i hi (fun e=>hn (hS i e hi)))⟩
theorem ae.mono (h:ae S a b) (hS:∀ g∈S,g<a.heap.size->g∈U):ae U a b:=h.trans (ae.refl [] b) hS Mg
theorem ae.of_below (h:Below w.heap.size w w'):ae S w w':=⟨h.os,h.tape,h.output,h.size,fun k hk _=>h.block k hk⟩
theorem ae.of_grown {row:Option Nat} (h:w.grownBy w' row):ae row.toList w w' :=
 ⟨h.os,h.tape,h.output,h.size,fun k hk hn=>h.block k hk (fun e=>hn (by cases row <;> simp_all))⟩
theorem ae.below {B:Nat} (h:ae S w w') (hB:B<=w.heap.size) (hS:∀ g∈S,B<=g):Below B w w' :=
 ⟨h.os,h.tape,h.output,h.size,fun k hk=>h.block k Mf (fun e=>by have:=hS k e;omega)⟩
theorem ae.quiet (h:ae [] w w'):Below w.heap.size w w':=h.below (Lm _) Mg
theorem ae.alloc (h:ae S a w) (o:Obj):ae S a (w.alloc o) :=
 h.trans (T:=[]) (ae.of_below ((Below.refl _ _).alloc (Lm _) o)) (fun _ h _=>h) Mg
theorem ae.drew (h:ae S a w):ae S a w.drew:=⟨h.os,h.tape,h.output,h.size,h.block⟩
theorem ae.drewN (h:ae S a w) (n:Nat):ae S a (w.drewN n):=⟨h.os,h.tape,h.output,h.size,h.block⟩
theorem ae.setCell (h:ae S a w) {p:Addr} (hp:p.block<a.heap.size->p.block∈S) (u:Value):ae S a (w.setCell p u) :=
 ⟨h.os,h.tape,h.output,by simpa [World.setCell] using h.size,fun i hi OT=>(Below.heap_setCell w p u i (by
  rintro rfl;exact OT (hp hi))).trans (h.block i hi OT)⟩
theorem ae.cell (h:ae S w w') {p:Addr} {v:Value} (hc:w.cell? p=some v) (hn:p.block∉S):w'.cell? p=some v :=
 (World.cell?_of_block (h.block p.block (block_lt_of_cell hc) hn)).trans hc
end
theorem ae.q {a b c:World} (h:ae [] a b) (k:ae [] b c):ae [] a c:=h.trans k Mg Mg
theorem ae.new (w:World) (o:Obj):ae [] w (w.alloc o):=(ae.refl _ _).alloc _
def cT (size lo hi:Nat) (w:World) (v:Value) (n:Nat) (xs:List Value):Prop :=
 xs.length=n*size/\∃ (a:Option Addr) (cap:Nat),v=.slice a n cap/\n<=cap/\cap<=maxLen /\
  (0<n->∃ b off,a=some ⟨b,off,none⟩/\lo<=b/\b<hi/\∀ j u,xs[j]?=some u->w.cell? ⟨b,off+j,none⟩=some u)
section
variable {size lo hi lo' hi' n:Nat} {w w':World} {v:Value} {xs:List Value} {S:List Nat}
theorem cT.only (h:cT size lo hi w v n xs) (o:ae S w w') (hS:∀ g∈S,g<lo\/hi<=g):cT size lo hi w' v n xs:=by
 obtain ⟨h1,a,cap,h2,h3,h4,h5⟩:=h;refine ⟨h1,a,cap,h2,h3,h4,fun hn=>?_⟩;obtain ⟨b,off,e,hl,hh,hc⟩:=h5 hn;exact ⟨b,off,e,hl,hh,fun j u hu=>o.cell (hc j u hu) (fun hm=>by have:=hS _ hm;simp at this;omega)⟩
theorem cT.mono (h:cT size lo hi w v n xs) (hl:lo'<=lo) (hh:hi<=hi'):cT size lo' hi' w v n xs:=by
 obtain ⟨h1,a,cap,h2,h3,h4,h5⟩:=h;refine ⟨h1,a,cap,h2,h3,h4,fun hn=>?_⟩;obtain ⟨b,off,e,hl',UZ,hc⟩:=h5 hn;exact ⟨b,off,e,Mf,Mf,hc⟩
theorem cT.nil (size lo hi:Nat) (w:World):cT size lo hi w (.slice none 0 0) 0 [] :=
 ⟨Mg,none,0,rfl,Lm _,Mg,fun h=>absurd h Mf⟩
theorem cT.of_own {base:Nat} {e:TypeId} (h:w.ownsRow base e size v n xs):cT size base w.heap.size w v n xs:=by
 obtain ⟨h1,h2⟩:=h;refine ⟨h1,?_⟩;rcases h2 with ⟨rfl,rfl⟩ | ⟨g,cap,cur,rfl,hb,hg,hn,hm,TI,ht⟩
 ·exact ⟨none,0,rfl,Lm _,Mg,fun h=>absurd h Mf⟩
 ·refine ⟨some ⟨g,0,none⟩,cap,rfl,hn,hm,fun _=>⟨g,0,rfl,hb,(Array.getElem?_eq_some_iff.1 hg).1,fun j u hu=>?_⟩⟩
  rw [cell_of_row w g (0+j) cur e (0,0) hg];rw [<- ht,LI] at hu
  split at hu
  ·simpa using hu
  ·cases hu
theorem cT.len_le (h:cT size lo hi w v n xs):n<=maxLen:=by
 obtain ⟨_,a,cap,_,h3,h4,_⟩:=h;omega
end
def InK:IntKind->Int->Prop
 | .u8,x=>0<=x/\x<=255
 | .i64,x=>-9223372036854775808<=x/\x<=9223372036854775807
 | .u32,x=>0<=x/\x<=4294967295
 | .u64,x=>0<=x/\x<=18446744073709551615
 | _,_=>True
def ah (k:IntKind) (lo hi:Nat) (w:World) (v:Value) (l:List Int):Prop :=
 cT 1 lo hi w v l.length (l.map (Value.int k))/\∀ x∈l,InK k x
def Own (k:IntKind) (e:TypeId) (base:Nat) (w:World) (v:Value) (l:List Int):Prop :=
 w.ownsRow base e 1 v l.length (l.map (Value.int k))/\∀ x∈l,InK k x
section
variable {k:IntKind} {e:TypeId} {lo hi lo' hi' base:Nat} {w w':World} {v:Value} {l:List Int} {S:List Nat}
theorem ah.only (h:ah k lo hi w v l) (o:ae S w w') (hS:∀ g∈S,g<lo\/hi<=g):ah k lo hi w' v l:=⟨h.1.only o hS,h.2⟩
theorem ah.quiet (h:ah k lo hi w v l) (o:ae [] w w'):ah k lo hi w' v l:=⟨h.1.only o Mg,h.2⟩
theorem ah.mono (h:ah k lo hi w v l) (hl:lo'<=lo) (hh:hi<=hi'):ah k lo' hi' w v l:=⟨h.1.mono hl hh,h.2⟩
theorem ah.nil (k:IntKind) (lo hi:Nat) (w:World):ah k lo hi w (.slice none 0 0) []:=⟨cT.nil _ _ _ _,Mg⟩
theorem ah.open (h:ah k lo hi w v l):∃ (a:Option Addr) (cap:Nat),v=.slice a l.length cap/\l.length<=cap/\cap<=maxLen /\
  (∀ i,i<l.length->∃ b off,a=some ⟨b,off,none⟩/\lo<=b/\b<hi) /\
  ∀ b off,a=some ⟨b,off,none⟩->∀ i,i<l.length->w.cell? ⟨b,off+i,none⟩=some (.int k (l.getD i 0)):=by
 obtain ⟨⟨_,a,cap,h2,h3,h4,h5⟩,_⟩:=h;refine ⟨a,cap,h2,h3,h4,fun i hi=>?_,fun b off e i hi=>?_⟩
 ·obtain ⟨b,off,e,x,y,_⟩:=h5 Mf
  exact ⟨b,off,e,x,y⟩
 ·obtain ⟨b',JgF,e',x,y,hc⟩:=h5 Mf
  rw [e] at e';injection e' with e'
  injection e' with e1 e2
  subst e1;subst e2;refine hc i _ ?_;simp [Lf hi]
theorem ah.at (h:ah k lo hi w v l) {i:Nat} (hi':i<l.length):∃ b off cap,v=.slice (some ⟨b,off,none⟩) l.length cap/\lo<=b/\b<hi /\
  w.cell? ⟨b,off+i,none⟩=some (.int k (l.getD i 0)):=by
 obtain ⟨a,cap,rfl,_,_,h1,h2⟩:=h.open;obtain ⟨b,off,rfl,x,y⟩:=h1 i hi';exact ⟨b,off,cap,rfl,x,y,h2 b off rfl i hi'⟩
theorem Own.ints (h:Own k e base w v l):ah k base w.heap.size w v l:=⟨cT.of_own h.1,h.2⟩
theorem Own.nil (k:IntKind) (e:TypeId) (base:Nat) (w:World):Own k e base w (.slice none 0 0) []:=⟨World.ownsRow_nil w base e 1,Mg⟩
end
section
variable {size base n:Nat} {e:TypeId} {w w':World} {v:Value} {xs:List Value} {S:List Nat} {k:IntKind} {l:List Int}
theorem iB (h:w.ownsRow base e size v n xs) (o:ae S w w') (hS:∀ g∈S,v.ownBlock≠some g):w'.ownsRow base e size v n xs:=by
 refine ⟨h.1,?_⟩;rcases h.2 with hn | ⟨g,cap,cur,rfl,hb,hgg,rest⟩
 ·exact .inl hn
 ·refine .inr ⟨g,cap,cur,rfl,hb,?_,rest⟩
  rw [o.block g (Array.getElem?_eq_some_iff.1 hgg).1 (fun hm=>hS g hm rfl)];exact hgg
theorem DS {base':Nat} (h:w.ownsRow base e size v n xs) (hb:base'<=base):w.ownsRow base' e size v n xs:=by
 refine ⟨h.1,?_⟩;rcases h.2 with hn | ⟨g,cap,cur,rfl,hb',rest⟩
 ·exact .inl hn
 ·exact .inr ⟨g,cap,cur,rfl,Mf,rest⟩
theorem Own.only (h:Own k e base w v l) (o:ae S w w') (hS:∀ g∈S,v.ownBlock≠some g):Own k e base w' v l:=⟨iB h.1 o hS,h.2⟩
theorem Own.quiet (h:Own k e base w v l) (o:ae [] w w'):Own k e base w' v l:=h.only o Mg
theorem Own.lower {base':Nat} (h:Own k e base w v l) (hb:base'<=base):Own k e base' w v l:=⟨DS h.1 hb,h.2⟩
theorem Own.at (h:Own k e base w v l):∀ g,v.ownBlock=some g->base<=g/\g<w.heap.size:=h.1.lt
end
structure Acc (bv:Value) (w:World) (v':Value) (w':World):Prop where
 only:ae bv.ownBlock.toList w w'
 at_:v'.ownBlock=bv.ownBlock\/∀ g,v'.ownBlock=some g->w.heap.size<=g
section
variable {a b c:Value} {w w' w'':World} {S:List Nat}
theorem Acc.base {B:Nat} (h:Acc a w b w') (ha:∀ g,a.ownBlock=some g->B<=g) (hB:B<=w.heap.size):∀ g,b.ownBlock=some g->B<=g:=by
 intro g hg;rcases h.at_ with e | e
 ·exact ha g (e ▸ hg)
 ·have:=e g hg;omega
end
def bB (B:Nat) (v:Value):Prop:=∀ g,v.ownBlock=some g->B<=g
theorem bB.lit {B g n c:Nat} (h:B<=g):bB B (.slice (some ⟨g,0,none⟩) n c):=by intro x hx;simp [Value.ownBlock] at hx;omega
theorem bB.nil (B:Nat):bB B (.slice none 0 0):=by intro x hx;simp [Value.ownBlock] at hx
theorem Acc.from_ {a b:Value} {w w':World} {B:Nat} (h:Acc a w b w') (ha:bB B a) (hB:B<=w.heap.size):bB B b:=h.base ha hB
theorem Acc.cell {a b:Value} {w w':World} {B:Nat} (h:Acc a w b w') (ha:bB B a) {p:Addr} {v:Value} (hc:w.cell? p=some v) (hp:p.block<B):w'.cell? p=some v :=
 h.only.cell hc (fun hm=>by have:=ha p.block Mu;omega)
theorem ae.acc {a b:Value} {w0 w w':World} (h:ae [] w0 w) (k:Acc a w b w') (ha:bB w0.heap.size a):ae [] w0 w' :=
 h.trans k.only Mg (fun g hg MO=>by have:=ha g Mt;omega)
structure kI (P:Program) (t e:TypeId) (z:Value) (size bytes:Nat):Prop where
 ut:P.underlying t=some (.slice e)
 inf:∃ i,P.info? e=some i/\i.zero=some z/\i.size=size/\i.bytes=bytes
 zs:z.cells.size=size
 pos:0<size
 bp:0<bytes
theorem kI.mk' {P:Program} {t e:TypeId} {z:Value} {size bytes:Nat} (ut:P.underlying t=some (.slice e))
  (h:(P.info? e).map (fun i=>(i.zero,i.size,i.bytes))=some (some z,size,bytes)) (zs:z.cells.size=size) (pos:0<size) (bp:0<bytes):kI P t e z size bytes:=by
 obtain ⟨i,h1,h2,h3,h4⟩:=info_parts h;exact ⟨ut,⟨i,h1,h2,h3,h4⟩,zs,pos,bp⟩
section
variable {P:Program}
theorem pj {w:World} {t ty e:TypeId} {z:Value} {size bytes base lo hi n m:Nat} {v sv:Value} {xs QJ:List Value} (E:kI P t e z size bytes)
  (MQ:w.ownsRow base e size v n xs) (hs:cT size lo hi w sv m QJ) (h1:∀ u∈QJ,u.oneCell'=true)
  (h63:n+m<=maxLen) (OQ:(n+m)*bytes<=140737488355328) (Pe:base<=w.heap.size) :
  ∃ v' w',(Builtin.append_ #[t,t] ty #[v,sv]).run P w=.ok v' w'/\w'.ownsRow base e size v' (n+m) (xs ++ QJ)/\ae v.ownBlock.toList w w' /\
   (v'.ownBlock=v.ownBlock\/v'.ownBlock=some w.heap.size):=by
 obtain ⟨i,hi,hz,JpS,Qj⟩:=E.inf;obtain ⟨hl,A,cap,rfl,_,_,hc⟩:=hs;have Juv:∀ c,m=0->∃ v' w',(Builtin.append_ #[t,t] ty #[v,.slice none m c]).run P w=.ok v' w'/\w'.ownsRow base e size v' (n+m) (xs ++ QJ)/\ae v.ownBlock.toList w w' /\
   (v'.ownBlock=v.ownBlock\/v'.ownBlock=some w.heap.size):=by
  rintro c rfl;have hn:QJ=[]:=List.eq_nil_of_length_eq_zero (by simpa using hl);subst hn;refine ⟨v,w,?_,by simpa using MQ,ae.refl _ _,.inl rfl⟩;rcases MQ.2 with ⟨rfl,rfl⟩ | ⟨g,cap,cur,rfl,_,_,hnc,_⟩
  ·simp [Builtin.append_,run_underlying E.ut,sizeOf,typeInfo,hi,Builtin.lenOf,Builtin.firstCells]
  ·simp [Builtin.append_,run_underlying E.ut,sizeOf,typeInfo,hi,Builtin.lenOf,Builtin.firstCells,hnc,storeCells]
 rcases A with _ | ad
 ·have hm:m=0:=by
   rcases Nat.eq_zero_or_pos m with h0 | h0
   ·exact h0
   ·obtain ⟨b,off,h,_⟩:=hc h0
    cases h
  exact Juv cap hm
 ·have UV:∀ j u,QJ[j]?=some u->w.cell? (ad.add j)=some u:=by
   intro j u hu;rcases Nat.eq_zero_or_pos m with h0 | h0
   ·subst h0
    have hn:QJ=[]:=List.eq_nil_of_length_eq_zero (by simpa using hl);subst hn;simp at hu
   ·obtain ⟨b,off,h,_,_,hc'⟩:=hc h0
    injection h with h
    subst h;have:=hc' j u hu;unfold Addr.add
    split
    ·rename_i hj;subst hj;simpa using this
    ·simpa using this
  obtain ⟨v',w',Jec,h2,h3,_,h5⟩:=run_append_own_at (P:=P) w base t ty e i z size bytes E.ut hi hz JpS Qj E.zs E.pos v n xs MQ ad m cap QJ hl UV h1 h63 OQ Pe;exact ⟨v',w',Jec,h2,ae.of_grown h3,h5⟩
theorem kB {w:World} {o:Oper} {a:Act} {K:Act->World->Prop} {Q:Exit->Act->World->Prop} (s x:Operand) (t:TypeId)
  (ho:o.op=.call { callee:=.builtin .append,args:=#[s,x],argTypes:=#[t,t] })
  {e:TypeId} {z:Value} {size bytes base lo hi n m:Nat} {v sv:Value} {xs QJ:List Value} (E:kI P t e z size bytes)
  (MQ:w.ownsRow base e size v n xs) (hv:a.eval s=v) (hs:cT size lo hi w sv m QJ) (hx:a.eval x=sv) (h1:∀ u∈QJ,u.oneCell'=true)
  (h63:n+m<=maxLen) (OQ:(n+m)*bytes<=140737488355328) (Pe:base<=w.heap.size)
  (h:∀ v' w',w'.ownsRow base e size v' (n+m) (xs ++ QJ)->ae v.ownBlock.toList w w'->(v'.ownBlock=v.ownBlock\/v'.ownBlock=some w.heap.size)->K (a.put o.dst v') w'):o.wp P a w K Q:=by
 obtain ⟨v',w',Jec,h2,h3,h4⟩:=pj (P:=P) (ty:=o.type) E MQ hs h1 h63 OQ Pe;unfold Oper.wp execOp;simp only [ho,resolve,invoke,builtin,Sem.run_bind,Sem.run_pure,Result.andThen_ok,List.map_toArray,Ma,Mb,hv,hx,Jec];exact h v' w' h2 h3 h4
theorem im {w:World} {ops:Array Oper} {rest:List Oper} {o:Oper} {a:Act} {Q:Exit->Act->World->Prop} (XE:o.guard=none) (s x:Operand) (t:TypeId)
  (ho:o.op=.call { callee:=.builtin .append,args:=#[s,x],argTypes:=#[t,t] })
  {e:TypeId} {z:Value} {size bytes base lo hi n m:Nat} {v sv:Value} {xs QJ:List Value} (E:kI P t e z size bytes)
  (MQ:w.ownsRow base e size v n xs) (hv:a.eval s=v) (hs:cT size lo hi w sv m QJ) (hx:a.eval x=sv) (h1:∀ u∈QJ,u.oneCell'=true)
  (h63:n+m<=maxLen) (OQ:(n+m)*bytes<=140737488355328) (Pe:base<=w.heap.size)
  (h:∀ v' w',w'.ownsRow base e size v' (n+m) (xs ++ QJ)->ae v.ownBlock.toList w w'->(v'.ownBlock=v.ownBlock\/v'.ownBlock=some w.heap.size)->wpList P ops Q rest (a.put o.dst v') w'):wpList P ops Q (o :: rest) a w :=
 wpList_plain XE fun _ hK=>kB s x t ho E MQ hv hs hx h1 h63 OQ Pe fun v' w' h2 h3 h4=>hK _ _ (h v' w' h2 h3 h4)
theorem jf {w:World} {ops:Array Oper} {o:Oper} {a:Act} {K:Act->World->Prop} {Q:Exit->Act->World->Prop} {E':Prop} (XE:o.guard=none) (s x:Operand) (t:TypeId)
  (ho:o.op=.call { callee:=.builtin .append,args:=#[s,x],argTypes:=#[t,t] })
  {e:TypeId} {z:Value} {size bytes base lo hi n m:Nat} {v sv:Value} {xs QJ:List Value} (E:kI P t e z size bytes)
  (MQ:w.ownsRow base e size v n xs) (hv:a.eval s=v) (hs:cT size lo hi w sv m QJ) (hx:a.eval x=sv) (h1:∀ u∈QJ,u.oneCell'=true)
  (h63:n+m<=maxLen) (OQ:(n+m)*bytes<=140737488355328) (Pe:base<=w.heap.size)
  (h:∀ v' w',w'.ownsRow base e size v' (n+m) (xs ++ QJ)->Acc v w v' w'->K (a.put o.dst v') w'):if Region.wanted o (yielded ops a.tmps)=true then Oper.wp P o a w K Q else E':=by
 rw [if_pos (by simp [Region.wanted,XE])];exact kB s x t ho E MQ hv hs hx h1 h63 OQ Pe fun v' w' h2 h3 h4=>h v' w' h2 ⟨h3,h4.imp id fun e g hg=>by rw [e] at hg;injection hg with hg;omega⟩
theorem aw {w:World} {ops:Array Oper} {rest:List Oper} {o:Oper} {a:Act} {Q:Exit->Act->World->Prop} (XE:o.guard=none) (s x:Operand) (t:TypeId)
  (ho:o.op=.call { callee:=.builtin .append,args:=#[s,x],argTypes:=#[t,t] })
  {k:IntKind} {e:TypeId} {z:Value} {bytes base lo hi:Nat} {v sv:Value} {l m:List Int} (E:kI P t e z 1 bytes)
  (MQ:Own k e base w v l) (hv:a.eval s=v) (hs:ah k lo hi w sv m) (hx:a.eval x=sv)
  (OQ:(l.length+m.length)*bytes<=140737488355328) (Pe:base<=w.heap.size)
  (h:∀ v' w',Own k e base w' v' (l ++ m)->Acc v w v' w'->wpList P ops Q rest (a.put o.dst v') w'):wpList P ops Q (o :: rest) a w:=by
 have hle:l.length+m.length<=140737488355328:=Lz (Nat.le_mul_of_pos_right _ E.bp) OQ;refine im XE s x t ho E MQ.1 hv hs.1 hx (by simp only [List.mem_map];rintro u ⟨x,_,rfl⟩;rfl) (by simp only [maxLen];omega) OQ Pe fun v' w' h2 h3 h4=>h v' w' ⟨?_,?_⟩ ⟨h3,h4.imp id fun e g hg=>by rw [e] at hg;injection hg with hg;omega⟩
 ·simpa using h2
 ·intro y hy
  rcases List.mem_append.1 hy with hy | hy
  ·exact MQ.2 y hy
  ·exact hs.2 y hy
end
theorem Fq {k:IntKind} {w:World} {t:TypeId} {l:List Int} {vs:Array Value} (hl:vs=(l.map (Value.int k)).toArray) (hm:l.length<=maxLen) (hk:∀ x∈l,InK k x) (n:Nat) (hn:n=l.length) :
  ah k w.heap.size (w.heap.size+1) (w.alloc (.cells vs t)) (.slice (some ⟨w.heap.size,0,none⟩) n n) l:=by
 subst hn;subst hl;refine ⟨⟨Mg,some ⟨w.heap.size,0,none⟩,_,rfl,Lm _,hm,fun _=>⟨w.heap.size,0,rfl,Lm _,Nat.lt_succ_self _,fun j u hu=>?_⟩⟩,hk⟩;rw [cell_of_row _ _ _ _ _ _ (heap_alloc_new w _)];simpa using hu
theorem qq {k:IntKind} {w:World} {t:TypeId} {l:List Int} {vs:Array Value} (hl:vs=(l.map (Value.int k)).toArray) (hm:l.length<=maxLen) (hk:∀ x∈l,InK k x) (n:Nat) (hn:n=l.length) :
  Own k t w.heap.size (w.alloc (.cells vs t)) (.slice (some ⟨w.heap.size,0,none⟩) n n) l:=by
 subst hn;subst hl;refine ⟨⟨Mg,.inr ⟨w.heap.size,_,_,rfl,Lm _,heap_alloc_new w _,Lm _,hm,Mg,by simp [List.take_of_length_le]⟩⟩,hk⟩
theorem zi {size:Nat} {w:World} {t:TypeId} {vs:Array Value} {g n:Nat} {xs:List Value} (hl:vs.toList=xs) (hn:xs.length=n*size) (hm:n<=maxLen) (hg:w.heap.size=g) :
  cT size g (g+1) (w.alloc (.cells vs t)) (.slice (some ⟨g,0,none⟩) n n) n xs:=by
 subst hg;subst hl;refine ⟨hn,some ⟨w.heap.size,0,none⟩,n,rfl,Lm _,hm,fun _=>⟨w.heap.size,0,rfl,Lm _,Nat.lt_succ_self _,fun j u hu=>?_⟩⟩;rw [cell_of_row _ _ _ _ _ _ (heap_alloc_new w _)];simpa using hu
theorem ak {w:World} {o:Obj} {g:Nat} (hg:w.heap.size=g):(w.alloc o).heap[g]?=some o:=by subst hg;exact heap_alloc_new w o
theorem kW {k:IntKind} {w:World} {t:TypeId} {l:List Int} {vs:Array Value} {g:Nat} (hl:vs=(l.map (Value.int k)).toArray) (hm:l.length<=maxLen) (hk:∀ x∈l,InK k x) (n:Nat) (hn:n=l.length) (hg:w.heap.size=g) :
  Own k t g (w.alloc (.cells vs t)) (.slice (some ⟨g,0,none⟩) n n) l:=by
 subst hg;exact qq hl hm hk n hn
theorem bg {k:IntKind} {w:World} {t:TypeId} {l:List Int} {vs:Array Value} {g:Nat} (hl:vs=(l.map (Value.int k)).toArray) (hm:l.length<=maxLen) (hk:∀ x∈l,InK k x) (n:Nat) (hn:n=l.length) (hg:w.heap.size=g) :
  ah k g (g+1) (w.alloc (.cells vs t)) (.slice (some ⟨g,0,none⟩) n n) l:=by
 subst hg;exact Fq hl hm hk n hn
theorem aN {P:Program} {n:Nat} {args:Array Value} {w:World} {R:Ending->World->Prop} (k:∀ Q:Ending->World->Prop,Hid (∀ e w',R e w'->Q e w')->Calls P n args w Q):Calls P n args w R:=k _ (lh fun _ _ h=>h)
theorem nt {w w':World} (h:ae [] w w') {g:Nat} {o:Obj} (hr:w.heap[g]?=some o):w'.heap[g]?=some o:=(h.block g (Array.getElem?_eq_some_iff.1 hr).1 Mg).trans hr
theorem jl (w:World) (a b:Obj):ae [] w ((w.alloc a).alloc b)/\Hid (((w.alloc a).alloc b).heap[w.heap.size]?=some a)/\Hid (((w.alloc a).alloc b).heap[w.heap.size+1]?=some b)/\Hid (((w.alloc a).alloc b).heap.size=w.heap.size+1+1) :=
 ⟨(ae.new w a).alloc b,lh (nt ((ae.new ((w.alloc a)) b)) (heap_alloc_new w _)),lh (ak Mg),lh Mg⟩
theorem gD (w:World) (a b c:Obj):ae [] w (((w.alloc a).alloc b).alloc c)/\Hid ((((w.alloc a).alloc b).alloc c).heap[w.heap.size]?=some a)/\Hid ((((w.alloc a).alloc b).alloc c).heap[w.heap.size+1]?=some b)/\Hid ((((w.alloc a).alloc b).alloc c).heap[w.heap.size+1+1]?=some c)/\Hid ((((w.alloc a).alloc b).alloc c).heap.size=w.heap.size+1+1+1) :=
 ⟨((ae.new w a).alloc b).alloc c,lh (nt (((ae.new ((w.alloc a)) b).alloc c)) (heap_alloc_new w _)),lh (nt ((ae.new (((w.alloc a).alloc b)) c)) (ak Mg)),lh (ak Mg),lh Mg⟩
theorem JV (w:World) (a b c d e:Obj):ae [] w (((((w.alloc a).alloc b).alloc c).alloc d).alloc e)/\Hid ((((((w.alloc a).alloc b).alloc c).alloc d).alloc e).heap[w.heap.size]?=some a)/\Hid ((((((w.alloc a).alloc b).alloc c).alloc d).alloc e).heap[w.heap.size+1]?=some b)/\Hid ((((((w.alloc a).alloc b).alloc c).alloc d).alloc e).heap[w.heap.size+1+1]?=some c)/\Hid ((((((w.alloc a).alloc b).alloc c).alloc d).alloc e).heap[w.heap.size+1+1+1]?=some d)/\Hid ((((((w.alloc a).alloc b).alloc c).alloc d).alloc e).heap[w.heap.size+1+1+1+1]?=some e)/\Hid ((((((w.alloc a).alloc b).alloc c).alloc d).alloc e).heap.size=w.heap.size+1+1+1+1+1) :=
 ⟨((((ae.new w a).alloc b).alloc c).alloc d).alloc e,lh (nt (((((ae.new ((w.alloc a)) b).alloc c).alloc d).alloc e)) (heap_alloc_new w _)),lh (nt ((((ae.new (((w.alloc a).alloc b)) c).alloc d).alloc e)) (ak Mg)),lh (nt (((ae.new ((((w.alloc a).alloc b).alloc c)) d).alloc e)) (ak Mg)),lh (nt ((ae.new (((((w.alloc a).alloc b).alloc c).alloc d)) e)) (ak Mg)),lh (ak Mg),lh Mg⟩
theorem JW (w:World) (a b c d e f:Obj):ae [] w ((((((w.alloc a).alloc b).alloc c).alloc d).alloc e).alloc f)/\Hid (((((((w.alloc a).alloc b).alloc c).alloc d).alloc e).alloc f).heap[w.heap.size]?=some a)/\Hid (((((((w.alloc a).alloc b).alloc c).alloc d).alloc e).alloc f).heap[w.heap.size+1]?=some b)/\Hid (((((((w.alloc a).alloc b).alloc c).alloc d).alloc e).alloc f).heap[w.heap.size+1+1]?=some c)/\Hid (((((((w.alloc a).alloc b).alloc c).alloc d).alloc e).alloc f).heap[w.heap.size+1+1+1]?=some d)/\Hid (((((((w.alloc a).alloc b).alloc c).alloc d).alloc e).alloc f).heap[w.heap.size+1+1+1+1]?=some e)/\Hid (((((((w.alloc a).alloc b).alloc c).alloc d).alloc e).alloc f).heap[w.heap.size+1+1+1+1+1]?=some f)/\Hid (((((((w.alloc a).alloc b).alloc c).alloc d).alloc e).alloc f).heap.size=w.heap.size+1+1+1+1+1+1) :=
 ⟨(((((ae.new w a).alloc b).alloc c).alloc d).alloc e).alloc f,lh (nt ((((((ae.new ((w.alloc a)) b).alloc c).alloc d).alloc e).alloc f)) (heap_alloc_new w _)),lh (nt (((((ae.new (((w.alloc a).alloc b)) c).alloc d).alloc e).alloc f)) (ak Mg)),lh (nt ((((ae.new ((((w.alloc a).alloc b).alloc c)) d).alloc e).alloc f)) (ak Mg)),lh (nt (((ae.new (((((w.alloc a).alloc b).alloc c).alloc d)) e).alloc f)) (ak Mg)),lh (nt ((ae.new ((((((w.alloc a).alloc b).alloc c).alloc d).alloc e)) f)) (ak Mg)),lh (ak Mg),lh Mg⟩
section
variable {P:Program} {md:Region.Mode} {ops:Array Oper} {Q:Exit->Act->World->Prop} {S:World->Prop}
theorem tkw {fuel:Nat} {Nw:Array Bool} {a a':Act} {w:World} {op:Op} {ty:TypeId} {pos:String} {af:Array Edge} {gd:Option (Nat×Bool)} {v:Value} (i d:Nat)
  (hy:ops[i]?=some ⟨some d,op,ty,pos,af,gd⟩/\∀ w,S w->(execOp a.eval ⟨some d,op,ty,pos,af,gd⟩).run P w=.ok (.value v) w)
  (h:wpAnyH P md ops Q S fuel (Nw.setIfInBounds i true) a' w)
  (hs:Region.noSelect ops=true:=by kernel_rfl) (hf:Region.free md ops Nw i=true:=by kernel_rfl) (hr:(Region.ready md ops Nw).contains i=true:=by kernel_rfl)
  (hQ:∀ c a w,Q (.panic c) (a.put (some d) v) w->Q (.panic c) a w:=by exact fun _ _ _ h=>h)
  (hw:Region.wanted ⟨some d,op,ty,pos,af,gd⟩ (yielded ops a.tmps)=true:=by rfl) (hS:S w:=by assumption)
  (hp:∀ p:Act->Prop,p a'->p (a.put (some d) v):=by intro p h;(try simp only [Act.put,Lg,Lj,Lk]);exact h):wpAnyH P md ops Q S (fuel+1) Nw a w:=by
 exact wpAnyH_take hy.1 hs hf hr hQ (Or.inl ⟨hw,hy.2⟩) hS (hp (fun x=>wpAnyH P md ops Q S fuel (Nw.setIfInBounds i true) x w) h)
theorem tk {fuel:Nat} {Nw:Array Bool} {a a':Act} {w:World} {op:Op} {ty:TypeId} {pos:String} {af:Array Edge} {gd:Option (Nat×Bool)} {v:Value} (i d:Nat)
  (h:wpAnyH P md ops Q S fuel (Nw.setIfInBounds i true) a' w)
  (hy:ops[i]?=some ⟨some d,op,ty,pos,af,gd⟩/\∀ w,S w->(execOp a.eval ⟨some d,op,ty,pos,af,gd⟩).run P w=.ok (.value v) w:=by refine ⟨rfl,?_⟩;intro wz OP;(try dsimp only at OP);(repeat (have UQ:=And.left OP;replace OP:=And.right OP));go_simp;try with_reducible rfl)
  (hs:Region.noSelect ops=true:=by kernel_rfl) (hf:Region.free md ops Nw i=true:=by kernel_rfl) (hr:(Region.ready md ops Nw).contains i=true:=by kernel_rfl)
  (hQ:∀ c a w,Q (.panic c) (a.put (some d) v) w->Q (.panic c) a w:=by exact fun _ _ _ h=>h)
  (hw:Region.wanted ⟨some d,op,ty,pos,af,gd⟩ (yielded ops a.tmps)=true:=by rfl) (hS:S w:=by assumption)
  (hp:∀ p:Act->Prop,p a'->p (a.put (some d) v):=by intro p h;(try simp only [Act.put,Lg,Lj,Lk]);exact h):wpAnyH P md ops Q S (fuel+1) Nw a w:=tkw i d hy h hs hf hr hQ hw hS hp
theorem rdc {fuel:Nat} {Nw:Array Bool} {a:Act} {w:World} {op:Op} {ty:TypeId} {pos:String} {af:Array Edge} {gd:Option (Nat×Bool)} {rs:List Nat} (i d:Nat)
  (h:∀ K':Act->World->Prop,Shut (∀ a w,S w->(S w->wpAnyH P md ops Q S fuel (Nw.setIfInBounds i true) a w)->K' a w)->if Region.wanted ⟨some d,op,ty,pos,af,gd⟩ (yielded ops a.tmps)=true then Oper.wp P ⟨some d,op,ty,pos,af,gd⟩ a w K' Q else K' (a.put (some d) undef) w)
  (hs:AllReadyH P md ops Q S fuel Nw a w rs) (ho:ops[i]?=some ⟨some d,op,ty,pos,af,gd⟩:=by rfl):AllReadyH P md ops Q S fuel Nw a w (i :: rs):=AllReadyH.cons ho h hs
theorem rdn {fuel:Nat} {Nw:Array Bool} {a:Act} {w:World} {op:Op} {ty:TypeId} {pos:String} {af:Array Edge} {gd:Option (Nat×Bool)} {rs:List Nat} (i:Nat)
  (h:∀ K':Act->World->Prop,Shut (∀ a w,S w->(S w->wpAnyH P md ops Q S fuel (Nw.setIfInBounds i true) a w)->K' a w)->if Region.wanted ⟨none,op,ty,pos,af,gd⟩ (yielded ops a.tmps)=true then Oper.wp P ⟨none,op,ty,pos,af,gd⟩ a w K' Q else K' (a.put none undef) w)
  (hs:AllReadyH P md ops Q S fuel Nw a w rs) (ho:ops[i]?=some ⟨none,op,ty,pos,af,gd⟩:=by rfl):AllReadyH P md ops Q S fuel Nw a w (i :: rs):=AllReadyH.cons ho h hs
theorem rdy {fuel:Nat} {Nw:Array Bool} {a:Act} {w:World} {i:Nat} {rs:List Nat} (h:AllReadyH P md ops Q S fuel Nw a w (i :: rs)) (hr:Region.ready md ops Nw=i :: rs:=by kernel_rfl):wpAnyH P md ops Q S (fuel+1) Nw a w:=wpAnyH_ready hr Mg h
end
theorem aK {a b:Bool} (h:a=b):Ending.returned (.bool a)=.returned (.bool b):=by rw [h]
theorem dN {k:IntKind} {a b:Int} (h:a=b):Ending.returned (.int k a)=.returned (.int k b):=by rw [h]
def EZ (v l m:Int):Bool:=decide (l<=v) && decide (v<=m)
theorem Fe (v l m:Int) (w:World) :
  Calls Tryz.prog 175 #[v,l,m] w fun e w'=>e=.returned (.bool (EZ v l m))/\w=w':=by
 go_enter Tryz.func175,Tryz.ntmps175;go_wp2
 all_goals
  go_ret;exact ⟨aK (by unfold EZ;rw [Bool.eq_iff_iff];simp;try omega),rfl⟩
def eA (n:Int):Bool:=decide (8<=n/\n<=32/\n % 8=0)
theorem Cw {p:Prop} (h:p:=by
 go_enter Tryz.func63,Tryz.ntmps63;go_wp2
 all_goals
  go_ret;exact ⟨aK (by unfold eA;rw [Bool.eq_iff_iff];simp;try omega),rfl⟩):p:=h
theorem lg (n:Int) (w:World) :
  Calls Tryz.prog 63 #[n] w fun e w'=>e=.returned (.bool (eA n))/\w=w':=by
 by_cases h8:8<=n
 ·by_cases h32:n<=32
  all_goals
   exact Cw
 ·exact Cw
def iw (n:Int):Bool:=decide (0<=n/\n<=255)
theorem sf (n:Int) (w:World) :
  Calls Tryz.prog 64 #[n] w fun e w'=>e=.returned (.bool (iw n))/\w=w':=by
 go_enter Tryz.func64,Tryz.ntmps64;go_wp2
 all_goals
  go_ret;exact ⟨aK (by unfold iw;rw [Bool.eq_iff_iff];simp;try omega),rfl⟩
def rj (k:Int):Bool:=decide (1<=k/\k<=4)
theorem FF (k:Int) (w:World) :
  Calls Tryz.prog 84 #[k] w fun e w'=>e=.returned (.bool (rj k))/\w=w':=by
 go_enter Tryz.func84,Tryz.ntmps84;go_wp2
 all_goals
  go_ret;exact ⟨aK (by unfold rj;rw [Bool.eq_iff_iff];simp;try omega),rfl⟩
def qC (k:Int):Bool:=decide (k=3\/k=4)
theorem Ev (k:Int) (w:World) :
  Calls Tryz.prog 85 #[k] w fun e w'=>e=.returned (.bool (qC k))/\w=w':=by
 go_enter Tryz.func85,Tryz.ntmps85;go_wp2
 all_goals
  go_ret;exact ⟨aK (by unfold qC;rw [Bool.eq_iff_iff];simp;try omega),rfl⟩
theorem IB (n:Int) (w:World) (h:0<=n) (h1:n<=9223372036854775799) :
  Calls Tryz.prog 114 #[n] w fun e w'=>e=.returned (.int .i64 (n+8))/\w=w':=by
 go_enter Tryz.func114,Tryz.ntmps114;go_wp2;go_ret;exact ⟨rfl,rfl⟩
theorem Gd (c:Int) (x:Value) (w:World) :
  Calls Tryz.prog 37 #[.agg #[c,x]] w fun e w'=>e=.returned (.bool (c == 0))/\ae [] w w':=by
 go_enter Tryz.func37,Tryz.ntmps37;go_wp2;go_ret;exact ⟨rfl,(ae.refl _ _).alloc _⟩
theorem ED {lo hi:Nat} {k:Int} {v:Value} {l:List Int} {w:World} (h:ah .u8 lo hi w v l) (hl:l.length<=9223372036854775799) :
  Calls Tryz.prog 50 #[.agg #[k,v]] w fun e w'=>e=.returned (.int .i64 (l.length+8))/\ae [] w w':=by
 obtain ⟨a,cap,rfl,_⟩:=h.open;go_enter Tryz.func50,Tryz.ntmps50
 go_wp2_with (go_at_call 114;refine (IB _ _ Mf Mf).mono ?_;rintro e w' ⟨rfl,rfl⟩)
 go_ret;exact ⟨rfl,(ae.refl _ _).alloc _⟩
theorem E8:kI Tryz.prog 29 5 (.int .u8 0) 1 1:=kI.mk' Tryz.underlying29 Mh rfl Mf Mf
theorem EI:kI Tryz.prog 22 3 (.int .i64 0) 1 8:=kI.mk' Tryz.underlying22 Mh rfl Mf Mf
def be (v:Int):Nat->List Int
 | 0=>[]
 | n+1=>v / 2 ^ (8*n) % 256 :: be v n
def Rows (size lo hi:Nat) (w:World) (v:Value) (n:Nat) (f:Nat->Nat->Value):Prop :=
 ∃ (a:Option Addr) (cap:Nat),v=.slice a n cap/\n<=cap/\cap<=maxLen /\
  (0<n->∃ b off,a=some ⟨b,off,none⟩/\lo<=b/\b<hi/\∀ i j,i<n->j<size->w.cell? ⟨b,off+i*size+j,none⟩=some (f i j))
section
variable {size lo hi lo' hi' n:Nat} {w w':World} {v:Value} {f:Nat->Nat->Value} {S:List Nat}
theorem Rows.only (h:Rows size lo hi w v n f) (o:ae S w w') (hS:∀ g∈S,g<lo\/hi<=g):Rows size lo hi w' v n f:=by
 obtain ⟨a,cap,h2,h3,h4,h5⟩:=h;refine ⟨a,cap,h2,h3,h4,fun hn=>?_⟩;obtain ⟨b,off,e,hl,hh,hc⟩:=h5 hn;exact ⟨b,off,e,hl,hh,fun i j hi hj=>o.cell (hc i j hi hj) (fun hm=>by have:=hS _ hm;simp at this;omega)⟩
theorem Rows.open (h:Rows size lo hi w v n f):∃ (a:Option Addr) (cap:Nat),v=.slice a n cap/\n<=cap/\cap<=maxLen /\
  ∀ i,i<n->∃ b off,a=some ⟨b,off,none⟩/\lo<=b/\b<hi/\∀ j,j<size->w.cell? ⟨b,off+i*size+j,none⟩=some (f i j):=by
 obtain ⟨a,cap,h2,h3,h4,h5⟩:=h;refine ⟨a,cap,h2,h3,h4,fun i hi=>?_⟩;obtain ⟨b,off,e,hl,hh,hc⟩:=h5 Mf;exact ⟨b,off,e,hl,hh,fun j hj=>hc i j hi hj⟩
end
structure kH where
 kind:Int
 data:List Int
 deriving DecidableEq,Inhabited
section
variable {lo hi lo' hi':Nat} {w w':World} {v:Value} {S:List Nat}
end
structure Cfg where
 qmin:Int
 qmax:Int
 reach:Int
 cut:Int
 gop:Int
 rate:Int
 room:Int
 fill:Int
 deriving DecidableEq
def Cfg.v (c:Cfg):Value:=.agg #[c.qmin,c.qmax,c.reach,c.cut,c.gop,c.rate,c.room,c.fill]
def mD (c:Cfg):Bool:=decide (0<=c.qmin/\c.qmin<=c.qmax/\c.qmax<=15/\0<=c.reach/\c.reach<=7/\0<=c.cut/\c.cut<=16320/\1<=c.gop/\c.gop<=16/\8<=c.rate/\c.rate<=c.room/\c.room<=16384/\8<=c.fill/\c.fill<=c.room)
theorem Jn (c:Cfg) (w:World) :
  Calls Tryz.prog 113 #[c.v] w fun e w'=>e=.returned (.bool (mD c))/\ae [] w w':=by
 obtain ⟨a0,a1,a2,a3,a4,a5,a6,a7⟩:=c;unfold Cfg.v;go_enter Tryz.func113,Tryz.ntmps113
 go_wp2_with (go_at_call 175;refine (Fe _ _ _ _).mono ?_;rintro e w' ⟨rfl,rfl⟩)
 all_goals
  go_ret;refine ⟨aK ?_,(ae.refl _ _).alloc _⟩;simp only [EZ,Bool.and_eq_true,decide_eq_true_eq] at *
  unfold mD;rw [Bool.eq_iff_iff];simp
  try omega
structure Err where
 path:List (ByteArray×Int)
 code:Int
def mG:Option Int->Value
 | none=>.nilIface
 | some c=>.iface 36 (.int .i64 c)
def dB (lo hi:Nat) (w:World):List (ByteArray×Int)->Int->Value->Prop
 | [],c,v=>v=.iface 36 (.int .i64 c)
 | (s,n) :: p,c,v=>∃ b v',v=.iface 188 (.pointer (some ⟨b,0,none⟩))/\lo<=b/\b<hi/\w.heap[b]?=some (.cells #[.string s,n,v'] 191 (0,0))/\dB lo hi w p c v'
def gN (lo hi:Nat) (w:World) (v:Value) (e:Err):Prop:=dB lo hi w e.path e.code v
section
variable {lo hi lo' hi':Nat} {w w':World} {S:List Nat}
theorem dB.only:∀ {p:List (ByteArray×Int)} {c:Int} {v:Value},dB lo hi w p c v->ae S w w'->(∀ g∈S,g<lo\/hi<=g)->dB lo hi w' p c v
 | [],_,_,h,_,_=>h
 | (s,n) :: p,c,v,⟨b,v',h1,h2,h3,h4,h5⟩,o,hS =>
  ⟨b,v',h1,h2,h3,(o.block b (Array.getElem?_eq_some_iff.1 h4).1 (fun hm=>by have:=hS b hm;omega)).trans h4,dB.only h5 o hS⟩
theorem dB.mono:∀ {p:List (ByteArray×Int)} {c:Int} {v:Value},dB lo hi w p c v->lo'<=lo->hi<=hi'->dB lo' hi' w p c v
 | [],_,_,h,_,_=>h
 | (s,n) :: p,c,v,⟨b,v',h1,h2,h3,h4,h5⟩,x,y=>⟨b,v',h1,Mf,Mf,h4,dB.mono h5 x y⟩
theorem gN.only {v:Value} {e:Err} (h:gN lo hi w v e) (o:ae S w w') (hS:∀ g∈S,g<lo\/hi<=g):gN lo hi w' v e:=dB.only h o hS
theorem gN.quiet {v:Value} {e:Err} (h:gN lo hi w v e) (o:ae [] w w'):gN lo hi w' v e:=dB.only h o Mg
theorem gN.mono {v:Value} {e:Err} (h:gN lo hi w v e) (x:lo'<=lo) (y:hi<=hi'):gN lo' hi' w v e:=dB.mono h x y
theorem gN.code (lo hi:Nat) (w:World) (c:Int):gN lo hi w (.iface 36 (.int .i64 c)) ⟨[],c⟩:=rfl
theorem gN.held {v:Value} {e:Err} (h:gN lo hi w v e):∃ t u,v=.iface t u:=by
 obtain ⟨p,c⟩:=e;cases p with
 | nil=>exact ⟨_,_,h⟩
 | cons x p=>obtain ⟨b,v',h1,_⟩:=h;exact ⟨_,_,h1⟩
end
def inE (s:ByteArray) (n:Int) (e:Err):Err:=⟨(s,n) :: e.path,e.code⟩
theorem Fp {lo hi:Nat} {v:Value} {e:Err} (s:ByteArray) (n:Int) {w:World} (h:gN lo hi w v e) (hh:hi<=w.heap.size) (hl:lo<=w.heap.size) :
  Calls Tryz.prog 80 #[.string s,n,v] w fun r w'=>∃ v',r=.returned v'/\gN lo w'.heap.size w' v' (inE s n e)/\ae [] w w':=by
 obtain ⟨t,u,rfl⟩:=h.held;have hq:∀ o,ae [] w (w.alloc o):=fun o=>(ae.refl _ _).alloc _
 have H:=lh h;clear h;go_enter Tryz.func80,Tryz.ntmps80;go_wp2;go_ret;refine ⟨_,rfl,⟨w.heap.size,_,rfl,hl,Mg,heap_alloc_new w _,?_⟩,hq _⟩;exact (H.quiet (hq _)).mono (Lm _) Mq
theorem CV (c:Cfg) (w:World) :
  Calls Tryz.prog 49 #[c.v] w fun e w'=>e=.returned (mG (if mD c then none else some 11))/\ae [] w w':=by
 have hq:ae [] w (w.alloc (.cells c.v.cells 47)):=(ae.refl _ _).alloc _;obtain ⟨a0,a1,a2,a3,a4,a5,a6,a7⟩:=c;by_cases hm:mD ⟨a0,a1,a2,a3,a4,a5,a6,a7⟩=true
 all_goals
  have Hm:=lh hm;clear hm;unfold Cfg.v;go_enter Tryz.func49,Tryz.ntmps49
  go_wp2_with (go_at_call 113;refine (Jn ⟨a0,a1,a2,a3,a4,a5,a6,a7⟩ _).mono ?_;rintro e w' ⟨rfl,ho⟩)
  all_goals
   go_ret;have:=Hm.out;refine ⟨?_,hq.q ho⟩
   simp_all [mG]
def eqB {α:Type} [DecidableEq α] (l m:α):Bool:=decide (l=m)
theorem CE:∀ {l m:List Int},(∀ x∈l,InK .u8 x)->(∀ x∈m,InK .u8 x)->l.map (fun n=>UInt8.ofNat n.toNat)=m.map (fun n=>UInt8.ofNat n.toNat)->l=m
 | [],[],_,_,_=>rfl
 | [],_ :: _,_,_,h=>by simp at h
 | _ :: _,[],_,_,h=>by simp at h
 | x :: l,y :: m,hl,hm,h=>by
  simp only [Ma,List.cons.injEq] at h;have hx:=hl x Mg;have hy:=hm y Mg;unfold InK at hx hy;have e:x=y:=by
   have:=congrArg UInt8.toNat h.1;simp only [UInt8.toNat_ofNat'] at this;omega
  rw [e,CE (fun z hz=>hl z (by simp [hz])) (fun z hz=>hm z (by simp [hz])) h.2]
theorem Ks {l m:List Int} (hl:∀ x∈l,InK .u8 x) (hm:∀ x∈m,InK .u8 x):((strOfNums l).toList == (strOfNums m).toList)=eqB l m:=by
 rw [ByteArray.toList_eq,ByteArray.toList_eq,strOfNums_data,strOfNums_data,Bool.eq_iff_iff];simp only [beq_iff_eq,eqB,decide_eq_true_eq];exact ⟨CE hl hm,fun h=>by rw [h]⟩
theorem xb {lo hi:Nat} {v:Value} {l:List Int} {w:World} (h:ah .u8 lo hi w v l) :
  (convert 29 9 v).run Tryz.prog w=.ok (.string (strOfNums l)) w:=by
 obtain ⟨a,cap,rfl,_,_,Pd,MZ⟩:=h.open;rcases Nat.eq_zero_or_pos l.length with h0 | h0
 ·have hl:l=[]:=List.eq_nil_of_length_eq_zero h0
  subst hl;rw [run_convert_bytes_string w _ _ _ _ _ _ Tryz.underlying29 Tryz.underlying5 Tryz.underlying9];rcases a with _ | a
  ·simp [Conv.bytesToString];rfl
  ·rw [run_bytesToString w _ _ cap [] (by simp [loadCells,loadCellsFrom])];rfl
 ·obtain ⟨b,off,rfl,_,_⟩:=Pd 0 h0
  exact run_convert_bytes_arg w _ _ Tryz.underlying29 Tryz.underlying5 b off _ cap l rfl (MZ b off rfl) _ Tryz.underlying9
theorem CS {lo hi lo' hi':Nat} {v u:Value} {l m:List Int} {w:World} (h:ah .u8 lo hi w v l) (g:ah .u8 lo' hi' w u m) :
  Calls Tryz.prog 45 #[v,u] w fun e w'=>e=.returned (.bool (eqB l m))/\w=w':=by
 have h1:=xb h;have h2:=xb g;have hs:=Ks h.2 g.2;have Hs:=lh hs;clear hs;go_enter Tryz.func45,Tryz.ntmps45;go_wp2;go_ret;exact ⟨aK Hs,rfl⟩
theorem tq {lo hi lo' hi':Nat} {j k:Int} {v u:Value} {l m:List Int} {w:World} (h:ah .u8 lo hi w v l) (g:ah .u8 lo' hi' w u m) :
  Calls Tryz.prog 11 #[.agg #[j,v],.agg #[k,u]] w fun e w'=>e=.returned (.bool (eqB (kH.mk j l) (kH.mk k m)))/\ae [] w w':=by
 have hq:ae [] w ((w.alloc (.cells #[j,v] 31)).alloc (.cells #[k,u] 31)):=((ae.refl _ _).alloc _).alloc _;by_cases TZ:j=k
 ·subst TZ
  have hv:v.cells=#[v]:=by obtain ⟨a,cap,rfl,_⟩:=h.open;rfl
  obtain ⟨a,cap,rfl,_⟩:=h.open;obtain ⟨a',Te,rfl,_⟩:=g.open;have h':=h.quiet hq;have g':=g.quiet hq;go_enter Tryz.func11,Tryz.ntmps11
  go_wp2_with (go_at_call 45;refine (CS h' g').mono ?_;rintro e w' ⟨rfl,rfl⟩)
  go_ret;exact ⟨aK (by simp [eqB]),hq⟩
 ·obtain ⟨a,cap,rfl,_⟩:=h.open
  obtain ⟨a',Te,rfl,_⟩:=g.open;have hb:(j == k)=false:=by simpa using TZ
  go_enter Tryz.func11,Tryz.ntmps11;go_wp2;go_ret;exact ⟨aK (by simp [eqB,TZ]),hq⟩
theorem CY {lo hi:Nat} {v:Value} {l:List Int} {w:World} (h:ah .u8 lo hi w v l) (hl:l.length<=140737488355328) :
  Calls Tryz.prog 111 #[v] w fun e w'=>∃ v',e=.returned v'/\Own .u8 5 w.heap.size w' v' l/\ae [] w w':=by
 go_enter Tryz.func111,Tryz.ntmps111
 go_wp2_with (at_builtin;refine aw rfl (.tmp 3) (.tmp 4) _ rfl E8 (qq (l:=[]) rfl Mg Mg 0 rfl) rfl (h.quiet ((ae.refl _ _).alloc _)) rfl ?c1 ?c2 (fun v1 w1 MN Nu=>?_))
 case c1=>simpa using hl
 case c2=>simp
 go_ret;exact ⟨v1,rfl,by simpa using MN,((ae.refl _ _).alloc _).acc Nu (bB.lit (Lm _))⟩
theorem qX {α:Type} (l:List α) (d:α) {i:Nat} (h:i<l.length):l[i]?=some (l.getD i d):=by simp [h]
theorem vX {α:Type} {l m:List α} (d:α) {k:Nat} (h:l.take k=m.take k) (hl:k<l.length) (hm:k<m.length) (e:l.getD k d=m.getD k d):l.take (k+1)=m.take (k+1):=by
 rw [List.take_add_one,List.take_add_one,h,qX l d hl,qX m d hm,e]
theorem zL {lo hi lo' hi':Nat} {v u:Value} {l m:List Int} {w:World} (h:ah .i64 lo hi w v l) (g:ah .i64 lo' hi' w u m) :
  Calls Tryz.prog 46 #[v,u] w fun e w'=>e=.returned (.bool (eqB l m))/\ae [] w w':=by
 have Qn:=h.1.len_le;unfold maxLen at Qn;obtain ⟨a,cap,rfl,_,_,Pd,MZ⟩:=h.open;obtain ⟨a',Te,rfl,_,_,JoB,JdH⟩:=g.open;by_cases MR:l.length=m.length
 ·have hlm:m.length=l.length:=MR.symm
  have Ut:=lh hlm;clear hlm;have hb:(((l.length:Nat):Int) != ((m.length:Nat):Int))=false:=by simp [MR]
  go_enter Tryz.func46,Tryz.ntmps46;clear MR;go_wp2;clear hb;go_loopw [5] (fun i wr=>∃ k:Nat,k<=l.length/\i=.int .i64 k/\l.take k=m.take k/\ae [] w wr) (fun i _=>l.length-(intOf i).toNat)
  case atStart=>exact ⟨0,Mf,rfl,Mg,ae.refl _ _⟩
  case round =>
   obtain ⟨k,hk,rfl,JhX,hq⟩:=hrel;have Ht:=lh JhX;clear JhX;by_cases MO:k<l.length
   ·obtain ⟨b,off,rfl,_,_⟩:=Pd k MO
    have Jkl:k<m.length:=by rw [Ut.out];exact MO
    obtain ⟨b',JgF,rfl,_,_⟩:=JoB k Jkl;have c1:=hq.cell (MZ b off rfl k MO) Mg;have c2:=hq.cell (JdH b' JgF rfl k Jkl) Mg;clear Pd JoB MZ JdH h g;have hx:(0:Int)<=(k:Int):=Mf;have OB:(k:Int)<(l.length:Int):=Mf;have hx2:(k:Int)<(m.length:Int):=Mf;generalize he:l.getD k 0=x at *
    generalize he':m.getD k 0=y at *
    have He:=lh he;have He':=lh he';clear he he';by_cases hxy:x=y
    ·subst hxy
     go_wp2
     go_quiet (fail)
     go_wp2;go_roundw
     case rel=>exact ⟨k+1,Mf,Mm,vX 0 Ht.out MO Jkl (by rw [He.out,He'.out]),hq.drewN _⟩
     case measure=>simp [intOf];omega
    ·have hbe:(x != y)=true:=by simpa using hxy
     go_wp2
     go_quiet (fail)
     go_wp2;go_ret;refine ⟨aK ?_,hq.drewN _⟩;have:l≠m:=by rintro rfl;exact hxy (He.symm.trans He')
     simp [eqB,this]
   ·obtain rfl:k=l.length:=Mf
    go_wp2;go_ret;refine ⟨aK ?_,hq⟩;have:=Ht.out;rw [List.take_length,<- Ut.out,List.take_length] at this;simp [eqB,this]
 ·have hb:(((l.length:Nat):Int) != ((m.length:Nat):Int))=true:=Mq
  go_enter Tryz.func46,Tryz.ntmps46;go_wp2;go_ret;exact ⟨aK (by have:l≠m:=fun e=>MR (by rw [e]);simp [eqB,this]),ae.refl _ _⟩
end Go.Proofs.YthcafdfdglfabaaGreatDoor
