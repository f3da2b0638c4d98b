/- Joined texts: Base, Tk, Small, Put, Rows2, VbvA, Err, Cmp. Conditions: each part names its own. -/
import Derived.Test.YthcafdfdglfabaaGreatDoorProg
import Derived.WalkSpells
import Derived.WalkLawsBesides
import Derived.Deep.AppendLies
import Derived.BigQuiet
import Derived.Lib.Hide
import Derived.Deep.RegionHeld3
namespace Go.Proofs.YthcafdfdglfabaaGreatDoor
open Tryz
open Go.RowKit
set_option linter.unusedVariables false
set_option linter.unusedSimpArgs false
set_option maxRecDepth 100000
set_option maxHeartbeats 16000000
abbrev Sd:=@heap_alloc_new
abbrev Sz:=@frozen_of_row
abbrev SF:=@cell_of_row
abbrev Tf:=@wp_region_held_drew
abbrev TV:=@bodyPost_ret
abbrev TY:=@Int.tdiv_eq_ediv_of_nonneg
abbrev UJ:=@List.take_succ_eq_append_getElem
abbrev VL:=@And.intro
abbrev VY:=@List.mem_cons_self
abbrev Wn:=@wpAnyH_done
abbrev WG:=@heap_setCell_same
abbrev YN:=@List.take_of_length_le
abbrev Zb:=@List.mem_cons
abbrev Zh:=@List.range_succ
abbrev m9:=@Bool.eq_iff_iff
abbrev m7:=@setRow_heap
abbrev t6:=@List.all_eq_true
abbrev t8:=@Bool.and_eq_true
abbrev r9:=@decide_eq_true_eq
abbrev A4:=@List.foldl_append
abbrev A2:=@of_decide_eq_true
abbrev s4:=@block_lt_of_cell
abbrev x8:=@List.mem_map
abbrev C0:=@List.zipWith_cons_cons
abbrev y4:=@bodyPost_end
abbrev y8:=@results_none
abbrev A9:=@Int.natCast_mul
abbrev l8:=@Array.getElem?_eq_some_iff
abbrev A0:=@Int.eq_ofNat_of_zero_le
abbrev B2:=@Int.mul_le_mul_of_nonneg_right
abbrev B8:=@Nat.mul_le_mul_right
abbrev A3:=@Int.mul_le_mul
abbrev C1:=@List.drop_eq_nil_of_le
abbrev A6:=@Below.heap_alloc
abbrev j8:=@wpAnyH_ready
abbrev C3:=@List.getElem?_eq_none
abbrev C4:=@List.getElem?_toArray
abbrev C8:=@Int.mul_le_mul_of_nonneg_left
abbrev A5:=@beq_eq_false_iff_ne
abbrev n7:=@forall_eq
abbrev l7:=@or_false
abbrev B5:=@List.flatMap_append
abbrev A8:=@Nat.mul_le_mul
abbrev B0:=@List.mem_append
theorem RG {w:World} {g j:Nat} {cs:Array Value} {t:TypeId} {fr:Nat×Nat} (hg:w.heap[g]?=some (.cells cs t fr)):w.cell? ⟨g,j,none⟩=cs[j]?:=SF _ _ _ _ _ _ hg
theorem LD {w:World} {o:Obj}:(w.alloc o).heap[w.heap.size]?=some o:=Sd _ _
theorem bu {α:Sort _} (a:α):∃ z,z=a:=⟨_,rfl⟩
theorem bC {p q r:Prop} (h:q) (k:r) (f:q->r->p:=by intro h k;rw [h.out];exact k):p:=f h k
theorem dn {p q r:Prop} (h:q) (k:r) (f:q->r->p:=by intro h k;rw [h];exact k):p:=f h k
theorem dx {p q:Prop} (h:q) (f:q->p:=by intro h;rw [RG h];rfl):p:=f h
theorem dT {p q:Prop} (h:q) (f:q->p:=by intro h;have:=h.out;omega):p:=f h
theorem ea {p q r:Prop} (h:q) (k:r) (f:q->r->p:=by intro h k;rw [<- h];exact k):p:=f h k
theorem eC {p q:Prop} (h:q) (f:q->p:=by intro h;rw [h.out];omega):p:=f h
theorem eH {p q:Prop} (h:q) (f:q->p:=by intro h;simpa [Value.ownBlock] using h):p:=f h
theorem eW {p q:Prop} (h:q) (f:q->p:=by intro h;rw [i5];have:=h.out;omega):p:=f h
theorem gf {p q:Prop} (h:q) (f:q->p:=by intro h;first | exact h | exact h.drew):p:=f h
theorem kr {p q:Prop} (h:q) (f:q->p:=by intro h;rw [<- h];first | exact ae.new _ _ | exact ((ae.refl _ _).drew).q (ae.new _ _)):p:=f h
theorem lm {p q:Prop} (h:q) (f:q->p:=by intro h;first | exact h | exact ((ae.refl _ _).drew).q h | exact ((ae.refl _ _).drew.mono (by simp)).trans h (fun g h _=>h) (fun g h _=>h)):p:=f h
theorem lp {p q:Prop} (h:q) (f:q->p:=by intro h;rw [<- h];exact LD):p:=f h
theorem mi {p:Prop} (h:p:=by first | kernel_rfl | simp [Value.oneCell']):p:=h
theorem mj {p q:Prop} (h:q) (f:q->p:=by intro h;first | exact h | exact h.quiet (ae.refl _ _).drew):p:=f h
theorem na {p q r:Prop} (h:q) (k:r) (f:q->r->p:=by intro h k;rw [<- h.out];exact k):p:=f h k
theorem pm {p q r:Prop} (h:q) (k:r) (f:q->r->p:=by intro h k;have:=h.out;have:=k.out;omega):p:=f h k
inductive AX where
 | n
abbrev xT:=AX.n
instance:Coe AX (Array Value):=⟨fun _=>#[.int .i64 0,.int .i64 0,.int .i64 0,.int .i64 0,.int .i64 0,.int .i64 0,.int .i64 0,.int .i64 0,.slice none 0 0,.slice none 0 0,.slice none 0 0,.slice none 0 0,.slice none 0 0]⟩
theorem j0 {p g:Prop} (D:p) (h:p->g:=by intros;omega):g:=h D
theorem l6 {p q g:Prop} (D:p) (E:q) (h:p->q->g:=by intros;omega):g:=h D E
theorem C5 {p q r g:Prop} (D:p) (E:q) (F:r) (h:p->q->r->g:=by intros;omega):g:=h D E F
theorem D9 {p q r s g:Prop} (D:p) (E:q) (F:r) (I:s) (h:p->q->r->s->g:=by intros;omega):g:=h D E F I
instance JMD:Coe Nat (Option Addr):=⟨fun x=>some ⟨x,0,none⟩⟩
inductive D8 where
 | n
abbrev d8:=D8.n
instance JMy:Coe Int Value:=⟨fun x=>.int .i64 x⟩
instance JMz:Coe Nat Value:=⟨fun x=>.int .i64 (x:Int)⟩
instance JMA:Coe Unit Value:=⟨fun _=>.int .i64 0⟩
instance JMBC:Coe D8 Value:=⟨fun _=>.slice none 0 0⟩
theorem Qa {p:Prop} (h:p:=by omega):p:=h
theorem Qb {p:Prop} (h:p:=by simp):p:=h
theorem Qc {p:Prop} (h:p:=by kernel_rfl):p:=h
theorem Qh {p:Prop} (h:p:=by go_num):p:=h
theorem Qe {p:Prop} (h:p:=by rw [Pk];omega):p:=h
theorem Ql {p:Prop} (h:p:=by decide):p:=h
theorem Qd {p:Prop} (h:p:=by rw [i5] at hg;omega):p:=h
theorem Qf {p:Prop} (h:p:=by simp [intOf];omega):p:=h
theorem Qg {p:Prop} (h:p:=by decide +kernel):p:=h
theorem Qj {p:Prop} (h:p:=by simp [maxLen]):p:=h
theorem Qi {p:Prop} (h:p:=by rw [i5];omega):p:=h
theorem Qm {p:Prop} (h:p:=by simp;omega):p:=h
theorem Qn {p:Prop} (h:p:=by simpa using hg):p:=h
theorem Qq {p:Prop} (h:p:=by assumption):p:=h
theorem Qk {p:Prop} (h:p:=by rw [A5];omega):p:=h
theorem Qp {p:Prop} (h:p:=by simpa using h):p:=h
theorem Qv {p:Prop} (h:p:=by cases h):p:=h
theorem Qr {p:Prop} (h:p:=by simpa using hm):p:=h
theorem Qo {p:Prop} (h:p:=by rw [i5] at hx;omega):p:=h
theorem Qs {p:Prop} (h:p:=by rw [Po];omega):p:=h
theorem Qt {p:Prop} (h:p:=by rw [aF];omega):p:=h
theorem Qw {p:Prop} (h:p:=by simpa using hp):p:=h
theorem Qx {p:Prop} (h:p:=by simpa using hq):p:=h
theorem Qu {p:Prop} (h:p:=by rw [beq_iff_eq];omega):p:=h
theorem Qy {p:Prop} (h:p:=by simpa using hv):p:=h
theorem Qz {p:Prop} (h:p:=by simpa using hx):p:=h
theorem QD {p:Prop} (h:p:=by simpa using h0):p:=h
theorem QA {p:Prop} (h:p:=by rw [QJ];omega):p:=h
theorem QC {p:Prop} (h:p:=by rw [hfw];omega):p:=h
theorem QB {p:Prop} (h:p:=by rw [hfh];omega):p:=h
theorem QE {p:Prop} (h:p:=by simpa using hr):p:=h
abbrev Pd:=@List.getD_eq_getElem?_getD
abbrev Pe:=@List.getElem?_eq_getElem
abbrev Pf:=@List.setIfInBounds_toArray
abbrev Pg:=@List.mem_cons
abbrev Ph:=@List.not_mem_nil
abbrev Pi:=@List.set_cons_zero
abbrev Pj:=@List.set_cons_succ
abbrev Pk:=@IntKind.wrap_i64
abbrev Pm:=@Nat.le_refl
abbrev Pn:=@List.length_append
abbrev Po:=@List.length_take
abbrev Pp:=@List.length_drop
abbrev Pq:=@List.length_cons
abbrev Pr:=@List.length_nil
abbrev Ps:=@List.length_map
abbrev Pt:=@List.getElem?_append_right
abbrev Pu:=@List.getElem?_append_left
abbrev Pv:=@List.mem_cons_of_mem
abbrev Pw:=@Nat.le_trans
abbrev Px:=@List.append_nil
abbrev Py:=@List.drop_eq_getElem_cons
abbrev Pz:=@List.getElem?_map
abbrev PA:=@List.getElem?_drop
abbrev PB:=@List.getElem?_take
abbrev PE:=@List.length_replicate
abbrev PF:=@List.length_set
abbrev PG:=@List.getElem_mem
abbrev PH:=@Nat.lt_of_lt_of_le
abbrev PI:=@Nat.lt_of_le_of_lt
abbrev PJ:=@World.frozen?_setCell
abbrev PL:=@List.nil_append
abbrev PM:=@List.append_assoc
abbrev PN:=@List.map_append
abbrev PO:=@Option.some.injEq
abbrev PQ:=@Int.natCast_add
abbrev PR:=@Int.tmod_eq_emod_of_nonneg
abbrev PS:=@List.getElem?_set_ne
abbrev PT:=@List.getElem?_set_self
abbrev PU:=@List.map_cons
abbrev PV:=@List.map_nil
abbrev PX:=@Nat.zero_le
abbrev PY:=@List.mem_range
abbrev PZ:=@List.mem_of_getElem?
theorem lh {p:Prop} (h:p):Hid p:=Lib.hid h
theorem i5 {α:Type} {a b:α}:a∈[b]↔a=b:=List.mem_singleton
structure ae (S:List Nat) (w w':World):Prop where
 os:w'.os=w.os
 tape:w'.tape=w.tape
 output:w'.output=w.output
 size:w.heap.size<=w'.heap.size
 block:∀ k,k<w.heap.size->k∉S->w'.heap[k]?=w.heap[k]?
section
variable {S T U:List Nat} {w w' a b c:World}
theorem ae.refl (S:List Nat) (w:World):ae S w w:=⟨rfl,rfl,rfl,Pm _,fun _ _ _=>rfl⟩
theorem AY {S:List Nat} {w:World}:ae S w w:=ae.refl _ _
theorem ae.trans (h:ae S a b) (k:ae T b c) (E:∀ g∈S,g<a.heap.size->g∈U) (hT:∀ g∈T,g<a.heap.size->g∈U):ae U a c :=
 ⟨k.os.trans h.os,k.tape.trans h.tape,k.output.trans h.output,Pw h.size k.size,fun i hi D =>
  (k.block i (PH hi h.size) (fun e=>D (hT i e hi))).trans (h.block i hi (fun e=>D (E i e hi)))⟩
theorem ae.mono (h:ae S a b) (D:∀ g∈S,g<a.heap.size->g∈U):ae U a b:=h.trans (ae.refl [] b) D Qb
theorem ae.of_below (h:Below w.heap.size w w'):ae S w w':=⟨h.os,h.tape,h.output,h.size,fun k D _=>h.block k D⟩
theorem ae.of_grown {row:Option Nat} (h:w.grownBy w' row):ae row.toList w w' :=
 ⟨h.os,h.tape,h.output,h.size,fun k D E=>h.block k D (fun e=>E (by cases row <;> simp_all))⟩
theorem ae.below {B:Nat} (h:ae S w w') (E:B<=w.heap.size) (D:∀ g∈S,B<=g):Below B w w' :=
 ⟨h.os,h.tape,h.output,h.size,fun k F=>h.block k Qa (fun e=>by have:=D k e;omega)⟩
theorem ae.quiet (h:ae [] w w'):Below w.heap.size w w':=h.below (Pm _) Qb
theorem ae.alloc (h:ae S a w) (o:Obj):ae S a (w.alloc o) :=
 h.trans (T:=[]) (ae.of_below ((Below.refl _ _).alloc (Pm _) o)) (fun _ h _=>h) Qb
theorem ae.drew (h:ae S a w):ae S a w.drew:=⟨h.os,h.tape,h.output,h.size,h.block⟩
theorem ae.drewN (h:ae S a w) (n:Nat):ae S a (w.drewN n):=⟨h.os,h.tape,h.output,h.size,h.block⟩
theorem ae.setCell (h:ae S a w) {p:Addr} (E:p.block<a.heap.size->p.block∈S) (u:Value):ae S a (w.setCell p u) :=
 ⟨h.os,h.tape,h.output,by simpa [World.setCell] using h.size,fun i hi D=>(Below.heap_setCell w p u i (by
  rintro rfl;exact D (E hi))).trans (h.block i hi D)⟩
theorem ae.cell (h:ae S w w') {p:Addr} {v:Value} (D:w.cell? p=some v) (E:p.block∉S):w'.cell? p=some v :=
 (World.cell?_of_block (h.block p.block (s4 D) E)).trans D
end
theorem ae.q {a b c:World} (h:ae [] a b) (k:ae [] b c):ae [] a c:=h.trans k Qb Qb
theorem ae.new (w:World) (o:Obj):ae [] w (w.alloc o):=(AY).alloc _
theorem BS {w:World} {o:Obj}:ae [] w (w.alloc o):=ae.new _ _
def cf (size lo hi:Nat) (w:World) (v:Value) (n:Nat) (xs:List Value):Prop :=
 xs.length=n*size/\∃ (a:Option Addr) (cap:Nat),v=.slice a n cap/\n<=cap/\cap<=maxLen /\
  (0<n->∃ b off,a=some ⟨b,off,none⟩/\lo<=b/\b<hi/\∀ j u,xs[j]?=some u->w.cell? ⟨b,off+j,none⟩=some u)
section
variable {size lo hi lo' hi' n:Nat} {w w':World} {v:Value} {xs:List Value} {S:List Nat}
theorem cf.only (h:cf size lo hi w v n xs) (o:ae S w w') (J:∀ g∈S,g<lo\/hi<=g):cf size lo hi w' v n xs:=by
 obtain ⟨h1,a,cap,D,E,F,I⟩:=h;refine ⟨h1,a,cap,D,E,F,fun V=>?_⟩;obtain ⟨b,off,e,N,M,L⟩:=I V;exact ⟨b,off,e,N,M,fun j u hu=>o.cell (L j u hu) (fun O=>by have:=J _ O;simp at this;omega)⟩
theorem cf.mono (h:cf size lo hi w v n xs) (V:lo'<=lo) (O:hi<=hi'):cf size lo' hi' w v n xs:=by
 obtain ⟨h1,a,cap,D,E,F,I⟩:=h;refine ⟨h1,a,cap,D,E,F,fun N=>?_⟩;obtain ⟨b,off,e,M,L,J⟩:=I N;exact ⟨b,off,e,Qa,Qa,J⟩
theorem cf.nil (size lo hi:Nat) (w:World):cf size lo hi w (.slice none 0 0) 0 [] :=
 ⟨Qb,none,0,rfl,Pm _,Qb,fun h=>absurd h Qa⟩
theorem cf.of_own {base:Nat} {e:TypeId} (h:w.ownsRow base e size v n xs):cf size base w.heap.size w v n xs:=by
 obtain ⟨h1,D⟩:=h;refine ⟨h1,?_⟩;rcases D with ⟨rfl,rfl⟩ | ⟨g,cap,cur,rfl,hb,hg,hn,hm,Uo,ht⟩
 ·exact ⟨none,0,rfl,Pm _,Qb,fun h=>absurd h Qa⟩
 ·refine ⟨some ⟨g,0,none⟩,cap,rfl,hn,hm,fun _=>⟨g,0,rfl,hb,(l8.1 hg).1,fun j u hu=>?_⟩⟩
  rw [SF w g (0+j) cur e (0,0) hg];rw [<- ht,PB] at hu
  split at hu
  ·simpa using hu
  ·cases hu
theorem cf.len_le (h:cf size lo hi w v n xs):n<=maxLen:=by
 obtain ⟨_,a,cap,_,D,E,_⟩:=h;omega
end
def i7:IntKind->Int->Prop
 | .u8,x=>0<=x/\x<=255
 | .i64,x=>-9223372036854775808<=x/\x<=9223372036854775807
 | .u32,x=>0<=x/\x<=4294967295
 | .u64,x=>0<=x/\x<=18446744073709551615
 | _,_=>True
def aj (k:IntKind) (lo hi:Nat) (w:World) (v:Value) (l:List Int):Prop :=
 cf 1 lo hi w v l.length (l.map (Value.int k))/\∀ x∈l,i7 k x
def f9 (k:IntKind) (e:TypeId) (base:Nat) (w:World) (v:Value) (l:List Int):Prop :=
 w.ownsRow base e 1 v l.length (l.map (Value.int k))/\∀ x∈l,i7 k x
section
variable {k:IntKind} {e:TypeId} {lo hi lo' hi' base:Nat} {w w':World} {v:Value} {l:List Int} {S:List Nat}
theorem aj.only (h:aj k lo hi w v l) (o:ae S w w') (D:∀ g∈S,g<lo\/hi<=g):aj k lo hi w' v l:=⟨h.1.only o D,h.2⟩
theorem aj.quiet (h:aj k lo hi w v l) (o:ae [] w w'):aj k lo hi w' v l:=⟨h.1.only o Qb,h.2⟩
theorem aj.mono (h:aj k lo hi w v l) (E:lo'<=lo) (D:hi<=hi'):aj k lo' hi' w v l:=⟨h.1.mono E D,h.2⟩
theorem aj.nil (k:IntKind) (lo hi:Nat) (w:World):aj k lo hi w (.slice none 0 0) []:=⟨cf.nil _ _ _ _,Qb⟩
theorem aj.open (h:aj k lo hi w v l):∃ (a:Option Addr) (cap:Nat),v=.slice a l.length cap/\l.length<=cap/\cap<=maxLen /\
  (∀ i,i<l.length->∃ b off,a=some ⟨b,off,none⟩/\lo<=b/\b<hi) /\
  ∀ b off,a=some ⟨b,off,none⟩->∀ i,i<l.length->w.cell? ⟨b,off+i,none⟩=some (.int k (l.getD i 0)):=by
 obtain ⟨⟨_,a,cap,F,I,J,E⟩,_⟩:=h;refine ⟨a,cap,F,I,J,fun i hi=>?_,fun b off e i hi=>?_⟩
 ·obtain ⟨b,off,e,x,y,_⟩:=E Qa
  exact ⟨b,off,e,x,y⟩
 ·obtain ⟨N,M,D,x,y,L⟩:=E Qa
  rw [e] at D;injection D with D
  injection D with e1 e2
  subst e1;subst e2;refine L i _ ?_;simp [Pe hi]
theorem aj.at (h:aj k lo hi w v l) {i:Nat} (hi':i<l.length):∃ b off cap,v=.slice (some ⟨b,off,none⟩) l.length cap/\lo<=b/\b<hi /\
  w.cell? ⟨b,off+i,none⟩=some (.int k (l.getD i 0)):=by
 obtain ⟨a,cap,rfl,_,_,h1,D⟩:=h.open;obtain ⟨b,off,rfl,x,y⟩:=h1 i hi';exact ⟨b,off,cap,rfl,x,y,D b off rfl i hi'⟩
theorem aj.range (h:aj k lo hi w v l) {i:Nat} (hi':i<l.length):i7 k (l.getD i 0):=by
 refine h.2 _ ?_;simp [hi']
theorem f9.ints (h:f9 k e base w v l):aj k base w.heap.size w v l:=⟨cf.of_own h.1,h.2⟩
theorem f9.nil (k:IntKind) (e:TypeId) (base:Nat) (w:World):f9 k e base w (.slice none 0 0) []:=⟨World.ownsRow_nil w base e 1,Qb⟩
end
section
variable {size base n:Nat} {e:TypeId} {w w':World} {v:Value} {xs:List Value} {S:List Nat} {k:IntKind} {l:List Int}
theorem dN (h:w.ownsRow base e size v n xs) (o:ae S w w') (D:∀ g∈S,v.ownBlock≠some g):w'.ownsRow base e size v n xs:=by
 refine ⟨h.1,?_⟩;rcases h.2 with hn | ⟨g,cap,cur,rfl,hb,hgg,rest⟩
 ·exact .inl hn
 ·refine .inr ⟨g,cap,cur,rfl,hb,?_,rest⟩
  rw [o.block g (l8.1 hgg).1 (fun E=>D g E rfl)];exact hgg
theorem GX {base':Nat} (h:w.ownsRow base e size v n xs) (D:base'<=base):w.ownsRow base' e size v n xs:=by
 refine ⟨h.1,?_⟩;rcases h.2 with hn | ⟨g,cap,cur,rfl,hb',rest⟩
 ·exact .inl hn
 ·exact .inr ⟨g,cap,cur,rfl,Qa,rest⟩
theorem f9.only (h:f9 k e base w v l) (o:ae S w w') (D:∀ g∈S,v.ownBlock≠some g):f9 k e base w' v l:=⟨dN h.1 o D,h.2⟩
theorem f9.quiet (h:f9 k e base w v l) (o:ae [] w w'):f9 k e base w' v l:=h.only o Qb
theorem f9.lower {base':Nat} (h:f9 k e base w v l) (D:base'<=base):f9 k e base' w v l:=⟨GX h.1 D,h.2⟩
theorem f9.at (h:f9 k e base w v l):∀ g,v.ownBlock=some g->base<=g/\g<w.heap.size:=h.1.lt
end
structure p9 (bv:Value) (w:World) (v':Value) (w':World):Prop where
 only:ae bv.ownBlock.toList w w'
 at_:v'.ownBlock=bv.ownBlock\/∀ g,v'.ownBlock=some g->w.heap.size<=g
section
variable {a b c:Value} {w w' w'':World} {S:List Nat}
theorem p9.base {B:Nat} (h:p9 a w b w') (E:∀ g,a.ownBlock=some g->B<=g) (F:B<=w.heap.size):∀ g,b.ownBlock=some g->B<=g:=by
 intro g D;rcases h.at_ with e | e
 ·exact E g (e ▸ D)
 ·have:=e g D;omega
end
def bj (B:Nat) (v:Value):Prop:=∀ g,v.ownBlock=some g->B<=g
theorem bj.lit {B g n c:Nat} (h:B<=g):bj B (.slice g n c):=by intro x hx;simp [Value.ownBlock] at hx;omega
theorem bj.nil (B:Nat):bj B (.slice none 0 0):=by intro x hx;simp [Value.ownBlock] at hx
theorem p9.from_ {a b:Value} {w w':World} {B:Nat} (h:p9 a w b w') (E:bj B a) (D:B<=w.heap.size):bj B b:=h.base E D
theorem p9.cell {a b:Value} {w w':World} {B:Nat} (h:p9 a w b w') (D:bj B a) {p:Addr} {v:Value} (E:w.cell? p=some v) (F:p.block<B):w'.cell? p=some v :=
 h.only.cell E (fun hm=>by have:=D p.block Qr;omega)
theorem ae.acc {a b:Value} {w0 w w':World} (h:ae [] w0 w) (k:p9 a w b w') (D:bj w0.heap.size a):ae [] w0 w' :=
 h.trans k.only Qb (fun g hg E=>by have:=D g Qn;omega)
structure iF (P:Program) (t e:TypeId) (z:Value) (size bytes:Nat):Prop where
 ut:P.underlying t=some (.slice e)
 inf:∃ i,P.info? e=some i/\i.zero=some z/\i.size=size/\i.bytes=bytes
 zs:z.cells.size=size
 pos:0<size
 bp:0<bytes
theorem iF.mk' {P:Program} {t e:TypeId} {z:Value} {size bytes:Nat} (ut:P.underlying t=some (.slice e))
  (h:(P.info? e).map (fun i=>(i.zero,i.size,i.bytes))=some (some z,size,bytes)) (zs:z.cells.size=size) (pos:0<size) (bp:0<bytes):iF P t e z size bytes:=by
 obtain ⟨i,h1,D,E,F⟩:=info_parts h;exact ⟨ut,⟨i,h1,D,E,F⟩,zs,pos,bp⟩
section
variable {P:Program}
theorem qQ {w:World} {t ty e:TypeId} {z:Value} {size bytes base lo hi n m:Nat} {v sv:Value} {xs D:List Value} (E:iF P t e z size bytes)
  (M:w.ownsRow base e size v n xs) (hs:cf size lo hi w sv m D) (h1:∀ u∈D,u.oneCell'=true)
  (N:n+m<=maxLen) (RH:(n+m)*bytes<=140737488355328) (Sn:base<=w.heap.size) :
  ∃ v' w',(Builtin.append_ #[t,t] ty #[v,sv]).run P w=.ok v' w'/\w'.ownsRow base e size v' (n+m) (xs ++ D)/\ae v.ownBlock.toList w w' /\
   (v'.ownBlock=v.ownBlock\/v'.ownBlock=some w.heap.size):=by
 obtain ⟨i,hi,hz,L,TU⟩:=E.inf;obtain ⟨V,A,cap,rfl,_,_,Z⟩:=hs;have F:∀ c,m=0->∃ v' w',(Builtin.append_ #[t,t] ty #[v,.slice none m c]).run P w=.ok v' w'/\w'.ownsRow base e size v' (n+m) (xs ++ D)/\ae v.ownBlock.toList w w' /\
   (v'.ownBlock=v.ownBlock\/v'.ownBlock=some w.heap.size):=by
  rintro c rfl;have Y:D=[]:=List.eq_nil_of_length_eq_zero (by simpa using V);subst Y;refine ⟨v,w,?_,by simpa using M,AY,.inl rfl⟩;rcases M.2 with ⟨rfl,rfl⟩ | ⟨g,cap,cur,rfl,_,_,hnc,_⟩
  ·simp [Builtin.append_,run_underlying E.ut,sizeOf,typeInfo,hi,Builtin.lenOf,Builtin.firstCells]
  ·simp [Builtin.append_,run_underlying E.ut,sizeOf,typeInfo,hi,Builtin.lenOf,Builtin.firstCells,hnc,storeCells]
 rcases A with _ | ad
 ·have hm:m=0:=by
   rcases Nat.eq_zero_or_pos m with h0 | h0
   ·exact h0
   ·obtain ⟨b,off,h,_⟩:=Z h0
    cases h
  exact F cap hm
 ·have I:∀ j u,D[j]?=some u->w.cell? (ad.add j)=some u:=by
   intro j u hu;rcases Nat.eq_zero_or_pos m with h0 | h0
   ·subst h0
    have Y:D=[]:=List.eq_nil_of_length_eq_zero (by simpa using V);subst Y;simp at hu
   ·obtain ⟨b,off,h,_,_,O⟩:=Z h0
    injection h with h
    subst h;have:=O j u hu;unfold Addr.add
    split
    ·rename_i hj;subst hj;simpa using this
    ·simpa using this
  obtain ⟨v',w',J,h2,h3,_,h5⟩:=run_append_own_at (P:=P) w base t ty e i z size bytes E.ut hi hz L TU E.zs E.pos v n xs M ad m cap D V I h1 N RH Sn;exact ⟨v',w',J,h2,ae.of_grown h3,h5⟩
theorem jf {w:World} {o:Oper} {a:Act} {K:Act->World->Prop} {Q:Exit->Act->World->Prop} (s x:Operand) (t:TypeId)
  (Y:o.op=.call { callee:=.builtin .append,args:=#[s,x],argTypes:=#[t,t] })
  {e:TypeId} {z:Value} {size bytes base lo hi n m:Nat} {v sv:Value} {xs F:List Value} (E:iF P t e z size bytes)
  (J:w.ownsRow base e size v n xs) (hv:a.eval s=v) (Z:cf size lo hi w sv m F) (hx:a.eval x=sv) (h1:∀ u∈F,u.oneCell'=true)
  (I:n+m<=maxLen) (L:(n+m)*bytes<=140737488355328) (M:base<=w.heap.size)
  (h:∀ v' w',w'.ownsRow base e size v' (n+m) (xs ++ F)->ae v.ownBlock.toList w w'->(v'.ownBlock=v.ownBlock\/v'.ownBlock=some w.heap.size)->K (a.put o.dst v') w'):o.wp P a w K Q:=by
 obtain ⟨v',w',D,N,O,V⟩:=qQ (P:=P) (ty:=o.type) E J Z h1 I L M;unfold Oper.wp execOp;simp only [Y,resolve,invoke,builtin,Sem.run_bind,Sem.run_pure,Result.andThen_ok,List.map_toArray,PU,PV,hv,hx,D];exact h v' w' N O V
theorem dH {w:World} {ops:Array Oper} {rest:List Oper} {o:Oper} {a:Act} {Q:Exit->Act->World->Prop} (M:o.guard=none) (s x:Operand) (t:TypeId)
  (Y:o.op=.call { callee:=.builtin .append,args:=#[s,x],argTypes:=#[t,t] })
  {e:TypeId} {z:Value} {size bytes base lo hi n m:Nat} {v sv:Value} {xs D:List Value} (E:iF P t e z size bytes)
  (I:w.ownsRow base e size v n xs) (hv:a.eval s=v) (Z:cf size lo hi w sv m D) (hx:a.eval x=sv) (h1:∀ u∈D,u.oneCell'=true)
  (F:n+m<=maxLen) (J:(n+m)*bytes<=140737488355328) (L:base<=w.heap.size)
  (h:∀ v' w',w'.ownsRow base e size v' (n+m) (xs ++ D)->ae v.ownBlock.toList w w'->(v'.ownBlock=v.ownBlock\/v'.ownBlock=some w.heap.size)->wpList P ops Q rest (a.put o.dst v') w'):wpList P ops Q (o :: rest) a w :=
 wpList_plain M fun _ hK=>jf s x t Y E I hv Z hx h1 F J L fun v' w' N O V=>hK _ _ (h v' w' N O V)
theorem kf {w:World} {ops:Array Oper} {o:Oper} {a:Act} {K:Act->World->Prop} {Q:Exit->Act->World->Prop} {E':Prop} (N:o.guard=none) (s x:Operand) (t:TypeId)
  (Z:o.op=.call { callee:=.builtin .append,args:=#[s,x],argTypes:=#[t,t] })
  {e:TypeId} {z:Value} {size bytes base lo hi n m:Nat} {v sv:Value} {xs D:List Value} (E:iF P t e z size bytes)
  (J:w.ownsRow base e size v n xs) (hv:a.eval s=v) (hs:cf size lo hi w sv m D) (hx:a.eval x=sv) (h1:∀ u∈D,u.oneCell'=true)
  (F:n+m<=maxLen) (L:(n+m)*bytes<=140737488355328) (M:base<=w.heap.size)
  (h:∀ v' w',w'.ownsRow base e size v' (n+m) (xs ++ D)->p9 v w v' w'->K (a.put o.dst v') w'):if Region.wanted o (yielded ops a.tmps)=true then Oper.wp P o a w K Q else E':=by
 rw [if_pos (by simp [Region.wanted,N])];exact jf s x t Z E J hv hs hx h1 F L M fun v' w' O V Y=>h v' w' O ⟨V,Y.imp id fun e g I=>by rw [e] at I;injection I with I;omega⟩
theorem au {w:World} {ops:Array Oper} {rest:List Oper} {o:Oper} {a:Act} {Q:Exit->Act->World->Prop} (N:o.guard=none) (s x:Operand) (t:TypeId)
  (ho:o.op=.call { callee:=.builtin .append,args:=#[s,x],argTypes:=#[t,t] })
  {k:IntKind} {e:TypeId} {z:Value} {bytes base lo hi:Nat} {v sv:Value} {l m:List Int} (E:iF P t e z 1 bytes)
  (I:f9 k e base w v l) (hv:a.eval s=v) (L:aj k lo hi w sv m) (hx:a.eval x=sv)
  (J:(l.length+m.length)*bytes<=140737488355328) (M:base<=w.heap.size)
  (h:∀ v' w',f9 k e base w' v' (l ++ m)->p9 v w v' w'->wpList P ops Q rest (a.put o.dst v') w'):wpList P ops Q (o :: rest) a w:=by
 have Z:l.length+m.length<=140737488355328:=Pw (Nat.le_mul_of_pos_right _ E.bp) J;refine dH N s x t ho E I.1 hv L.1 hx (by simp only [x8];rintro u ⟨x,_,rfl⟩;rfl) (by simp only [maxLen];omega) J M fun v' w' O V Y=>h v' w' ⟨?_,?_⟩ ⟨V,Y.imp id fun e g F=>by rw [e] at F;injection F with F;omega⟩
 ·simpa using O
 ·intro y D
  rcases B0.1 D with D | D
  ·exact I.2 y D
  ·exact L.2 y D
end
theorem zP {k:IntKind} {w:World} {t:TypeId} {l:List Int} {vs:Array Value} (E:vs=(l.map (Value.int k)).toArray) (F:l.length<=maxLen) (D:∀ x∈l,i7 k x) (n:Nat) (I:n=l.length) :
  aj k w.heap.size (w.heap.size+1) (w.alloc (.cells vs t)) (.slice w.heap.size n n) l:=by
 subst I;subst E;refine ⟨⟨Qb,some ⟨w.heap.size,0,none⟩,_,rfl,Pm _,F,fun _=>⟨w.heap.size,0,rfl,Pm _,Nat.lt_succ_self _,fun j u hu=>?_⟩⟩,D⟩;rw [RG (Sd w _)];simpa using hu
theorem nO {k:IntKind} {w:World} {t:TypeId} {l:List Int} {vs:Array Value} (E:vs=(l.map (Value.int k)).toArray) (F:l.length<=maxLen) (D:∀ x∈l,i7 k x) (n:Nat) (I:n=l.length) :
  f9 k t w.heap.size (w.alloc (.cells vs t)) (.slice w.heap.size n n) l:=by
 subst I;subst E;refine ⟨⟨Qb,.inr ⟨w.heap.size,_,_,rfl,Pm _,Sd w _,Pm _,F,Qb,by simp [YN]⟩⟩,D⟩
theorem fG {size:Nat} {w:World} {t:TypeId} {vs:Array Value} {g n:Nat} {xs:List Value} (E:vs.toList=xs) (I:xs.length=n*size) (F:n<=maxLen) (D:w.heap.size=g) :
  cf size g (g+1) (w.alloc (.cells vs t)) (.slice g n n) n xs:=by
 subst D;subst E;refine ⟨I,some ⟨w.heap.size,0,none⟩,n,rfl,Pm _,F,fun _=>⟨w.heap.size,0,rfl,Pm _,Nat.lt_succ_self _,fun j u hu=>?_⟩⟩;rw [RG (Sd w _)];simpa using hu
theorem ak {w:World} {o:Obj} {g:Nat} (D:w.heap.size=g):(w.alloc o).heap[g]?=some o:=by subst D;exact Sd w o
theorem iQ {k:IntKind} {w:World} {t:TypeId} {l:List Int} {vs:Array Value} {g:Nat} (F:vs=(l.map (Value.int k)).toArray) (I:l.length<=maxLen) (E:∀ x∈l,i7 k x) (n:Nat) (J:n=l.length) (D:w.heap.size=g) :
  f9 k t g (w.alloc (.cells vs t)) (.slice g n n) l:=by
 subst D;exact nO F I E n J
theorem aU {k:IntKind} {w:World} {t:TypeId} {l:List Int} {vs:Array Value} {g:Nat} (F:vs=(l.map (Value.int k)).toArray) (I:l.length<=maxLen) (E:∀ x∈l,i7 k x) (n:Nat) (J:n=l.length) (D:w.heap.size=g) :
  aj k g (g+1) (w.alloc (.cells vs t)) (.slice g n n) l:=by
 subst D;exact zP F I E n J
theorem aK {P:Program} {n:Nat} {args:Array Value} {w:World} {R:Ending->World->Prop} (k:∀ Q:Ending->World->Prop,Hid (∀ e w',R e w'->Q e w')->Calls P n args w Q):Calls P n args w R:=k _ (lh fun _ _ h=>h)
theorem pd {w w':World} (h:ae [] w w') {g:Nat} {o:Obj} (hr:w.heap[g]?=some o):w'.heap[g]?=some o:=(h.block g (l8.1 hr).1 Qb).trans hr
theorem km (w:World) (a b:Obj):ae [] w ((w.alloc a).alloc b)/\Hid (((w.alloc a).alloc b).heap[w.heap.size]?=some a)/\Hid (((w.alloc a).alloc b).heap[w.heap.size+1]?=some b)/\Hid (((w.alloc a).alloc b).heap.size=w.heap.size+1+1) :=
 ⟨(ae.new w a).alloc b,lh (pd ((ae.new ((w.alloc a)) b)) (Sd w _)),lh (ak Qb),lh Qb⟩
theorem kp (w:World) (a b c:Obj):ae [] w (((w.alloc a).alloc b).alloc c)/\Hid ((((w.alloc a).alloc b).alloc c).heap[w.heap.size]?=some a)/\Hid ((((w.alloc a).alloc b).alloc c).heap[w.heap.size+1]?=some b)/\Hid ((((w.alloc a).alloc b).alloc c).heap[w.heap.size+1+1]?=some c)/\Hid ((((w.alloc a).alloc b).alloc c).heap.size=w.heap.size+1+1+1) :=
 ⟨((ae.new w a).alloc b).alloc c,lh (pd (((ae.new ((w.alloc a)) b).alloc c)) (Sd w _)),lh (pd ((ae.new (((w.alloc a).alloc b)) c)) (ak Qb)),lh (ak Qb),lh Qb⟩
theorem NA (w:World) (a b c d e:Obj):ae [] w (((((w.alloc a).alloc b).alloc c).alloc d).alloc e)/\Hid ((((((w.alloc a).alloc b).alloc c).alloc d).alloc e).heap[w.heap.size]?=some a)/\Hid ((((((w.alloc a).alloc b).alloc c).alloc d).alloc e).heap[w.heap.size+1]?=some b)/\Hid ((((((w.alloc a).alloc b).alloc c).alloc d).alloc e).heap[w.heap.size+1+1]?=some c)/\Hid ((((((w.alloc a).alloc b).alloc c).alloc d).alloc e).heap[w.heap.size+1+1+1]?=some d)/\Hid ((((((w.alloc a).alloc b).alloc c).alloc d).alloc e).heap[w.heap.size+1+1+1+1]?=some e)/\Hid ((((((w.alloc a).alloc b).alloc c).alloc d).alloc e).heap.size=w.heap.size+1+1+1+1+1) :=
 ⟨((((ae.new w a).alloc b).alloc c).alloc d).alloc e,lh (pd (((((ae.new ((w.alloc a)) b).alloc c).alloc d).alloc e)) (Sd w _)),lh (pd ((((ae.new (((w.alloc a).alloc b)) c).alloc d).alloc e)) (ak Qb)),lh (pd (((ae.new ((((w.alloc a).alloc b).alloc c)) d).alloc e)) (ak Qb)),lh (pd ((ae.new (((((w.alloc a).alloc b).alloc c).alloc d)) e)) (ak Qb)),lh (ak Qb),lh Qb⟩
theorem NB (w:World) (a b c d e f:Obj):ae [] w ((((((w.alloc a).alloc b).alloc c).alloc d).alloc e).alloc f)/\Hid (((((((w.alloc a).alloc b).alloc c).alloc d).alloc e).alloc f).heap[w.heap.size]?=some a)/\Hid (((((((w.alloc a).alloc b).alloc c).alloc d).alloc e).alloc f).heap[w.heap.size+1]?=some b)/\Hid (((((((w.alloc a).alloc b).alloc c).alloc d).alloc e).alloc f).heap[w.heap.size+1+1]?=some c)/\Hid (((((((w.alloc a).alloc b).alloc c).alloc d).alloc e).alloc f).heap[w.heap.size+1+1+1]?=some d)/\Hid (((((((w.alloc a).alloc b).alloc c).alloc d).alloc e).alloc f).heap[w.heap.size+1+1+1+1]?=some e)/\Hid (((((((w.alloc a).alloc b).alloc c).alloc d).alloc e).alloc f).heap[w.heap.size+1+1+1+1+1]?=some f)/\Hid (((((((w.alloc a).alloc b).alloc c).alloc d).alloc e).alloc f).heap.size=w.heap.size+1+1+1+1+1+1) :=
 ⟨(((((ae.new w a).alloc b).alloc c).alloc d).alloc e).alloc f,lh (pd ((((((ae.new ((w.alloc a)) b).alloc c).alloc d).alloc e).alloc f)) (Sd w _)),lh (pd (((((ae.new (((w.alloc a).alloc b)) c).alloc d).alloc e).alloc f)) (ak Qb)),lh (pd ((((ae.new ((((w.alloc a).alloc b).alloc c)) d).alloc e).alloc f)) (ak Qb)),lh (pd (((ae.new (((((w.alloc a).alloc b).alloc c).alloc d)) e).alloc f)) (ak Qb)),lh (pd ((ae.new ((((((w.alloc a).alloc b).alloc c).alloc d).alloc e)) f)) (ak Qb)),lh (ak Qb),lh Qb⟩
section
variable {P:Program} {md:Region.Mode} {ops:Array Oper} {Q:Exit->Act->World->Prop} {S:World->Prop}
theorem e9 {fuel:Nat} {QZ:Array Bool} {a a':Act} {w:World} {op:Op} {ty:TypeId} {pos:String} {af:Array Edge} {gd:Option (Nat×Bool)} {v:Value} (i d:Nat)
  (D:ops[i]?=some ⟨some d,op,ty,pos,af,gd⟩/\∀ w,S w->(execOp a.eval ⟨some d,op,ty,pos,af,gd⟩).run P w=.ok (.value v) w)
  (h:wpAnyH P md ops Q S fuel (QZ.setIfInBounds i true) a' w)
  (hs:Region.noSelect ops=true:=by kernel_rfl) (hf:Region.free md ops QZ i=true:=by kernel_rfl) (hr:(Region.ready md ops QZ).contains i=true:=by kernel_rfl)
  (hQ:∀ c a w,Q (.panic c) (a.put (some d) v) w->Q (.panic c) a w:=by exact fun _ _ _ h=>h)
  (hw:Region.wanted ⟨some d,op,ty,pos,af,gd⟩ (yielded ops a.tmps)=true:=by rfl) (hS:S w:=by assumption)
  (hp:∀ p:Act->Prop,p a'->p (a.put (some d) v):=by intro p h;(try simp only [Act.put,Pf,Pi,Pj]);exact h):wpAnyH P md ops Q S (fuel+1) QZ a w:=by
 exact wpAnyH_take D.1 hs hf hr hQ (Or.inl ⟨hw,D.2⟩) hS (hp (fun x=>wpAnyH P md ops Q S fuel (QZ.setIfInBounds i true) x w) h)
theorem tk {fuel:Nat} {QZ:Array Bool} {a a':Act} {w:World} {op:Op} {ty:TypeId} {pos:String} {af:Array Edge} {gd:Option (Nat×Bool)} {v:Value} (i d:Nat)
  (h:wpAnyH P md ops Q S fuel (QZ.setIfInBounds i true) a' w)
  (hy:ops[i]?=some ⟨some d,op,ty,pos,af,gd⟩/\∀ w,S w->(execOp a.eval ⟨some d,op,ty,pos,af,gd⟩).run P w=.ok (.value v) w:=by refine ⟨rfl,?_⟩;intro wz Rb;(try dsimp only at Rb);(repeat (have Un:=And.left Rb;replace Rb:=And.right Rb));go_simp;try with_reducible rfl)
  (hs:Region.noSelect ops=true:=by kernel_rfl) (hf:Region.free md ops QZ i=true:=by kernel_rfl) (hr:(Region.ready md ops QZ).contains i=true:=by kernel_rfl)
  (hQ:∀ c a w,Q (.panic c) (a.put (some d) v) w->Q (.panic c) a w:=by exact fun _ _ _ h=>h)
  (hw:Region.wanted ⟨some d,op,ty,pos,af,gd⟩ (yielded ops a.tmps)=true:=by rfl) (hS:S w:=by assumption)
  (hp:∀ p:Act->Prop,p a'->p (a.put (some d) v):=by intro p h;(try simp only [Act.put,Pf,Pi,Pj]);exact h):wpAnyH P md ops Q S (fuel+1) QZ a w:=e9 i d hy h hs hf hr hQ hw hS hp
theorem j2 {fuel:Nat} {E:Array Bool} {a:Act} {w:World} {op:Op} {ty:TypeId} {pos:String} {af:Array Edge} {gd:Option (Nat×Bool)} {rs:List Nat} (i d:Nat)
  (h:∀ D:Act->World->Prop,Shut (∀ a w,S w->(S w->wpAnyH P md ops Q S fuel (E.setIfInBounds i true) a w)->D a w)->if Region.wanted ⟨some d,op,ty,pos,af,gd⟩ (yielded ops a.tmps)=true then Oper.wp P ⟨some d,op,ty,pos,af,gd⟩ a w D Q else D (a.put (some d) undef) w)
  (F:AllReadyH P md ops Q S fuel E a w rs) (ho:ops[i]?=some ⟨some d,op,ty,pos,af,gd⟩:=by rfl):AllReadyH P md ops Q S fuel E a w (i :: rs):=AllReadyH.cons ho h F
theorem C9 {fuel:Nat} {E:Array Bool} {a:Act} {w:World} {op:Op} {ty:TypeId} {pos:String} {af:Array Edge} {gd:Option (Nat×Bool)} {rs:List Nat} (i:Nat)
  (h:∀ D:Act->World->Prop,Shut (∀ a w,S w->(S w->wpAnyH P md ops Q S fuel (E.setIfInBounds i true) a w)->D a w)->if Region.wanted ⟨none,op,ty,pos,af,gd⟩ (yielded ops a.tmps)=true then Oper.wp P ⟨none,op,ty,pos,af,gd⟩ a w D Q else D (a.put none undef) w)
  (F:AllReadyH P md ops Q S fuel E a w rs) (ho:ops[i]?=some ⟨none,op,ty,pos,af,gd⟩:=by rfl):AllReadyH P md ops Q S fuel E a w (i :: rs):=AllReadyH.cons ho h F
theorem C2 {fuel:Nat} {QZ:Array Bool} {a:Act} {w:World} {i:Nat} {rs:List Nat} (h:AllReadyH P md ops Q S fuel QZ a w (i :: rs)) (hr:Region.ready md ops QZ=i :: rs:=by kernel_rfl):wpAnyH P md ops Q S (fuel+1) QZ a w:=j8 hr Qb h
theorem ko {fuel:Nat} {D:Array Bool} {K:Act->World->Prop} {a a':Act} {w:World} (hK:Shut (∀ a w,S w->(S w->wpAnyH P md ops Q S fuel D a w)->K a w)) (E:S w) (h:S w->wpAnyH P md ops Q S fuel D a' w) (hp:∀ p:Act->Prop,p a'->p a:=by intro p h;(try simp only [Act.put,Pf,Pi,Pj]);exact h):K a w:=hK.out _ _ E fun x=>hp (fun y=>wpAnyH P md ops Q S fuel D y w) (h x)
theorem j6 {fuel:Nat} {QZ:Array Bool} {a:Act} {w:World} {op:Op} {ty:TypeId} {pos:String} {af:Array Edge} {gd:Option (Nat×Bool)} (i d:Nat) (h:∀ D:Act->World->Prop,Shut (∀ a w,S w->(S w->wpAnyH P md ops Q S fuel (QZ.setIfInBounds i true) a w)->D a w)->if Region.wanted ⟨some d,op,ty,pos,af,gd⟩ (yielded ops a.tmps)=true then Oper.wp P ⟨some d,op,ty,pos,af,gd⟩ a w D Q else D (a.put (some d) undef) w) (ho:ops[i]?=some ⟨some d,op,ty,pos,af,gd⟩:=by rfl) (hr:Region.ready md ops QZ=[i]:=by kernel_rfl):wpAnyH P md ops Q S (fuel+1) QZ a w:=C2 (j2 i d h .nil ho) hr
theorem j9 {fuel:Nat} {QZ:Array Bool} {a:Act} {w:World} {op:Op} {ty:TypeId} {pos:String} {af:Array Edge} {gd:Option (Nat×Bool)} (i:Nat) (h:∀ D:Act->World->Prop,Shut (∀ a w,S w->(S w->wpAnyH P md ops Q S fuel (QZ.setIfInBounds i true) a w)->D a w)->if Region.wanted ⟨none,op,ty,pos,af,gd⟩ (yielded ops a.tmps)=true then Oper.wp P ⟨none,op,ty,pos,af,gd⟩ a w D Q else D (a.put none undef) w) (ho:ops[i]?=some ⟨none,op,ty,pos,af,gd⟩:=by rfl) (hr:Region.ready md ops QZ=[i]:=by kernel_rfl):wpAnyH P md ops Q S (fuel+1) QZ a w:=C2 (C9 i h .nil ho) hr
end
theorem aC {a b:Bool} (h:a=b):Ending.returned (.bool a)=.returned (.bool b):=by rw [h]
theorem ee {k:IntKind} {a b:Int} (h:a=b):Ending.returned (.int k a)=.returned (.int k b):=by rw [h]
def Jv (v l m:Int):Bool:=decide (l<=v) && decide (v<=m)
theorem Jw (v l m:Int) (w:World) :
  Calls prog 175 #[v,l,m] w fun e w'=>e=.returned (.bool (Jv v l m))/\w=w':=by
 go_enter func175,ntmps175;go_wp2
 all_goals
  go_ret;exact ⟨aC (by unfold Jv;rw [m9];simp;try omega),rfl⟩
def fu (n:Int):Bool:=decide (8<=n/\n<=32/\n % 8=0)
theorem Fq {p:Prop} (h:p:=by
 go_enter func63,ntmps63;go_wp2
 all_goals
  go_ret;exact ⟨aC (by unfold fu;rw [m9];simp;try omega),rfl⟩):p:=h
theorem mW (n:Int) (w:World) :
  Calls prog 63 #[n] w fun e w'=>e=.returned (.bool (fu n))/\w=w':=by
 by_cases h8:8<=n
 ·by_cases D:n<=32
  all_goals
   exact Fq
 ·exact Fq
def jq (n:Int):Bool:=decide (0<=n/\n<=255)
theorem ux (n:Int) (w:World) :
  Calls prog 64 #[n] w fun e w'=>e=.returned (.bool (jq n))/\w=w':=by
 go_enter func64,ntmps64;go_wp2
 all_goals
  go_ret;exact ⟨aC (by unfold jq;rw [m9];simp;try omega),rfl⟩
def gX (k:Int):Bool:=decide (k=1\/k=4)
theorem oJ (k:Int) (w:World) :
  Calls prog 179 #[k] w fun e w'=>e=.returned (.bool (gX k))/\w=w':=by
 go_enter func179,ntmps179;go_wp2
 all_goals
  go_ret;exact ⟨aC (by unfold gX;rw [m9];simp;try omega),rfl⟩
def jY (k:Int):Bool:=decide (1<=k/\k<=4)
theorem iN (k:Int) (w:World) :
  Calls prog 84 #[k] w fun e w'=>e=.returned (.bool (jY k))/\w=w':=by
 go_enter func84,ntmps84;go_wp2
 all_goals
  go_ret;exact ⟨aC (by unfold jY;rw [m9];simp;try omega),rfl⟩
def lQ (k:Int):Bool:=decide (k=3\/k=4)
theorem iI (k:Int) (w:World) :
  Calls prog 85 #[k] w fun e w'=>e=.returned (.bool (lQ k))/\w=w':=by
 go_enter func85,ntmps85;go_wp2
 all_goals
  go_ret;exact ⟨aC (by unfold lQ;rw [m9];simp;try omega),rfl⟩
def headB (n f c:Int):Bool:=decide (0<=n/\n<16/\0<=f/\f<16/\1<=c/\c<=16)
theorem kJ (n f c:Int) (w:World) :
  Calls prog 177 #[n,.agg #[f,c]] w fun e w'=>e=.returned (.bool (headB n f c))/\ae [] w w':=by
 go_enter func177,ntmps177;go_wp2
 all_goals
  go_ret;exact ⟨aC (by unfold headB;rw [m9];simp;try omega),(AY).alloc _⟩
theorem LJ (n:Int) (w:World) (h:0<=n) (h1:n<=9223372036854775799) :
  Calls prog 114 #[n] w fun e w'=>e=.returned (.int .i64 (n+8))/\w=w':=by
 go_enter func114,ntmps114;go_wp2;go_ret;exact ⟨rfl,rfl⟩
theorem Km (c:Int) (x:Value) (w:World) :
  Calls prog 37 #[.agg #[c,x]] w fun e w'=>e=.returned (.bool (c == 0))/\ae [] w w':=by
 go_enter func37,ntmps37;go_wp2;go_ret;exact ⟨rfl,(AY).alloc _⟩
theorem zq {lo hi:Nat} {k:Int} {v:Value} {l:List Int} {w:World} (h:aj .u8 lo hi w v l) (D:l.length<=9223372036854775799) :
  Calls prog 50 #[.agg #[k,v]] w fun e w'=>e=.returned (.int .i64 (l.length+8))/\ae [] w w':=by
 obtain ⟨a,cap,rfl,_⟩:=h.open;go_enter func50,ntmps50
 go_wp2_with (go_at_call 114;refine (LJ _ _ Qa Qa).mono ?_;rintro e w' ⟨rfl,rfl⟩)
 go_ret;exact ⟨rfl,(AY).alloc _⟩
theorem E8:iF prog 29 5 (.int .u8 0) 1 1:=iF.mk' underlying29 Qc rfl Qa Qa
theorem EI:iF prog 22 3 (.int .i64 0) 1 8:=iF.mk' underlying22 Qc rfl Qa Qa
def be (v:Int):Nat->List Int
 | 0=>[]
 | n+1=>v / 2 ^ (8*n) % 256 :: be v n
theorem vE (v:Int):∀ n,(be v n).length=n
 | 0=>rfl
 | n+1=>by simp [be,vE v n]
theorem yM (v:Int):∀ n,∀ x∈be v n,i7 .u8 x
 | 0=>by simp [be]
 | n+1=>by
  intro x hx;simp only [be,Pg] at hx;rcases hx with rfl | hx
  ·exact ⟨Qa,Qa⟩
  ·exact yM v n x hx
def ir (size lo hi:Nat) (w:World) (v:Value) (n:Nat) (f:Nat->Nat->Value):Prop :=
 ∃ (a:Option Addr) (cap:Nat),v=.slice a n cap/\n<=cap/\cap<=maxLen /\
  (0<n->∃ b off,a=some ⟨b,off,none⟩/\lo<=b/\b<hi/\∀ i j,i<n->j<size->w.cell? ⟨b,off+i*size+j,none⟩=some (f i j))
section
variable {size lo hi lo' hi' n:Nat} {w w':World} {v:Value} {f:Nat->Nat->Value} {S:List Nat}
theorem ir.only (h:ir size lo hi w v n f) (o:ae S w w') (J:∀ g∈S,g<lo\/hi<=g):ir size lo hi w' v n f:=by
 obtain ⟨a,cap,D,E,F,I⟩:=h;refine ⟨a,cap,D,E,F,fun Y=>?_⟩;obtain ⟨b,off,e,O,M,L⟩:=I Y;exact ⟨b,off,e,O,M,fun i j hi N=>o.cell (L i j hi N) (fun V=>by have:=J _ V;simp at this;omega)⟩
theorem ir.mono (h:ir size lo hi w v n f) (V:lo'<=lo) (O:hi<=hi'):ir size lo' hi' w v n f:=by
 obtain ⟨a,cap,D,E,F,I⟩:=h;refine ⟨a,cap,D,E,F,fun N=>?_⟩;obtain ⟨b,off,e,M,L,J⟩:=I N;exact ⟨b,off,e,Qa,Qa,J⟩
theorem ir.open (h:ir size lo hi w v n f):∃ (a:Option Addr) (cap:Nat),v=.slice a n cap/\n<=cap/\cap<=maxLen /\
  ∀ i,i<n->∃ b off,a=some ⟨b,off,none⟩/\lo<=b/\b<hi/\∀ j,j<size->w.cell? ⟨b,off+i*size+j,none⟩=some (f i j):=by
 obtain ⟨a,cap,D,E,F,I⟩:=h;refine ⟨a,cap,D,E,F,fun i hi=>?_⟩;obtain ⟨b,off,e,N,L,J⟩:=I Qa;exact ⟨b,off,e,N,L,fun j M=>J i j hi M⟩
theorem ir.nil (size lo hi:Nat) (w:World) (f:Nat->Nat->Value):ir size lo hi w (.slice none 0 0) 0 f :=
 ⟨none,0,rfl,Pm _,Qb,fun h=>absurd h Qa⟩
theorem ir.of_own {base:Nat} {e:TypeId} {xs:List Value} (h:w.ownsRow base e size v n xs) (L:∀ i j,i<n->j<size->xs[i*size+j]?=some (f i j)):ir size base w.heap.size w v n f:=by
 obtain ⟨h1,a,cap,D,E,F,I⟩:=cf.of_own h;refine ⟨a,cap,D,E,F,fun V=>?_⟩;obtain ⟨b,off,e,O,M,J⟩:=I V;refine ⟨b,off,e,O,M,fun i j hi N=>?_⟩;have:=J (i*size+j) _ (L i j hi N);rwa [<- Nat.add_assoc] at this
end
structure bw where
 kind:Int
 data:List Int
 deriving DecidableEq,Inhabited
def cm (lo hi:Nat) (w:World) (v:Value) (l:List bw):Prop :=
 ∃ f,ir 2 lo hi w v l.length f/\∀ i,i<l.length->f i 0=.int .i64 (l.getD i default).kind/\i7 .i64 (l.getD i default).kind/\aj .u8 lo hi w (f i 1) (l.getD i default).data
structure cJ where
 number:Int
 first:Int
 count:Int
 coded:List bw
 deriving DecidableEq,Inhabited
def rS (k:cJ):Prop:=i7 .i64 k.number/\i7 .i64 k.first/\i7 .i64 k.count
section
variable {lo hi lo' hi':Nat} {w w':World} {v:Value} {S:List Nat}
theorem cm.only {l:List bw} (h:cm lo hi w v l) (o:ae S w w') (E:∀ g∈S,g<lo\/hi<=g):cm lo hi w' v l:=by
 obtain ⟨f,h1,D⟩:=h;exact ⟨f,h1.only o E,fun i hi=>⟨(D i hi).1,(D i hi).2.1,(D i hi).2.2.only o E⟩⟩
theorem cm.quiet {l:List bw} (h:cm lo hi w v l) (o:ae [] w w'):cm lo hi w' v l:=h.only o Qb
theorem cm.mono {l:List bw} (h:cm lo hi w v l) (F:lo'<=lo) (E:hi<=hi'):cm lo' hi' w v l:=by
 obtain ⟨f,h1,D⟩:=h;exact ⟨f,h1.mono F E,fun i hi=>⟨(D i hi).1,(D i hi).2.1,(D i hi).2.2.mono F E⟩⟩
theorem cm.open {l:List bw} (h:cm lo hi w v l):∃ (a:Option Addr) (cap:Nat),v=.slice a l.length cap/\l.length<=cap/\cap<=maxLen /\
  ∀ i,i<l.length->∃ b off D,a=some ⟨b,off,none⟩/\lo<=b/\b<hi /\
   w.cell? ⟨b,off+i*2,none⟩=some (.int .i64 (l.getD i default).kind)/\w.cell? ⟨b,off+i*2+1,none⟩=some D/\i7 .i64 (l.getD i default).kind/\aj .u8 lo hi w D (l.getD i default).data:=by
 obtain ⟨f,h1,J⟩:=h;obtain ⟨a,cap,rfl,x,y,L⟩:=h1.open;refine ⟨a,cap,rfl,x,y,fun i hi=>?_⟩;obtain ⟨b,off,e,p,q,E⟩:=L i hi;obtain ⟨F,I,e2⟩:=J i hi;exact ⟨b,off,f i 1,e,p,q,by rw [<- F];exact E 0 Qa,E 1 Qa,I,e2⟩
end
structure j3 where
 qmin:Int
 qmax:Int
 reach:Int
 cut:Int
 gop:Int
 rate:Int
 room:Int
 fill:Int
 deriving DecidableEq
def j3.v (c:j3):Value:=.agg #[c.qmin,c.qmax,c.reach,c.cut,c.gop,c.rate,c.room,c.fill]
def fM (c:j3):Bool:=decide (0<=c.qmin/\c.qmin<=c.qmax/\c.qmax<=15/\0<=c.reach/\c.reach<=7/\0<=c.cut/\c.cut<=16320/\1<=c.gop/\c.gop<=16/\8<=c.rate/\c.rate<=c.room/\c.room<=16384/\8<=c.fill/\c.fill<=c.room)
theorem MH (c:j3) (w:World) :
  Calls prog 113 #[c.v] w fun e w'=>e=.returned (.bool (fM c))/\ae [] w w':=by
 obtain ⟨a0,a1,a2,a3,a4,a5,a6,a7⟩:=c;unfold j3.v;go_enter func113,ntmps113
 go_wp2_with (go_at_call 175;refine (Jw _ _ _ _).mono ?_;rintro e w' ⟨rfl,rfl⟩)
 all_goals
  go_ret;refine ⟨aC ?_,(AY).alloc _⟩;simp only [Jv,t8,r9] at *
  unfold fM;rw [m9];simp
  try omega
structure l4 where
 path:List (ByteArray×Int)
 code:Int
def iL:Option Int->Value
 | none=>.nilIface
 | some c=>.iface 36 (.int .i64 c)
def dS (lo hi:Nat) (w:World):List (ByteArray×Int)->Int->Value->Prop
 | [],c,v=>v=.iface 36 (.int .i64 c)
 | (s,n) :: p,c,v=>∃ b v',v=.iface 188 (.pointer (some ⟨b,0,none⟩))/\lo<=b/\b<hi/\w.heap[b]?=some (.cells #[.string s,n,v'] 191)/\dS lo hi w p c v'
def eK (lo hi:Nat) (w:World) (v:Value) (e:l4):Prop:=dS lo hi w e.path e.code v
section
variable {lo hi lo' hi':Nat} {w w':World} {S:List Nat}
theorem dS.only:∀ {p:List (ByteArray×Int)} {c:Int} {v:Value},dS lo hi w p c v->ae S w w'->(∀ g∈S,g<lo\/hi<=g)->dS lo hi w' p c v
 | [],_,_,h,_,_=>h
 | (s,n) :: p,c,v,⟨b,v',h1,h2,h3,h4,h5⟩,o,hS =>
  ⟨b,v',h1,h2,h3,(o.block b (l8.1 h4).1 (fun D=>by have:=hS b D;omega)).trans h4,dS.only h5 o hS⟩
theorem dS.mono:∀ {p:List (ByteArray×Int)} {c:Int} {v:Value},dS lo hi w p c v->lo'<=lo->hi<=hi'->dS lo' hi' w p c v
 | [],_,_,h,_,_=>h
 | (s,n) :: p,c,v,⟨b,v',h1,h2,h3,h4,h5⟩,x,y=>⟨b,v',h1,Qa,Qa,h4,dS.mono h5 x y⟩
theorem eK.only {v:Value} {e:l4} (h:eK lo hi w v e) (o:ae S w w') (D:∀ g∈S,g<lo\/hi<=g):eK lo hi w' v e:=dS.only h o D
theorem eK.quiet {v:Value} {e:l4} (h:eK lo hi w v e) (o:ae [] w w'):eK lo hi w' v e:=dS.only h o Qb
theorem eK.mono {v:Value} {e:l4} (h:eK lo hi w v e) (x:lo'<=lo) (y:hi<=hi'):eK lo' hi' w v e:=dS.mono h x y
theorem eK.code (lo hi:Nat) (w:World) (c:Int):eK lo hi w (.iface 36 (.int .i64 c)) ⟨[],c⟩:=rfl
theorem eK.held {v:Value} {e:l4} (h:eK lo hi w v e):∃ t u,v=.iface t u:=by
 obtain ⟨p,c⟩:=e;cases p with
 | nil=>exact ⟨_,_,h⟩
 | cons x p=>obtain ⟨b,v',h1,_⟩:=h;exact ⟨_,_,h1⟩
end
def C7 (s:ByteArray) (n:Int) (e:l4):l4:=⟨(s,n) :: e.path,e.code⟩
theorem tA {lo hi:Nat} {v:Value} {e:l4} (s:ByteArray) (n:Int) {w:World} (h:eK lo hi w v e) (F:hi<=w.heap.size) (E:lo<=w.heap.size) :
  Calls prog 80 #[.string s,n,v] w fun r w'=>∃ v',r=.returned v'/\eK lo w'.heap.size w' v' (C7 s n e)/\ae [] w w':=by
 obtain ⟨t,u,rfl⟩:=h.held;have D:∀ o,ae [] w (w.alloc o):=fun o=>(AY).alloc _
 have H:=lh h;clear h;go_enter func80,ntmps80;go_wp2;go_ret;refine ⟨_,rfl,⟨w.heap.size,_,rfl,E,Qb,Sd w _,?_⟩,D _⟩;exact (H.quiet (D _)).mono (Pm _) Qm
theorem Mq (s:ByteArray) (n c:Int) (w:World) :
  Calls prog 80 #[.string s,n,.iface 36 (.int .i64 c)] w fun r w'=>∃ v',r=.returned v'/\eK w.heap.size w'.heap.size w' v' ⟨[(s,n)],c⟩/\ae [] w w':=by
 go_enter func80,ntmps80;go_wp2;go_ret;refine ⟨_,rfl,⟨w.heap.size,_,rfl,Pm _,Qb,Sd w _,rfl⟩,(AY).alloc _⟩
theorem vK (c:j3) (w:World) :
  Calls prog 49 #[c.v] w fun e w'=>e=.returned (iL (if fM c then none else some 11))/\ae [] w w':=by
 have I:ae [] w (w.alloc (.cells c.v.cells 47)):=(AY).alloc _;obtain ⟨a0,a1,a2,a3,a4,a5,a6,a7⟩:=c;by_cases D:fM ⟨a0,a1,a2,a3,a4,a5,a6,a7⟩=true
 all_goals
  have E:=lh D;clear D;unfold j3.v;go_enter func49,ntmps49
  go_wp2_with (go_at_call 113;refine (MH ⟨a0,a1,a2,a3,a4,a5,a6,a7⟩ _).mono ?_;rintro e w' ⟨rfl,F⟩)
  all_goals
   go_ret;have:=E.out;refine ⟨?_,I.q F⟩
   simp_all [iL]
def s5 {α:Type} [DecidableEq α] (l m:α):Bool:=decide (l=m)
theorem Fw:∀ {l m:List Int},(∀ x∈l,i7 .u8 x)->(∀ x∈m,i7 .u8 x)->l.map (fun n=>UInt8.ofNat n.toNat)=m.map (fun n=>UInt8.ofNat n.toNat)->l=m
 | [],[],_,_,_=>rfl
 | [],_ :: _,_,_,h=>by simp at h
 | _ :: _,[],_,_,h=>by simp at h
 | x :: l,y :: m,hl,hm,h=>by
  simp only [PU,List.cons.injEq] at h;have hx:=hl x Qb;have E:=hm y Qb;unfold i7 at hx E;have e:x=y:=by
   have:=congrArg UInt8.toNat h.1;simp only [UInt8.toNat_ofNat'] at this;omega
  rw [e,Fw (fun z D=>hl z (by simp [D])) (fun z D=>hm z (by simp [D])) h.2]
theorem Oe {l m:List Int} (D:∀ x∈l,i7 .u8 x) (E:∀ x∈m,i7 .u8 x):((strOfNums l).toList == (strOfNums m).toList)=s5 l m:=by
 rw [ByteArray.toList_eq,ByteArray.toList_eq,strOfNums_data,strOfNums_data,m9];simp only [beq_iff_eq,s5,r9];exact ⟨Fw D E,fun h=>by rw [h]⟩
theorem zQ {lo hi:Nat} {v:Value} {l:List Int} {w:World} (h:aj .u8 lo hi w v l) :
  (convert 29 9 v).run prog w=.ok (.string (strOfNums l)) w:=by
 obtain ⟨a,cap,rfl,_,_,E,D⟩:=h.open;rcases Nat.eq_zero_or_pos l.length with h0 | h0
 ·have F:l=[]:=List.eq_nil_of_length_eq_zero h0
  subst F;rw [run_convert_bytes_string w _ _ _ _ _ _ underlying29 underlying5 underlying9];rcases a with _ | a
  ·simp [Conv.bytesToString];rfl
  ·rw [run_bytesToString w _ _ cap [] (by simp [loadCells,loadCellsFrom])];rfl
 ·obtain ⟨b,off,rfl,_,_⟩:=E 0 h0
  exact run_convert_bytes_arg w _ _ underlying29 underlying5 b off _ cap l rfl (D b off rfl) _ underlying9
theorem FM {lo hi lo' hi':Nat} {v u:Value} {l m:List Int} {w:World} (h:aj .u8 lo hi w v l) (g:aj .u8 lo' hi' w u m) :
  Calls prog 45 #[v,u] w fun e w'=>e=.returned (.bool (s5 l m))/\w=w':=by
 have h1:=zQ h;have F:=zQ g;have D:=Oe h.2 g.2;have E:=lh D;clear D;go_enter func45,ntmps45;go_wp2;go_ret;exact ⟨aC E,rfl⟩
theorem vL {lo hi lo' hi':Nat} {j k:Int} {v u:Value} {l m:List Int} {w:World} (h:aj .u8 lo hi w v l) (g:aj .u8 lo' hi' w u m) :
  Calls prog 11 #[.agg #[j,v],.agg #[k,u]] w fun e w'=>e=.returned (.bool (s5 (bw.mk j l) (bw.mk k m)))/\ae [] w w':=by
 have D:ae [] w ((w.alloc (.cells #[j,v] 31)).alloc (.cells #[k,u] 31)):=((AY).alloc _).alloc _;by_cases E:j=k
 ·subst E
  have N:v.cells=#[v]:=by obtain ⟨a,cap,rfl,_⟩:=h.open;rfl
  obtain ⟨a,cap,rfl,_⟩:=h.open;obtain ⟨I,F,rfl,_⟩:=g.open;have L:=h.quiet D;have J:=g.quiet D;go_enter func11,ntmps11
  go_wp2_with (go_at_call 45;refine (FM L J).mono ?_;rintro e w' ⟨rfl,rfl⟩)
  go_ret;exact ⟨aC (by simp [s5]),D⟩
 ·obtain ⟨a,cap,rfl,_⟩:=h.open
  obtain ⟨I,F,rfl,_⟩:=g.open;have M:(j == k)=false:=by simpa using E
  go_enter func11,ntmps11;go_wp2;go_ret;exact ⟨aC (by simp [s5,E]),D⟩
theorem FR {lo hi:Nat} {v:Value} {l:List Int} {w:World} (h:aj .u8 lo hi w v l) (F:l.length<=140737488355328) :
  Calls prog 111 #[v] w fun e w'=>∃ v',e=.returned v'/\f9 .u8 5 w.heap.size w' v' l/\ae [] w w':=by
 go_enter func111,ntmps111
 go_wp2_with (at_builtin;refine au rfl (.tmp 3) (.tmp 4) _ rfl E8 (nO (l:=[]) rfl Qb Qb 0 rfl) rfl (h.quiet ((AY).alloc _)) rfl ?c1 ?c2 (fun I w1 D E=>?_))
 case c1=>simpa using F
 case c2=>simp
 go_ret;exact ⟨I,rfl,by simpa using D,((AY).alloc _).acc E (bj.lit (Pm _))⟩
theorem sX {α:Type} (l:List α) (d:α) {i:Nat} (h:i<l.length):l[i]?=some (l.getD i d):=by simp [h]
theorem lK {α:Type} {l m:List α} (d:α) {k:Nat} (h:l.take k=m.take k) (D:k<l.length) (E:k<m.length) (e:l.getD k d=m.getD k d):l.take (k+1)=m.take (k+1):=by
 rw [List.take_add_one,List.take_add_one,h,sX l d D,sX m d E,e]
theorem Nn {p:Prop} (h:p:=by
 obtain rfl:k=l.length:=Qa;go_wp2;go_ret;refine ⟨aC ?_,hq⟩;have:=Ht.out;rw [List.take_length,<- XM.out,List.take_length] at this;simp [s5,this]):p:=h
theorem tC {lo hi lo' hi':Nat} {v u:Value} {l m:List Int} {w:World} (h:aj .i64 lo hi w v l) (g:aj .i64 lo' hi' w u m) :
  Calls prog 46 #[v,u] w fun e w'=>e=.returned (.bool (s5 l m))/\ae [] w w':=by
 have Th:=h.1.len_le;unfold maxLen at Th;obtain ⟨a,cap,rfl,_,_,RO,Z⟩:=h.open;obtain ⟨a',VW,rfl,_,_,L,J⟩:=g.open;by_cases V:l.length=m.length
 ·have N:m.length=l.length:=V.symm
  have XM:=lh N;clear N;have hb:(((l.length:Nat):Int) != ((m.length:Nat):Int))=false:=by simp [V]
  go_enter func46,ntmps46;clear V;go_wp2;clear hb;go_loopw [5] (fun i wr=>∃ k:Nat,k<=l.length/\i=.int .i64 k/\l.take k=m.take k/\ae [] w wr) (fun i _=>l.length-(intOf i).toNat)
  case atStart=>exact ⟨0,Qa,rfl,Qb,AY⟩
  case round =>
   obtain ⟨k,hk,rfl,I,hq⟩:=hrel;have Ht:=lh I;clear I;by_cases O:k<l.length
   ·obtain ⟨b,off,rfl,_,_⟩:=RO k O
    have D:k<m.length:=bC XM O
    obtain ⟨b',Um,rfl,_,_⟩:=L k D;have c1:=hq.cell (Z b off rfl k O) Qb;have c2:=hq.cell (J b' Um rfl k D) Qb;clear RO L Z J h g;have hx:(0:Int)<=(k:Int):=Qa;have RZ:(k:Int)<(l.length:Int):=Qa;have hx2:(k:Int)<(m.length:Int):=Qa;generalize he:l.getD k 0=x at *
    generalize M:m.getD k 0=y at *
    have Y:=lh he;have F:=lh M;clear he M;by_cases E:x=y
    ·subst E
     go_wp2
     go_quiet (fail)
     go_wp2;go_roundw
     case rel=>exact ⟨k+1,Qa,Qh,lK 0 Ht.out O D (by rw [Y.out,F.out]),hq.drewN _⟩
     case measure=>simp [intOf];omega
    ·have hbe:(x != y)=true:=by simpa using E
     go_wp2
     go_quiet (fail)
     go_wp2;go_ret;refine ⟨aC ?_,hq.drewN _⟩;have:l≠m:=by rintro rfl;exact E (Y.symm.trans F)
     simp [s5,this]
   ·exact Nn
 ·have hb:(((l.length:Nat):Int) != ((m.length:Nat):Int))=true:=Qm
  go_enter func46,ntmps46;go_wp2;go_ret;exact ⟨aC (by have:l≠m:=fun e=>V (by rw [e]);simp [s5,this]),AY⟩
theorem Cn {lo hi lo' hi':Nat} {v u:Value} {l m:List bw} {w:World} (h:cm lo hi w v l) (g:cm lo' hi' w u m) :
  Calls prog 23 #[v,u] w fun e w'=>e=.returned (.bool (s5 l m))/\ae [] w w':=by
 obtain ⟨a,cap,hv,Sv,RN,Wz⟩:=h.open;obtain ⟨a',VW,hu,Juj,JuR,M⟩:=g.open;have Th:l.length<=9223372036854775807:=by unfold maxLen at RN;omega
 have Hh:=lh Wz;have Hg:=lh M;subst hv;subst hu;clear h g RN JuR Sv Juj Wz M;by_cases QJ:l.length=m.length
 ·have hlm:m.length=l.length:=QJ.symm
  have XM:=lh hlm;clear hlm;have hb:(((l.length:Nat):Int) != ((m.length:Nat):Int))=false:=by simp [QJ]
  go_enter func23,ntmps23;clear QJ;go_wp2;clear hb;go_loopw [5] (fun i wr=>∃ k:Nat,k<=l.length/\i=.int .i64 k/\l.take k=m.take k/\ae [] w wr) (fun i _=>l.length-(intOf i).toNat)
  case atStart=>exact ⟨0,Qa,rfl,Qb,AY⟩
  case round =>
   obtain ⟨k,hk,rfl,L,hq⟩:=hrel;have Ht:=lh L;clear L;by_cases QH:k<l.length
   ·have J:k<m.length:=bC XM QH
    obtain ⟨b,off,dv,rfl,_,_,Sq,SE,_,hd⟩:=Hh.out k QH;obtain ⟨b',Um,V,rfl,_,_,N,O,_,Y⟩:=Hg.out k J;have c1:=hq.cell Sq Qb;have c2:=hq.cell SE Qb;have c3:=hq.cell N Qb;have c4:=hq.cell O Qb;have d1:=hd.quiet hq;have d2:=Y.quiet hq;clear Sq SE N O hd Y;have hx:(0:Int)<=(k:Int):=Qa;have RZ:(k:Int)<(l.length:Int):=Qa;have hx2:(k:Int)<(m.length:Int):=Qa;generalize he:l.getD k default=x at *
    generalize Z:m.getD k default=y at *
    have He:=lh he;have I:=lh Z;clear he Z;obtain ⟨xk,xd⟩:=x;obtain ⟨yk,yd⟩:=y;simp only at c1 c3 d1 d2;by_cases D:(bw.mk xk xd)=(bw.mk yk yd)
    ·have hv:s5 (bw.mk xk xd) (bw.mk yk yd)=true:=by simp [s5,D]
     have F:=lh D;clear D;go_wp2
     go_region_held3 (fun w'=>w'.cell? ⟨b,off+k*2,none⟩=some (.int .i64 xk)/\w'.cell? ⟨b,off+k*2+1,none⟩=some dv/\w'.cell? ⟨b',Um+k*2,none⟩=some (.int .i64 yk)/\w'.cell? ⟨b',Um+k*2+1,none⟩=some V)
      (first | go_keep | (go_split_ands;refine ⟨E.cell Qq Qb,E.cell Qq Qb,E.cell Qq Qb,E.cell Qq Qb⟩) | fail)
      (first | (go_at_call 11;(refine (vL (w:=wr.drew) d1 d2).mono ?_);rintro e w1 ⟨rfl,E⟩) | fail)
     go_wp2;go_roundw
     case rel=>first | exact ⟨k+1,Qa,Qh,lK default Ht.out QH J (by rw [He.out,I.out,F.out]),hq.drew.trans E Qb Qb⟩ | ((repeat apply Exists.intro);exact ⟨⟨k+1,Qa,Qh,lK default Ht.out QH J (by rw [He.out,I.out,F.out]),hq.drew.trans E Qb Qb⟩,rfl⟩)
     case measure=>simp [intOf];omega
    ·have hv:s5 (bw.mk xk xd) (bw.mk yk yd)=false:=by simp [s5,D]
     have F:=lh D;clear D;go_wp2
     go_region_held3 (fun w'=>w'.cell? ⟨b,off+k*2,none⟩=some (.int .i64 xk)/\w'.cell? ⟨b,off+k*2+1,none⟩=some dv/\w'.cell? ⟨b',Um+k*2,none⟩=some (.int .i64 yk)/\w'.cell? ⟨b',Um+k*2+1,none⟩=some V)
      (first | go_keep | (go_split_ands;refine ⟨E.cell Qq Qb,E.cell Qq Qb,E.cell Qq Qb,E.cell Qq Qb⟩) | fail)
      (first | (go_at_call 11;(refine (vL (w:=wr.drew) d1 d2).mono ?_);rintro e w1 ⟨rfl,E⟩) | fail)
     go_wp2;go_ret;refine ⟨aC ?_,hq.drew.trans E Qb Qb⟩;have:l≠m:=by rintro rfl;exact F.out (He.symm.trans I)
     simp [s5,this]
   ·exact Nn
 ·have hb:(((l.length:Nat):Int) != ((m.length:Nat):Int))=true:=Qm
  go_enter func23,ntmps23;go_wp2;go_ret;exact ⟨aC (by have:l≠m:=fun e=>QJ (by rw [e]);simp [s5,this]),AY⟩
end Go.Proofs.YthcafdfdglfabaaGreatDoor
