/- Joined texts: SplG, GUn. Conditions: each part names its own. -/
import Derived.Test.YtkigikallkpbcaaGreatDoorG1
import Derived.Test.YtkigikallkpbcaaGreatDoorC4
import Derived.Test.YtkigikallkpbcaaGreatDoorGV
import Derived.Test.YtkigikallkpbcaaGreatDoorG0
namespace Go.Proofs.YtkigikallkpbcaaGreatDoor
open Go.RowKit
set_option linter.unusedVariables false
set_option linter.unusedSimpArgs false
set_option maxRecDepth 100000
set_option maxHeartbeats 16000000
abbrev zErr:Obj:=.cells #[.int .i64 0,.slice none 0 0] 38
abbrev zUnit:Obj:=.cells #[.int .i64 0,.slice none 0 0,.int .i64 0,.int .i64 0] 105
abbrev zCoded:Obj:=.cells #[.int .i64 0,.slice none 0 0] 69
/-! ### the units from a place on -/
/-- the units of l from p on are U, and the error behind them is E -/
inductive SplAt (l:List Int) (E:Option Err):Nat→List UnitD→Prop
 | done:E=none→SplAt l E l.length []
 | bad {p:Nat} {er:Err}:p<l.length→nextD (l.drop p) p=.error er→E=some er→SplAt l E p []
 | more {p:Nat} {u:UnitD} {us:List UnitD}:p<l.length→nextD (l.drop p) p=.ok u→SplAt l E u.end_ us→SplAt l E p (u :: us)
theorem SplAt.peek_cons {l:List Int} {E:Option Err} {p:Nat} {u:UnitD} {us:List UnitD} (h:SplAt l E p (u :: us)):p<l.length∧peekR l p=.ok u∧SplAt l E u.end_ us:=by
 cases h with
 | more h1 h2 h3=>exact ⟨h1,by unfold peekR;rw [if_neg (by omega)];exact h2,h3⟩
theorem SplAt.peek_nil {l:List Int} {E:Option Err} {p:Nat} (h:SplAt l E p []):(p=l.length∧E=none∧peekR l p=.error ⟨[],1⟩)∨(p<l.length∧∃ er,E=some er∧peekR l p=.error er):=by
 cases h with
 | done h=>exact .inl ⟨rfl,h,if_pos rfl⟩
 | bad h1 h2 h3=>exact .inr ⟨h1,_,h3,by unfold peekR;rw [if_neg (by omega)];exact h2⟩
theorem knextD_err {d:List Int} {p:Nat} {er:Err} (h:nextD d p=.error er):er.code≠0∧er.path.length=1:=by
 unfold nextD at h
 split at h
 ·cases h
 split at h
 ·cases h;exact ⟨by simp,rfl⟩
 split at h
 ·cases h;exact ⟨by simp,rfl⟩
 split at h
 ·cases h;exact ⟨by simp,rfl⟩
 split at h
 ·cases h;exact ⟨by simp,rfl⟩
 ·cases h
theorem kpeekR_err {l:List Int} {p:Nat} {er:Err} (h:peekR l p=.error er):er.code≠0∧er.path.length≤1:=by
 unfold peekR at h
 split at h
 ·cases h;exact ⟨by simp,by simp⟩
 ·have:=knextD_err h;exact ⟨this.1,by omega⟩
/-! ### units in memory -/
/-- a slice of units -/
def UnitsAt (lo hi:Nat) (w:World) (v:Value) (U:List UnitD):Prop :=
 ∃ f,Rows 4 lo hi w v U.length f∧∀ i u,U[i]?=some u→f i 0=.int .i64 u.kind∧f i 2=.int .i64 u.at_∧f i 3=.int .i64 u.end_∧Ints .u8 lo hi w (f i 1) u.data
section
variable {lo hi lo' hi':Nat} {w w':World} {v:Value} {U:List UnitD} {S:List Nat}
theorem UnitsAt.only (h:UnitsAt lo hi w v U) (o:Only S w w') (hS:∀ g∈S,g<lo∨hi≤g):UnitsAt lo hi w' v U:=by
 obtain ⟨f,h1,h2⟩:=h
 exact ⟨f,h1.only o hS,fun i u hu=>by obtain ⟨a,b,c,d⟩:=h2 i u hu;exact ⟨a,b,c,d.only o hS⟩⟩
theorem UnitsAt.quiet (h:UnitsAt lo hi w v U) (o:Only [] w w'):UnitsAt lo hi w' v U:=h.only o (by simp)
theorem UnitsAt.mono (h:UnitsAt lo hi w v U) (hl:lo'≤lo) (hh:hi≤hi'):UnitsAt lo' hi' w v U:=by
 obtain ⟨f,h1,h2⟩:=h
 exact ⟨f,h1.mono hl hh,fun i u hu=>by obtain ⟨a,b,c,d⟩:=h2 i u hu;exact ⟨a,b,c,d.mono hl hh⟩⟩
theorem UnitsAt.open (h:UnitsAt lo hi w v U):∃ (a:Option Addr) (cap:Nat),v=.slice a U.length cap∧U.length≤cap∧cap≤maxLen ∧
  ∀ i u,U[i]?=some u→∃ b off dv,a=some ⟨b,off,none⟩∧lo≤b∧b<hi∧w.cell? ⟨b,off+i*4,none⟩=some (.int .i64 u.kind)∧w.cell? ⟨b,off+i*4+1,none⟩=some dv ∧
   w.cell? ⟨b,off+i*4+2,none⟩=some (.int .i64 u.at_)∧w.cell? ⟨b,off+i*4+3,none⟩=some (.int .i64 u.end_)∧Ints .u8 lo hi w dv u.data:=by
 obtain ⟨f,h1,h2⟩:=h
 obtain ⟨a,cap,rfl,x,y,hc⟩:=h1.open
 refine ⟨a,cap,rfl,x,y,fun i u hu=>?_⟩
 have hi':i<U.length:=(List.getElem?_eq_some_iff.1 hu).1
 obtain ⟨b,off,e,p,q,hj⟩:=hc i hi'
 obtain ⟨e0,e2,e3,e1⟩:=h2 i u hu
 exact ⟨b,off,f i 1,e,p,q,by rw [← e0];exact hj 0 (by omega),hj 1 (by omega),by rw [← e2];exact hj 2 (by omega),by rw [← e3];exact hj 3 (by omega),e1⟩
end
/-- an own row of units; their data lie from base on, elsewhere -/
def OwnU (base:Nat) (w:World) (v:Value) (U:List UnitD):Prop :=
 ∃ xs,w.ownsRow base 105 4 v U.length xs∧∀ i u,U[i]?=some u→xs[i*4]?=some (.int .i64 u.kind)∧xs[i*4+2]?=some (.int .i64 u.at_)∧xs[i*4+3]?=some (.int .i64 u.end_) ∧
  ∃ dv b,xs[i*4+1]?=some dv∧Ints .u8 b (b+1) w dv u.data∧(u.data≠[]→base≤b∧b<w.heap.size∧v.ownBlock≠some b)
section
variable {base:Nat} {w w':World} {v v':Value} {U:List UnitD}
theorem OwnU.nil (base:Nat) (w:World):OwnU base w (.slice none 0 0) []:=⟨[],World.ownsRow_nil _ _ _ _,by simp⟩
theorem OwnU.at (h:OwnU base w v U):∀ g,v.ownBlock=some g→base≤g∧g<w.heap.size:=by obtain ⟨xs,h1,_⟩:=h;exact h1.lt
theorem OwnU.quiet (h:OwnU base w v U) (o:Only [] w w'):OwnU base w' v U:=by
 obtain ⟨xs,h1,h2⟩:=h
 refine ⟨xs,owns_only h1 o (by simp),fun i u hu=>?_⟩
 obtain ⟨a,b,c,dv,g,d1,d2,d3⟩:=h2 i u hu
 exact ⟨a,b,c,dv,g,d1,d2.quiet o,fun hne=>by have:=d3 hne;exact ⟨this.1,Nat.lt_of_lt_of_le this.2.1 o.size,this.2.2⟩⟩
theorem OwnU.isSlice (h:OwnU base w v U):∃ a cap,v=.slice a U.length cap:=by
 obtain ⟨xs,h1,_⟩:=h
 obtain ⟨_,a,cap,rfl,_⟩:=Cells.of_own h1
 exact ⟨a,cap,rfl⟩
theorem OwnU.units (h:OwnU base w v U):UnitsAt base w.heap.size w v U:=by
 obtain ⟨xs,h1,h2⟩:=h
 have hl:=h1.1
 refine ⟨fun i j=>xs.getD (i*4+j) undef,Rows.of_own h1 (fun i j hi hj=>?_),fun i u hu=>?_⟩
 ·have:i*4+j<xs.length:=by omega
  simp [this]
 ·obtain ⟨a,b,c,dv,g,d1,d2,d3⟩:=h2 i u hu
  refine ⟨?_,?_,?_,?_⟩
  ·show xs.getD (i*4+0) undef=_
   rw [Nat.add_zero,List.getD_eq_getElem?_getD,a];rfl
  ·show xs.getD (i*4+2) undef=_
   rw [List.getD_eq_getElem?_getD,b];rfl
  ·show xs.getD (i*4+3) undef=_
   rw [List.getD_eq_getElem?_getD,c];rfl
  ·show Ints .u8 base w.heap.size w (xs.getD (i*4+1) undef) _
   rw [List.getD_eq_getElem?_getD,d1]
   by_cases hd:u.data=[]
   ·rw [hd] at d2 ⊢;exact d2.empty
   ·have:=d3 hd
    exact d2.mono (by omega) (by omega)
/-- one more unit -/
theorem OwnU.snoc {xs:List Value} {k:Int} {dv:Value} {data:List Int} {a e lo:Nat} (h1:w.ownsRow base 105 4 v U.length xs)
  (h2:∀ i u,U[i]?=some u→xs[i*4]?=some (.int .i64 u.kind)∧xs[i*4+2]?=some (.int .i64 u.at_)∧xs[i*4+3]?=some (.int .i64 u.end_) ∧
   ∃ dv b,xs[i*4+1]?=some dv∧Ints .u8 b (b+1) w dv u.data∧(u.data≠[]→base≤b∧b<w.heap.size∧v.ownBlock≠some b))
  (hd:Ints .u8 lo w.heap.size w dv data) (hb:base≤lo) (hv:∀ g,v.ownBlock=some g→g<lo)
  (hown:w'.ownsRow base 105 4 v' (U.length+1) (xs ++ [.int .i64 k,dv,.int .i64 a,.int .i64 e])) (x:Acc v w v' w'):OwnU base w' v' (U ++ [⟨k,data,a,e⟩]):=by
 have hl:=h1.1
 have hv':∀ b,b<w.heap.size→v.ownBlock≠some b→v'.ownBlock≠some b:=by
  intro b hb hn e
  rcases x.at_ with h | h
  ·exact hn (h ▸ e)
  ·have:=h b e;omega
 have hkeep:∀ (dv:Value) (b:Nat) (l:List Int),Ints .u8 b (b+1) w dv l→(l≠[]→base≤b∧b<w.heap.size∧v.ownBlock≠some b)→Ints .u8 b (b+1) w' dv l∧(l≠[]→base≤b∧b<w'.heap.size∧v'.ownBlock≠some b):=by
  intro dv b l hI hB
  refine ⟨?_,fun hne=>?_⟩
  ·by_cases hd:l=[]
   ·rw [hd] at hI ⊢;exact hI.empty
   ·refine hI.only x.only (fun g hg=>?_)
    have:g≠b:=by rintro rfl;exact (hB hd).2.2 (by simpa using hg)
    omega
  ·obtain ⟨p,q,r⟩:=hB hne
   exact ⟨p,Nat.lt_of_lt_of_le q x.only.size,hv' b q r⟩
 refine ⟨_,by rw [List.length_append];exact hown,fun i u hu=>?_⟩
 by_cases hi:i<U.length
 ·rw [List.getElem?_append_left hi] at hu
  obtain ⟨e0,e2,e3,d,b,e1,hI,hB⟩:=h2 i u hu
  obtain ⟨hI',hB'⟩:=hkeep d b u.data hI hB
  exact ⟨by rw [List.getElem?_append_left (by omega)];exact e0,by rw [List.getElem?_append_left (by omega)];exact e2,by rw [List.getElem?_append_left (by omega)];exact e3,d,b,by rw [List.getElem?_append_left (by omega)];exact e1,hI',hB'⟩
 ·have hlt:=(List.getElem?_eq_some_iff.1 hu).1
  simp only [List.length_append,List.length_singleton] at hlt
  obtain rfl:i=U.length:=by omega
  rw [List.getElem?_append_right (Nat.le_refl _),Nat.sub_self] at hu
  injection hu with hu
  subst hu
  obtain ⟨b,hI,hB⟩:=hd.tight
  obtain ⟨hI',hB'⟩:=hkeep dv b data hI (fun hne=>⟨by have:=hB hne;omega,(hB hne).2,fun e=>by have:=hv b e;have:=hB hne;omega⟩)
  refine ⟨?_,?_,?_,dv,b,?_,hI',hB'⟩
  ·rw [List.getElem?_append_right (by omega),show U.length*4-xs.length=0 by omega];rfl
  ·rw [List.getElem?_append_right (by omega),show U.length*4+2-xs.length=2 by omega];rfl
  ·rw [List.getElem?_append_right (by omega),show U.length*4+3-xs.length=3 by omega];rfl
  ·rw [List.getElem?_append_right (by omega),show U.length*4+1-xs.length=1 by omega];rfl
end
theorem EU:Elem Tryz.prog 101 105 (.agg #[.int .i64 0,.slice none 0 0,.int .i64 0,.int .i64 0]) 4 48:=Elem.mk' Tryz.underlying101 (by kernel_rfl) rfl (by omega) (by omega)
/-- a result of two cells, written -/
theorem set2r {w wf:World} {B:Nat} {y0 y1 b0 b1:Value} {s:TypeId} (hB:w.heap[B]?=some (.cells #[b0,b1] s (0,0))) (hw:((w.setCell ⟨B,0,none⟩ y0).setCell ⟨B,1,none⟩ y1)=wf) :
  wf.cell? ⟨B,0,none⟩=some y0∧wf.cell? ⟨B,1,none⟩=some y1∧Only [B] w wf∧wf.heap[B]?=some (.cells #[y0,y1] s (0,0)):=by
 have o2:Only [B] w wf:=by rw [← hw];exact ((Only.refl _ _).setCell (by simp) _).setCell (by simp) _
 have r2:wf.heap[B]?=some (.cells #[y0,y1] s (0,0)):=by
  rw [← hw];exact heap_setCell_same _ B 1 _ _ y1 (heap_setCell_same _ B 0 _ _ y0 hB)
 obtain ⟨k0,k1,_⟩:=row2 r2
 exact ⟨k0,k1,o2,r2⟩
theorem set22r {w wf:World} {A B:Nat} {x0 x1 y0 y1 a0 a1 b0 b1:Value} {t s:TypeId} (hA:w.heap[A]?=some (.cells #[a0,a1] t (0,0))) (hB:w.heap[B]?=some (.cells #[b0,b1] s (0,0))) (hAB:A≠B)
  (hw:((((w.setCell ⟨A,0,none⟩ x0).setCell ⟨A,1,none⟩ x1).setCell ⟨B,0,none⟩ y0).setCell ⟨B,1,none⟩ y1)=wf) :
  (wf.cell? ⟨A,0,none⟩=some x0∧wf.cell? ⟨A,1,none⟩=some x1)∧(wf.cell? ⟨B,0,none⟩=some y0∧wf.cell? ⟨B,1,none⟩=some y1)∧Only [A,B] w wf:=by
 obtain ⟨_,_,o1,r1⟩:=set2r hA rfl
 have rB:=o1.rowAt hB (by simpa using fun h=>hAB h.symm)
 obtain ⟨k0,k1,o2,r2⟩:=set2r rB hw
 have r1':=o2.rowAt r1 (by simpa using hAB)
 obtain ⟨j0,j1,_⟩:=row2 r1'
 exact ⟨⟨j0,j1⟩,⟨k0,k1⟩,o1.trans o2 (by simp) (by simp)⟩
theorem Only.tail1 {S:List Nat} {A:Nat} {w a b:World} (h:Only S w a) (o:Only [A] a b) (hA:w.heap.size≤A):Only S w b :=
 h.trans o (fun g h _=>h) (fun g hg hlt=>by rw [mSg] at hg;omega)
theorem UnitsAt.tail1 {lo hi A:Nat} {a b:World} {v:Value} {U:List UnitD} (h:UnitsAt lo hi a v U) (o:Only [A] a b) (hA:A<lo∨hi≤A):UnitsAt lo hi b v U :=
 h.only o (fun g hg=>by rw [mSg] at hg;subst hg;exact hA)
theorem Cells.tail1 {size lo hi n A:Nat} {a b:World} {v:Value} {xs:List Value} (h:Cells size lo hi a v n xs) (o:Only [A] a b) (hA:A<lo∨hi≤A):Cells size lo hi b v n xs :=
 h.only o (fun g hg=>by rw [mSg] at hg;subst hg;exact hA)
theorem Ints.tail1 {k:IntKind} {lo hi A:Nat} {a b:World} {v:Value} {l:List Int} (h:Ints k lo hi a v l) (o:Only [A] a b) (hA:A<lo∨hi≤A):Ints k lo hi b v l :=
 h.only o (fun g hg=>by rw [mSg] at hg;subst hg;exact hA)
/-! ### the document's error as an option -/
def codeE:Option Err→Int
 | none=>0
 | some er=>er.code
def pathE:Option Err→List (ByteArray×Int)
 | none=>[]
 | some er=>er.path
theorem getD_append_right' {l m:List Int} {i:Nat} (j:Nat) (h:i=l.length+j):(l ++ m).getD i 0=m.getD j 0:=by
 subst h
 simp [List.getD_eq_getElem?_getD,List.getElem?_append_right (Nat.le_add_right _ _)]
theorem unitHead_in {k:Int} {data:List Int} (hk:1≤k∧k≤255) (hl:data.length≤65536) (hin:∀ x∈data,InK .u8 x):∀ x∈unitHead k data,InK .u8 x:=by
 intro x hx
 simp only [unitHead,List.cons_append,List.nil_append,List.mem_cons] at hx
 rcases hx with rfl | rfl | rfl | rfl | hx
 ·exact ⟨by omega,by omega⟩
 ·exact ⟨by omega,by omega⟩
 ·exact ⟨by omega,by omega⟩
 ·exact ⟨by omega,by omega⟩
 ·exact hin x hx
theorem nextD_unit {k:Int} {data B:List Int} (p:Nat) (hk:1≤k∧k≤255) (hl:data.length≤65536) (hin:∀ x∈data,InK .u8 x):nextD (unitB k data ++ B) p=.ok ⟨k,data,p,p+(8+data.length)⟩:=by
 have hc:=crc_lt _ (unitHead_in hk hl hin)
 have hul:(unitHead k data).length=4+data.length:=by simp [unitHead];omega
 have e:unitB k data ++ B=unitHead k data ++ (be4 (crc (unitHead k data)) ++ B):=by rw [unitB,be4_eq hc,List.append_assoc]
 rw [e]
 have hlen:∀ T,lenU (unitHead k data ++ T)=data.length:=by
  intro T
  simp only [lenU,unitHead,List.cons_append,List.nil_append,List.getD_cons_succ,List.getD_cons_zero];omega
 have hsum:∀ (c:Nat),c<4294967296→sumU (unitHead k data ++ (be4 c ++ B)) data.length=c:=by
  intro c hc
  unfold sumU
  rw [getD_append_right' (i:=4+data.length) 0 (by omega),getD_append_right' (i:=5+data.length) 1 (by omega),getD_append_right' (i:=6+data.length) 2 (by omega),getD_append_right' (i:=7+data.length) 3 (by omega)]
  simp only [be4,List.cons_append,List.nil_append,List.getD_cons_succ,List.getD_cons_zero]
  omega
 have hL:∀ c,(unitHead k data ++ (be4 c ++ B)).length=8+data.length+B.length:=by intro c;simp [be4,hul];omega
 have h0:∀ T,(unitHead k data ++ T).getD 0 0=k:=fun T=>rfl
 have htk:∀ T,(unitHead k data ++ T).take (4+data.length)=unitHead k data:=fun T=>by rw [← hul,List.take_left]
 have hdt:∀ T,(((unitHead k data ++ T).drop 4).take data.length)=data:=fun T=>by
  have:(unitHead k data ++ T).drop 4=data ++ T:=by simp [unitHead]
  rw [this,List.take_left]
 unfold nextD
 rw [h0,if_neg (by omega),if_neg (by rw [hL];omega),hlen,if_neg (by omega),if_neg (by rw [hL];omega)]
 simp only [Int.toNat_natCast]
 rw [htk,hsum _ hc,if_neg (by simp),hdt]
theorem readB_none {c:Coded} (h:readB c=none):1≤c.kind∧c.kind≤4∧c.data.length≤65536:=by
 unfold readB at h
 split at h
 ·cases h
 rename_i hk
 have hk':kindB c.kind=true:=by simpa using hk
 simp only [kindB,decide_eq_true_eq] at hk'
 split at h
 ·split at h
  ·cases h
  ·omega
 split at h
 ·cases h
 split at h
 ·cases h
 split at h
 ·cases h
 omega
end Go.Proofs.YtkigikallkpbcaaGreatDoor
