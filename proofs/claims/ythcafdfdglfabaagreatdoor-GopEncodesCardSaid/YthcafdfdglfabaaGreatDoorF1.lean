/- Joined texts: Frame, FrameC, FrAt, GOpen, GCk, GChk, EFit, GRow, ELgt, EPln, EFst, GLight. Conditions: each part names its own. -/
import Derived.Test.YthcafdfdglfabaaGreatDoorRows
import Derived.ProofKit
import Derived.OpenShut
import Derived.ShutString
import Derived.LaidLaws
import Derived.LaidHandle
import Derived.Stop.Joined
import Derived.Deep.Slices
import Derived.Test.YthcafdfdglfabaaGreatDoorWD
set_option maxRecDepth 100000
set_option maxHeartbeats 16000000
namespace Go.Proofs.YthcafdfdglfabaaGreatDoor
open Go.Proofs.Tryz
open Go.ChangeShapes Go.WideShapes Go.ChangeAt Go.RowKit
set_option linter.unusedVariables false
set_option linter.unusedSimpArgs false
theorem OY:ownKnob prog.godebug=none:=Qc
theorem tM:laidOutB prog=true:=Qc
theorem E1:prog.globalNamed "errors.errorType"=some 0:=Qc
theorem E2:(prog.cutTypes.find? (·.1 == "internal/reflectlite.rtype")).map (·.2)=some 283:=Qc
theorem MI:((List.range 347).filter fun t=>prog.rowNamed t [101,114,114,111,114])=[33]:=Qc
theorem OP:prog.types.size=347:=Qc
abbrev wq:List (String×DataW Unit):=[("errors.errorType",Rows.laid_errors_errorType)]
theorem xL {W:World} (h:laidMetH prog wq W):po W:=by
 have N:laidMet prog [] W/\handlesMet prog wq W:=h;obtain ⟨D,u,ty,I,e2,J,L,E⟩:=N.2 _ (i5.2 rfl);have M:D=[101,114,114,111,114]:=(Option.some.inj I).symm;subst M;obtain rfl:=Option.some.inj (E2.symm.trans e2);have F:ty∈(List.range 347).filter fun t=>prog.rowNamed t [101,114,114,111,114]:=List.mem_filter.2 ⟨List.mem_range.2 (ea OP J),L⟩
 rw [MI] at F;obtain rfl:=i5.1 F;have O:typeHandle prog 33=.pointer (some ⟨1,33,none⟩):=Qc;rw [O] at E;simpa [po,rT] using World.var?_cell E1 E 0
noncomputable def laidWorld (os:Os):World :=
 let w0:=World.holding prog os ⟨#[],#[],[]⟩
 { w0 with heap:=w0.heap.modify 0 fun
   | .cells _ t frozen=>.cells #[.iface 283 (.agg #[.pointer (some ⟨1,33,none⟩)])] t frozen
   | o=>o }
theorem vg (os:Os) (args:Array Value):laidMetH prog wq ((laidWorld os).forCall (fun _ _=>0) ⟨#[],args,[]⟩).memory :=
 laidMetH_of_parts (laidMet_nil _ _) Qc
section
variable {H:Type} {enc:TypeId×Value->H}
end
open Go.Deep
set_option linter.unusedVariables false
set_option linter.unusedSimpArgs false
theorem vI:prog.cellsOf 3=1:=Qc
theorem xG:prog.cellsOf 47=8:=Qc
theorem tx {n:Int} (h:(Lit.int .i64 n).wf=true):i7 .i64 n:=by
 have:=bounds_i64 h;exact ⟨Qa,Qa⟩
section
variable {H:Type} {enc:TypeId×Value->H}
theorem fy {W:World} {E:Nat->Bool} {F:Bool} {fuel:Nat} {D:List Value} {y:Option (DataW H×List MemPlace)} (h:DataW.trod enc prog W 0 E F fuel 3 D=y) (J:y.isSome=true):∃ n,D=[.int .i64 n]/\(Lit.int .i64 n).wf=true:=by
 cases y with
 | none=>cases J
 | some x =>
  obtain ⟨n,h1,_,I⟩:=DataW.trod_int underlying3 h;exact ⟨n,h1,I⟩
theorem iE {α:Type} {l:List α} {i n:Nat} (h:l.length=n) (hi:i<n):l[i]?.isSome=true:=by simp [h,hi]
theorem MT {W:World} {N:Nat->Bool} {O:Bool} {fuel size:Nat} {t e:TypeId} {Y:List Value} {x:DataW H×List MemPlace} (ht:prog.underlying t=some (.slice e)) (hc:prog.cellsOf e=size) (TK:0<size)
  (h:DataW.trod enc prog W 0 N O fuel t Y=some x) :
  ∃ (v:Value) (len n:Nat) (C:Nat->List Value),Y=[v]/\ir size 0 W.heap.size W v len (fun i j=>(C i).getD j undef)/\∀ i,i<len->(C i).length=size/\∃ y,DataW.trod enc prog W 0 N O n e (C i)=some y:=by
 rcases open_slice ht h with ⟨rfl,_⟩ | ⟨a,len,cap,m,n,D,Pl,rfl,_,hl,hm,hmm,_,hi⟩
 ·exact ⟨_,0,0,fun _=>[],rfl,ir.nil _ _ _ _ _,fun i hi=>absurd hi Qa⟩
 ·have hlm:len<=m:=by rw [hmm];split <;> omega
  rw [hc] at hi;have Yq:∀ i,∃ c:List Value,i<len->W.cells? 0 (a.add (i*size)) size=some c/\∃ y,DataW.trod enc prog W 0 N O n e c=some y:=by
   intro i;by_cases Z:i<len
   ·obtain ⟨c,h1,h2⟩:=hi i Qa
    exact ⟨c,fun _=>⟨h1,_,h2⟩⟩
   ·exact ⟨[],fun h=>absurd h Z⟩
  obtain ⟨C,F⟩:=Classical.axiomOfChoice Yq;refine ⟨_,len,n,C,rfl,⟨some a,cap,rfl,hl,hm,fun hp=>?_⟩,fun i hi=>?_⟩
  ·obtain ⟨_,Xk,I⟩:=World.cells?_some (F 0 hp).1
   have E:=I 0 TK;have hv:(C 0)[0]?=some ((C 0)[0]'Qa):=Pe Qa;rw [hv] at E;obtain ⟨b,off,M⟩:=a;have L:M=none:=by simpa [Addr.add] using World.cell?_spot E
   subst L;refine ⟨b,off,rfl,PX _,s4 (by simpa [Addr.add] using E),fun i j hi hj=>?_⟩;obtain ⟨_,hli,J⟩:=World.cells?_some (F i hi).1;have:=J j hj;have V:(C i)[j]?=some ((C i).getD j undef):=by simp [show j<(C i).length by omega]
   rw [V] at this;simpa [Addr.add_lit,Nat.add_assoc] using this
  ·exact ⟨(World.cells?_some (F i hi).1).2.1,(F i hi).2⟩
theorem MD {α:Type} [Inhabited α] {P:Nat->α->Prop} (n:Nat) (h:∀ i,i<n->∃ c,P i c):∃ l:List α,l.length=n/\∀ i,i<n->P i (l.getD i default):=by
 have E:∀ i,∃ c:α,i<n->P i c:=by
  intro i;by_cases D:i<n
  ·obtain ⟨c,F⟩:=h i D
   exact ⟨c,fun _=>F⟩
  ·exact ⟨default,fun h=>absurd h D⟩
 obtain ⟨f,I⟩:=Classical.axiomOfChoice E;refine ⟨(List.range n).map f,Qb,fun i hi=>?_⟩;have:((List.range n).map f).getD i default=f i:=by simp [hi]
 rw [this];exact I i hi
theorem FQ {W:World} {base:Nat} {r:Reach} {F:Nat->Bool} {I:Bool} {v:Value} {d:DataW H} {p:List MemPlace} (hv:Value.okWide prog W r base 47 v) (h:DataW.Trod enc prog W 0 F I 47 v d p):∃ c:j3,v=c.v:=by
 obtain ⟨J,rfl,Zg⟩:=okWide_struct underlying47 hv;obtain ⟨fuel,E⟩:=h;obtain ⟨xs,m,_,_,M,D,E⟩:=DataW.trod_struct underlying47 E;have h0:DataW.trod enc prog W 0 F I m 3 (((Value.agg J).cells.toList.drop 0).take (prog.cellsOf 3))=xs[0]?:=E 0 _ rfl;have h1:DataW.trod enc prog W 0 F I m 3 (((Value.agg J).cells.toList.drop 1).take (prog.cellsOf 3))=xs[1]?:=E 1 _ rfl;have h2:DataW.trod enc prog W 0 F I m 3 (((Value.agg J).cells.toList.drop 2).take (prog.cellsOf 3))=xs[2]?:=E 2 _ rfl;have h3:DataW.trod enc prog W 0 F I m 3 (((Value.agg J).cells.toList.drop 3).take (prog.cellsOf 3))=xs[3]?:=E 3 _ rfl;have h4:DataW.trod enc prog W 0 F I m 3 (((Value.agg J).cells.toList.drop 4).take (prog.cellsOf 3))=xs[4]?:=E 4 _ rfl;have h5:DataW.trod enc prog W 0 F I m 3 (((Value.agg J).cells.toList.drop 5).take (prog.cellsOf 3))=xs[5]?:=E 5 _ rfl;have h6:DataW.trod enc prog W 0 F I m 3 (((Value.agg J).cells.toList.drop 6).take (prog.cellsOf 3))=xs[6]?:=E 6 _ rfl;have h7:DataW.trod enc prog W 0 F I m 3 (((Value.agg J).cells.toList.drop 7).take (prog.cellsOf 3))=xs[7]?:=E 7 _ rfl;rw [vI] at h0 h1 h2 h3 h4 h5 h6 h7;obtain ⟨k0,O,_⟩:=fy h0 (iE D Ql);obtain ⟨k1,V,_⟩:=fy h1 (iE D Ql);obtain ⟨k2,e2,_⟩:=fy h2 (iE D Ql);obtain ⟨k3,Y,_⟩:=fy h3 (iE D Ql);obtain ⟨k4,Z,_⟩:=fy h4 (iE D Ql);obtain ⟨k5,e5,_⟩:=fy h5 (iE D Ql);obtain ⟨k6,e6,_⟩:=fy h6 (iE D Ql);obtain ⟨k7,e7,_⟩:=fy h7 (iE D Ql);rw [xG] at M;obtain ⟨N⟩:=J;have L:(Value.agg ⟨N⟩).cells.toList=N:=rfl;rw [L] at M O V e2 Y Z e5 e6 e7
 match N,M with
 | [c0,c1,c2,c3,c4,c5,c6,c7],_ =>
  simp at O V e2 Y Z e5 e6 e7;subst O;subst V;subst e2;subst Y;subst Z;subst e5;subst e6;subst e7;exact ⟨⟨k0,k1,k2,k3,k4,k5,k6,k7⟩,rfl⟩
end
set_option linter.unusedVariables false
set_option linter.unusedSimpArgs false
instance:Inhabited ah:=⟨fC⟩
def CF (A B:ah):Bool:=decide (A.W=B.W) && decide (A.H=B.H) && s5 A.pix B.pix
def aZ (lo hi:Nat) (w:World) (v:Value) (l:List ah):Prop :=
 ∃ f,ir 3 lo hi w v l.length f/\∀ i,i<l.length->f i 0=.int .i64 (l.getD i default).W/\f i 1=.int .i64 (l.getD i default).H/\aj .i64 lo hi w (f i 2) (l.getD i default).pix
theorem aZ.only {lo hi:Nat} {w w':World} {v:Value} {S:List Nat} {l:List ah} (h:aZ lo hi w v l) (o:ae S w w') (E:∀ g∈S,g<lo\/hi<=g):aZ lo hi w' v l:=by
 obtain ⟨f,h1,D⟩:=h;exact ⟨f,h1.only o E,fun i hi=>⟨(D i hi).1,(D i hi).2.1,(D i hi).2.2.only o E⟩⟩
theorem aZ.quiet {lo hi:Nat} {w w':World} {v:Value} {l:List ah} (h:aZ lo hi w v l) (o:ae [] w w'):aZ lo hi w' v l:=h.only o Qb
theorem aZ.mono {lo hi lo' hi':Nat} {w:World} {v:Value} {l:List ah} (h:aZ lo hi w v l) (F:lo'<=lo) (E:hi<=hi'):aZ lo' hi' w v l:=by
 obtain ⟨f,h1,D⟩:=h;exact ⟨f,h1.mono F E,fun i hi=>⟨(D i hi).1,(D i hi).2.1,(D i hi).2.2.mono F E⟩⟩
theorem aZ.open {lo hi:Nat} {w:World} {v:Value} {l:List ah} (h:aZ lo hi w v l):∃ (a:Option Addr) (cap:Nat),v=.slice a l.length cap/\l.length<=cap/\cap<=maxLen /\
  ∀ i,i<l.length->∃ b off E,a=some ⟨b,off,none⟩/\lo<=b/\b<hi /\
   w.cell? ⟨b,off+i*3,none⟩=some (.int .i64 (l.getD i default).W)/\w.cell? ⟨b,off+i*3+1,none⟩=some (.int .i64 (l.getD i default).H)/\w.cell? ⟨b,off+i*3+2,none⟩=some E/\aj .i64 lo hi w E (l.getD i default).pix:=by
 obtain ⟨f,h1,J⟩:=h;obtain ⟨a,cap,rfl,x,y,L⟩:=h1.open;refine ⟨a,cap,rfl,x,y,fun i hi=>?_⟩;obtain ⟨b,off,e,p,q,D⟩:=L i hi;obtain ⟨F,I,e2⟩:=J i hi;exact ⟨b,off,f i 2,e,p,q,by rw [<- F];exact D 0 Qa,by rw [<- I];exact D 1 Qa,D 2 Qa,e2⟩
section
theorem tD {lo hi lo' hi':Nat} {pv O:Value} {w:World} {A B:ah} (h:aj .i64 lo hi w pv A.pix) (g:aj .i64 lo' hi' w O B.pix) :
  Calls prog 12 #[.agg #[A.W,A.H,pv],.agg #[B.W,B.H,O]] w fun e w'=>e=.returned (.bool (CF A B))/\ae [] w w':=by
 obtain ⟨a,cap,rfl,-⟩:=h.open;obtain ⟨b,Z,rfl,-⟩:=g.open;have M:=ae.new w (sT A a cap);have E:=M.q (ae.new _ (sT B b Z));have V:=lh (tC (h.quiet E) (g.quiet E));have I:=lh E;have J:Hid (CF A B=(decide (A.W=B.W) && decide (A.H=B.H) && s5 A.pix B.pix)):=lh rfl;clear h g M E;generalize CF A B=r at *
 generalize s5 A.pix B.pix=bb at *
 generalize A.W=W1 at *
 generalize A.H=H1 at *
 generalize B.W=W2 at *
 generalize B.H=H2 at *
 by_cases D:W1=W2
 ·by_cases F:H1=H2
  ·subst D;subst F
   go_enter func12,ntmps12;go_wp2_with fail;refine V.mono ?_;rintro e w2 ⟨rfl,N⟩;have Y:=lh N;clear N;go_wp2_with fail;go_ret;exact ⟨aC (by rw [J.out];simp),I.q Y.out⟩
  ·have hb:(H1 == H2)=false:=dn A5 F
   subst D;have L:=lh F;clear F;go_enter func12,ntmps12;go_wp2_with fail;go_ret;exact ⟨aC (by rw [J.out];simp [L.out]),I.out⟩
 ·have hb:(W1 == W2)=false:=dn A5 D
  have L:=lh D;clear D;go_enter func12,ntmps12;go_wp2_with fail;go_ret;exact ⟨aC (by rw [J.out];simp [L.out]),I.out⟩
def iz (l:List ah):Int:=l.foldl (fun n c=>n+min (c.pix.length:Int) 20001) 0
def vh (l:List ah):Bool:=decide (l.length<=40) && decide (iz (l.take 40)<=20000)
theorem AG {l:List ah} {k:Nat} (h:k<l.length):iz (l.take (k+1))=iz (l.take k)+min ((l.getD k default).pix.length:Int) 20001:=by
 rw [UJ h,iz,A4];simp [iz,h]
theorem yh (l:List ah):0<=iz l/\iz l<=20001*l.length:=by
 have h:∀ (l:List ah) (n:Int),n<=l.foldl (fun n c=>n+min (c.pix.length:Int) 20001) n/\l.foldl (fun n c=>n+min (c.pix.length:Int) 20001) n<=n+20001*l.length:=by
  intro l
  induction l with
  | nil=>intro n;simp
  | cons c l ih =>
   intro n;have:=ih (n+min (c.pix.length:Int) 20001);simp only [List.foldl_cons,Pq];omega
 have:=h l 0;unfold iz;omega
theorem MK {lo hi:Nat} {v:Value} {l:List ah} {w:World} (h:aZ lo hi w v l) :
  Calls prog 14 #[v] w fun e w'=>e=.returned (.bool (vh l))/\w=w':=by
 obtain ⟨a,cap,rfl,Sv,N,O⟩:=h.open;have F:=lh O;have Th:(l.length:Int)<=9223372036854775807:=by unfold maxLen at N;omega
 clear h O N Sv;go_enter func14,ntmps14;go_wp2;go_loop [4,3] (fun i c=>∃ k:Nat,k<=l.length/\k<=40/\i=.int .i64 k/\c=.int .i64 (iz (l.take k))) (fun i _=>40-(intOf i).toNat)
 case atStart=>exact ⟨0,Qa,Qa,rfl,rfl⟩
 case round =>
  obtain ⟨k,hk,D,rfl,rfl⟩:=hrel;have E:=yh (l.take k);have Rz:iz (l.take k)<=800040:=by rw [Po] at E;omega
  by_cases M:k<l.length
  ·by_cases h40:k<40
   ·obtain ⟨b,off,dv,rfl,_,_,TM,Sq,SE,V⟩:=F.out k M
    obtain ⟨da,VX,rfl,_,I,_⟩:=V.open;have Y:=AG M;have hx:(0:Int)<=(k:Int):=Qa;have RZ:(k:Int)<(l.length:Int):=Qa;have L:(k:Int)<40:=Qa;have Z:=lh Y;have h0:=E.1;clear Y E V TM Sq;generalize l.getD k default=x at *
    generalize iz (l.take k)=s at *
    have Up:(x.pix.length:Int)<=9223372036854775807:=by unfold maxLen at I;omega
    go_wp2;go_round
    case rel=>exact ⟨k+1,Qa,Qa,Qh,by rw [Z.out];first | rfl | exact congrArg (Value.int .i64) Qa | exact congrArg (Value.int .i64) (by split <;> omega)⟩
    case measure=>simp [intOf];omega
   ·obtain rfl:k=40:=Qa
    have RZ:((40:Nat):Int)<(l.length:Int):=Qa;have L:¬ (((40:Nat):Int)<40):=Qa;by_cases JIC:l.length<=40
    ·omega
    have hr:vh l=false:=by simp [vh];omega
    go_wp2;go_ret
    first | exact ⟨rfl,rfl⟩ | exact ⟨aC (by rw [hr]),rfl⟩
  ·obtain rfl:k=l.length:=Qa
   have hx:¬ (l.length:Int)<(l.length:Int):=Qa;have hr:vh l=decide (iz l<=20000):=by
    have:l.take 40=l:=YN D;simp [vh,D,this]
   have Wh:(l.length:Int)<=40:=Qa;rw [List.take_length] at *
   have Hr:=lh hr;clear hr E;generalize iz l=s at *
   by_cases J:s<=20000
   all_goals
    go_wp2;go_ret;exact ⟨aC (by rw [Hr.out];simp [J]),rfl⟩
end
set_option linter.unusedVariables false
set_option linter.unusedSimpArgs false
theorem Ch:prog.cellsOf 22=1:=Qc
theorem yU:prog.cellsOf 24=3:=Qc
section
variable {H:Type} {enc:TypeId×Value->H}
theorem Ez {W:World} {a:Option Addr} {len cap fuel:Nat} {J:Nat->Bool} {L:Bool} {x:DataW H×List MemPlace} (h:DataW.trod enc prog W 0 J L fuel 22 (Value.slice a len cap).cells.toList=some x) :
  ∃ l,aj .i64 0 W.heap.size W (.slice a len cap) l:=by
 rcases open_ints underlying22 underlying3 Qc h with ⟨Uo,_⟩ | ⟨y,l,c,zs,Uo,_,hl,hm,hz,_,QR,hwz⟩
 ·simp [Value.cells] at Uo
  obtain ⟨rfl,rfl,rfl⟩:=Uo;exact ⟨[],aj.nil _ _ _ _⟩
 ·simp [Value.cells] at Uo
  obtain ⟨rfl,rfl,rfl⟩:=Uo;have O:len<=zs.length:=by split at hz <;> omega
  refine ⟨zs.take len,⟨⟨Qb,some y,cap,by rw [Po];congr 1;omega,Qs,hm,fun N=>?_⟩,fun n D=>?_⟩⟩
  ·have I:=QR 0 (by rw [Po] at N;omega)
   obtain ⟨b,off,F⟩:=y;have E:F=none:=by simpa [Addr.add] using World.cell?_spot I
   subst E;refine ⟨b,off,rfl,PX _,s4 (by simpa [Addr.add] using I),fun j u hu=>?_⟩;rw [Pz] at hu;obtain ⟨n,D,rfl⟩:=Option.map_eq_some_iff.1 hu;have M:j<(zs.take len).length:=(List.getElem?_eq_some_iff.1 D).1;rw [Po] at M;have:=QR j Qa;rw [PB,if_pos Qa] at D;simpa [Addr.add_lit,Pd,D] using this
  ·exact tx (hwz n (List.mem_of_mem_take D))
theorem sW {W:World} {M:Nat->Bool} {N:Bool} {n:Nat} {D:List Value} {y:DataW H×List MemPlace} (Y:D.length=3) (hy:DataW.trod enc prog W 0 M N n 24 D=some y) :
  ∃ f:ah,∃ pv,D=[.int .i64 f.W,.int .i64 f.H,pv]/\(i7 .i64 f.W/\i7 .i64 f.H)/\aj .i64 0 W.heap.size W pv f.pix:=by
 obtain ⟨xs,m,_,_,_,E,O⟩:=DataW.trod_struct underlying24 hy;have h0:DataW.trod enc prog W 0 M N m 3 ((D.drop 0).take (prog.cellsOf 3))=xs[0]?:=O 0 _ rfl;have h1:DataW.trod enc prog W 0 M N m 3 ((D.drop 1).take (prog.cellsOf 3))=xs[1]?:=O 1 _ rfl;have I:DataW.trod enc prog W 0 M N m 22 ((D.drop 2).take (prog.cellsOf 22))=xs[2]?:=O 2 _ rfl;rw [vI] at h0 h1;rw [Ch] at I;obtain ⟨k,V,L⟩:=fy h0 (iE E Ql);obtain ⟨k',J,F⟩:=fy h1 (iE E Ql)
 match hC:D,Y with
 | [c0,c1,c2],_ =>
  simp at V J I;subst V;subst J;have e2:xs[2]?=some (xs[2]'(by rw [E];decide)):=Pe _;rw [e2] at I;rcases open_slice underlying22 I with ⟨Sq,_⟩ | ⟨a,ln,cap,_,_,_,_,Sq,_⟩
  ·simp at Sq;subst Sq;exact ⟨⟨k,k',[]⟩,_,rfl,⟨tx L,tx F⟩,aj.nil _ _ _ _⟩
  ·simp at Sq;subst Sq
   obtain ⟨d,Z⟩:=Ez (a:=some a) (len:=ln) (cap:=cap) (by simpa [Value.cells] using I);exact ⟨⟨k,k',d⟩,_,rfl,⟨tx L,tx F⟩,Z⟩
theorem Gh {W:World} {I:Nat->Bool} {J:Bool} {fuel:Nat} {E:List Value} {x:DataW H×List MemPlace} (h:DataW.trod enc prog W 0 I J fuel 27 E=some x):∃ v l,E=[v]/\aZ 0 W.heap.size W v l:=by
 obtain ⟨v,len,n,C,rfl,hR,L⟩:=MT underlying27 yU Qa h;obtain ⟨l,O,M⟩:=MD (α:=ah) (P:=fun i f=>(C i).getD 0 undef=.int .i64 f.W/\(C i).getD 1 undef=.int .i64 f.H/\aj .i64 0 W.heap.size W ((C i).getD 2 undef) f.pix) len (fun i hi=>by
  obtain ⟨F,y,V⟩:=L i hi;obtain ⟨f,pv,D,-,N⟩:=sW F V;exact ⟨f,by rw [D];rfl,by rw [D];rfl,by rw [D];exact N⟩)
 exact ⟨v,l,rfl,_,by rw [O];exact hR,fun i hi=>M i Qa⟩
end
set_option linter.unusedVariables false
set_option linter.unusedSimpArgs false
def bZ (c:j3) (l:List ah) (caps:List Int):Option Int :=
 if fM c=false then some 11
 else if l.length=0\/16<l.length\/l.any (fun f=>!cT f)=true then some 2
 else if l.any (fun f=>!(decide (f.W=(l.getD 0 default).W) && decide (f.H=(l.getD 0 default).H)))=true\/caps.length≠l.length then some 14
 else if caps.any (fun n=>decide (n<8))=true then some 3
 else none
theorem mJ {c:j3} {l:List ah} {caps:List Int} (h:bZ c l caps=none):fM c=true/\0<l.length/\l.length<=16 /\
  (∀ f∈l,FrOk f/\f.W=(l.getD 0 default).W/\f.H=(l.getD 0 default).H)/\caps.length=l.length/\∀ i,i<l.length->8<=caps.getD i 0:=by
 unfold bZ at h
 split at h
 ·cases h
 rename_i h0
 split at h
 ·cases h
 rename_i h1
 split at h
 ·cases h
 rename_i h2
 split at h
 ·cases h
 rename_i h3
 have a1:¬ l.any (fun f=>!cT f)=true:=fun e=>h1 (.inr (.inr e))
 have a2:¬ l.any (fun f=>!(decide (f.W=(l.getD 0 default).W) && decide (f.H=(l.getD 0 default).H)))=true:=fun e=>h2 (.inl e)
 have a3:caps.length=l.length:=Classical.byContradiction fun e=>h2 (.inr e)
 have a4:0<l.length:=Nat.pos_of_ne_zero fun e=>h1 (.inl e)
 have a5:l.length<=16:=Nat.le_of_not_lt fun e=>h1 (.inr (.inl e))
 refine ⟨QD,a4,a5,fun f D=>?_,a3,fun i hi=>?_⟩
 ·refine ⟨dp.1 ?_,?_⟩
  ·cases hm:cT f with
   | true=>rfl
   | false=>exact absurd (List.any_eq_true.2 ⟨f,D,by rw [hm];rfl⟩) a1
  ·refine Classical.byContradiction fun e=>a2 (List.any_eq_true.2 ⟨f,D,?_⟩)
   simp only [Bool.not_eq_true',Bool.and_eq_false_iff,decide_eq_false_iff_not];exact (Decidable.not_and_iff_or_not.1 e)
 ·refine Classical.byContradiction fun e=>h3 (List.any_eq_true.2 ⟨caps.getD i 0,?_,decide_eq_true Qa⟩)
  rw [Pd,Pe Qa];exact PG _
theorem qP {w:World} {g:Nat} {v:Value} {t:TypeId} (h:w.heap[g]?=some (.cells #[v] t)):w.cell? ⟨g,0,none⟩=some v:=by
 rw [RG h];rfl
theorem CJ {w:World} {g:Nat} {D E F I J L M N:Value} {t:TypeId} (h:w.heap[g]?=some (.cells #[D,E,F,I,J,L,M,N] t)) :
  w.cell? ⟨g,0,none⟩=some D/\w.cell? ⟨g,1,none⟩=some E/\w.cell? ⟨g,2,none⟩=some F/\w.cell? ⟨g,3,none⟩=some I/\w.cell? ⟨g,4,none⟩=some J/\w.cell? ⟨g,5,none⟩=some L/\w.cell? ⟨g,6,none⟩=some M/\w.cell? ⟨g,7,none⟩=some N:=by
 refine ⟨?_,?_,?_,?_,?_,?_,?_,?_⟩ <;> (rw [RG h];rfl)
section
theorem vD {f:ah->Bool} {l:List ah} {k:Nat} (h:k<l.length):(l.drop k).any f=(f (l.getD k default) || (l.drop (k+1)).any f):=by
 rw [Py h,List.any_cons,Pd,Pe h];rfl
def pO (f:ah):Bool:=!cT f
def ia (W H:Int) (f:ah):Bool:=!(decide (f.W=W) && decide (f.H=H))
theorem IY {lo hi:Nat} {pv:Value} {f:ah} {w:World} (h:aj .i64 lo hi w pv f.pix) :
  Calls prog 120 #[.agg #[f.W,f.H,pv]] w fun e w'=>e=.returned (.bool (pO f))/\ae [] w w':=by
 obtain ⟨M,L,rfl,-⟩:=h.open;have D:=ae.new w (sT f M L);have E:=lh (jN f.W f.H (h.quiet D));have F:=lh D;have I:Hid (pO f=!cT f):=lh rfl;rw [show (⟨f.W,f.H,f.pix⟩:ah)=f from rfl] at E;clear h D;generalize cT f=B at *
 generalize f.pix.length=n at *
 generalize f.W=fW at *
 generalize f.H=fH at *
 go_enter func120,ntmps120;go_wp2_with fail;refine E.mono ?_;rintro e w1 ⟨rfl,J⟩;go_wp2_with fail;go_ret;exact ⟨aC (by rw [I.out]),F.q J⟩
theorem Lt {p:Prop} (h:p:=by
 refine tk 15 19 ?_;refine tk 16 3 ?_;refine Wn Qc ?_ _;go_wp2_with fail;go_ret;exact ⟨E0.out _ (by rw [Hz.out]),by first | exact HQ | exact HQ.drew⟩):p:=h
theorem Lm {p:Prop} (h:p:=by
 refine tk 0 4 ?_;refine tk 1 5 ?_;refine tk 2 6 ?_;refine tk 3 7 ?_;refine tk 4 8 ?_;refine tk 5 9 ?_;refine tk 6 10 ?_;refine tk 7 11 ?_;refine tk 8 12 ?_;refine tk 9 13 ?_;refine tk 10 14 ?_;refine tk 11 15 ?_;refine tk 12 16 ?_;refine tk 13 17 ?_;refine tk 14 18 ?_;exact Lt):p:=h
theorem IZ {pv:Value} {f:ah} {G b off n cap:Nat} {W H:Int} {w:World} (hG:w.cell? ⟨G,0,none⟩=some (.slice (some ⟨b,off,none⟩) n cap)) (hn:0<n) (h0:w.cell? ⟨b,off,none⟩=some (.int .i64 W)) (h1:w.cell? ⟨b,off+1,none⟩=some (.int .i64 H)) (hp:∃ a m c,pv=.slice a m c) :
  Calls prog 121 #[.agg #[f.W,f.H,pv],.pointer G] w fun e w'=>e=.returned (.bool (ia W H f))/\ae [] w w':=by
 obtain ⟨F,J,I,rfl⟩:=hp;have E:=ae.new w (.cells #[f.W,f.H,.slice F J I] 24);have HQ:=lh E;have M:=E.cell hG Qb;have N:=E.cell h0 Qb;have O:=E.cell h1 Qb;obtain ⟨V,Y,Z⟩:=ag (Sd w (.cells #[f.W,f.H,.slice F J I] 24));have hni:(0:Int)<(n:Int):=Qa;have L:Hid (ia W H f=!(decide (f.W=W) && decide (f.H=H))):=lh rfl;clear hG h0 h1 E;generalize f.W=fW at *
 generalize f.H=fH at *
 have E0:Hid (∀ z:Bool,z=ia W H f->Ending.returned (.bool z)=.returned (.bool (ia W H f))):=lh (fun z h=>by rw [h]);by_cases D:W=fW
 ·by_cases e2:H=fH
  ·have Hz:Hid (ia W H f=false):=lh (by rw [L.out];rw [<- D,<- e2];simp)
   subst D;subst e2;go_enter func121,ntmps121;go_upto_region 1 with (fail)
   refine Tf (S:=(fun wz=>wz.cell? ⟨w.heap.size,0,none⟩=some (.int .i64 W)/\wz.cell? ⟨w.heap.size,1,none⟩=some (.int .i64 H)/\wz.cell? ⟨w.heap.size,2,none⟩=some (.slice F J I)/\wz.cell? ⟨G,0,none⟩=some (.slice (some ⟨b,off,none⟩) n cap)/\wz.cell? ⟨b,off,none⟩=some (.int .i64 W)/\wz.cell? ⟨b,off+1,none⟩=some (.int .i64 H))) Qc ?_ (fun hHeld=>?_)
   ·exact ⟨V,Y,Z,M,N,O⟩
   exact Lm
  ·have Hz:Hid (ia W H f=true):=lh (by rw [L.out];simp [Ne.symm e2])
   have q2:(fH == H)=false:=by rw [A5];exact Ne.symm e2
   have q2b:(fH != H)=true:=by rw [bne,q2];rfl
   subst D;clear e2;go_enter func121,ntmps121;go_upto_region 1 with (fail)
   refine Tf (S:=(fun wz=>wz.cell? ⟨w.heap.size,0,none⟩=some (.int .i64 W)/\wz.cell? ⟨w.heap.size,1,none⟩=some (.int .i64 fH)/\wz.cell? ⟨w.heap.size,2,none⟩=some (.slice F J I)/\wz.cell? ⟨G,0,none⟩=some (.slice (some ⟨b,off,none⟩) n cap)/\wz.cell? ⟨b,off,none⟩=some (.int .i64 W)/\wz.cell? ⟨b,off+1,none⟩=some (.int .i64 H))) Qc ?_ (fun hHeld=>?_)
   ·exact ⟨V,Y,Z,M,N,O⟩
   exact Lm
 ·have Hz:Hid (ia W H f=true):=lh (by rw [L.out];simp [Ne.symm D])
  have q1:(fW == W)=false:=by rw [A5];exact Ne.symm D
  have q1b:(fW != W)=true:=by rw [bne,q1];rfl
  clear D;go_enter func121,ntmps121;go_upto_region 1 with (fail)
  refine Tf (S:=(fun wz=>wz.cell? ⟨w.heap.size,0,none⟩=some (.int .i64 fW)/\wz.cell? ⟨w.heap.size,1,none⟩=some (.int .i64 fH)/\wz.cell? ⟨w.heap.size,2,none⟩=some (.slice F J I)/\wz.cell? ⟨G,0,none⟩=some (.slice (some ⟨b,off,none⟩) n cap)/\wz.cell? ⟨b,off,none⟩=some (.int .i64 W)/\wz.cell? ⟨b,off+1,none⟩=some (.int .i64 H))) Qc ?_ (fun hHeld=>?_)
  ·exact ⟨V,Y,Z,M,N,O⟩
  refine tk 0 4 ?_;refine tk 1 5 ?_;refine tk 2 6 ?_;refine tk 3 7 ?_;refine tk 4 8 ?_;refine tk 5 9 ?_;refine tk 6 10 ?_;refine tk 7 11 ?_;refine l9 8 12 ?_;refine l9 9 13 ?_;refine l9 10 14 ?_;refine l9 11 15 ?_;refine l9 12 16 ?_;refine l9 13 17 ?_;refine l9 14 18 ?_;exact Lt
theorem Ja (x:Int) (w:World):Calls prog 123 #[x] w fun e w'=>e=.returned (.bool (decide (x<8)))/\w=w':=by
 by_cases h:x<8
 all_goals
  go_enter func123,ntmps123;go_wp2_with fail;go_ret;exact ⟨aC (by simp [h]),rfl⟩
theorem Ln {p:Prop} (h:p:=by
 obtain rfl:k=l.length:=Qa;have hx:¬ (l.length:Int)<(l.length:Int):=Qa;have Hz:Hid (l.any g=false):=lh (by rw [<- Hk.out,List.drop_length];rfl);go_wp2_with fail;exact QF.out _ _ ⟨⟨-1,rfl,by rw [Hz.out];simp,Qa,Qa⟩,QP.out⟩):p:=h
theorem Lq {p:Prop} (h:p:=by
 refine Hu.mono ?_;rintro e w2 ⟨rfl,QN⟩;have QT:=lh (QP.q QN);clear QN;go_wp2_with fail;exact QF.out _ _ ⟨⟨k,rfl,by rw [<- Hk.out,RV.out];simp,Qa,by have:=Hl.out;omega⟩,QT.out⟩):p:=h
theorem Lr {p:Prop} (h:p:=by
 refine Hu.mono ?_;rintro e w2 ⟨rfl,QN⟩;have QT:=lh (QP.q QN);clear QN;go_wp2_with fail;exact ⟨⟨k+1,Qa,Qh,RU,QT⟩,Qf⟩):p:=h
theorem CX {lo hi:Nat} {v:Value} {l:List ah} {w:World} (h:aZ lo hi w v l) (L:l.length<=1000000000) :
  Calls prog 181 #[v,.func (.func 120) #[] #[]] w fun e w'=>(∃ i:Int,e=.returned (.int .i64 i)/\(0<=i↔l.any pO=true)/\-1<=i/\i<=1000000000)/\ae [] w w':=by
 refine aK fun Q QF=>?_
 obtain ⟨a,cap,rfl,-,-,E⟩:=h.open;have O:=lh E;have M:Hid (∀ (f:ah) (u:Value) (wx:World),ae [] w wx->aj .i64 lo hi wx u f.pix->Calls prog 120 #[.agg #[f.W,f.H,u]] wx fun e w'=>e=.returned (.bool (pO f))/\ae [] wx w'):=lh (fun f u wx o hu=>IY hu);have Hl:=lh L;have Z:(l.length:Int)<=9223372036854775807:=Qa;clear E L h;generalize V:pO=g at *
 clear V;go_enter func181,ntmps181;go_wp2_with fail;go_loopw [8] (fun i wr=>∃ k:Nat,k<=l.length/\i=.int .i64 k/\Hid ((l.drop k).any g=l.any g)/\Hid (ae [] w wr)) (fun i _=>l.length-(intOf i).toNat)
 case atStart=>exact ⟨0,Qa,rfl,lh rfl,lh (AY)⟩
 case round =>
  obtain ⟨k,hk,rfl,Hk,QP⟩:=hrel;by_cases D:k<l.length
  ·obtain ⟨b',Um,u,rfl,-,-,J,I,F,hu⟩:=O.out k D
   have c0:=QP.cell J Qb;have c1:=QP.cell I Qb;have c2:=QP.cell F Qb;have hx:(0:Int)<=(k:Int):=Qa;have Y:(k:Int)<(l.length:Int):=Qa;have RV:=lh (vD (f:=g) D);have Hu:=lh (M.out (l.getD k default) u wr QP (hu.quiet QP));obtain ⟨ua,N,rfl,-⟩:=hu.open;clear J I F hu;generalize l.getD k default=x at *
   generalize g x=gb at *
   generalize x.pix.length=xn at *
   generalize x.W=xW at *
   generalize x.H=xH at *
   cases gb with
   | true =>
    go_wp2_with fail;go_at_call 120;exact Lq
   | false =>
    have RU:Hid ((l.drop (k+1)).any g=l.any g):=lh (by rw [<- Hk.out,RV.out];rfl);go_wp2_with fail;go_at_call 120;exact Lr
  ·exact Ln
theorem Lp {p:Prop} (h:p:=by
 go_enter func119,ntmps119
 go_wp2_with (first | (go_at_call 181;refine HI.mono ?_;rintro e w1 ⟨⟨i,rfl,hi1,Uq,hi3⟩,QI⟩) | fail)
 go_ret;exact ⟨aC (by rw [m9,<- hi1];try simp),QI⟩):p:=h
theorem uP {lo hi:Nat} {v:Value} {l:List ah} {w:World} (h:aZ lo hi w v l) (D:l.length<=1000000000) :
  Calls prog 119 #[v,.func (.func 120) #[] #[]] w fun e w'=>e=.returned (.bool (l.any pO))/\ae [] w w':=by
 have HI:=lh (CX h D);clear h D;generalize l.any pO=B at *
 exact Lp
theorem CY {lo hi:Nat} {v:Value} {l:List ah} {w:World} {G b off n ca:Nat} {W H:Int} (h:aZ lo hi w v l) (M:l.length<=1000000000) (L:w.cell? ⟨G,0,none⟩=some (.slice (some ⟨b,off,none⟩) n ca)) (N:0<n) (h0:w.cell? ⟨b,off,none⟩=some (.int .i64 W)) (h1:w.cell? ⟨b,off+1,none⟩=some (.int .i64 H)) :
  Calls prog 181 #[v,.func (.func 121) #[] #[.pointer G]] w fun e w'=>(∃ i:Int,e=.returned (.int .i64 i)/\(0<=i↔l.any (ia W H)=true)/\-1<=i/\i<=1000000000)/\ae [] w w':=by
 refine aK fun Q QF=>?_
 obtain ⟨a,cap,rfl,-,-,E⟩:=h.open;have Y:=lh E;have O:Hid (∀ (f:ah) (u:Value) (wx:World),ae [] w wx->aj .i64 lo hi wx u f.pix->Calls prog 121 #[.agg #[f.W,f.H,u],.pointer G] wx fun e w'=>e=.returned (.bool ((ia W H) f))/\ae [] wx w'):=lh (fun f u wx o hu=>IZ (o.cell L Qb) N (o.cell h0 Qb) (o.cell h1 Qb) (by obtain ⟨a,c,e,-⟩:=hu.open;exact ⟨a,_,c,e⟩));have Hl:=lh M;have Th:(l.length:Int)<=9223372036854775807:=Qa;clear E M h L N h0 h1;generalize Z:(ia W H)=g at *
 clear Z;go_enter func181,ntmps181;go_wp2_with fail;go_loopw [8] (fun i wr=>∃ k:Nat,k<=l.length/\i=.int .i64 k/\Hid ((l.drop k).any g=l.any g)/\Hid (ae [] w wr)) (fun i _=>l.length-(intOf i).toNat)
 case atStart=>exact ⟨0,Qa,rfl,lh rfl,lh (AY)⟩
 case round =>
  obtain ⟨k,hk,rfl,Hk,QP⟩:=hrel;by_cases D:k<l.length
  ·obtain ⟨b',Um,u,rfl,-,-,J,I,F,hu⟩:=Y.out k D
   have c0:=QP.cell J Qb;have c1:=QP.cell I Qb;have c2:=QP.cell F Qb;have hx:(0:Int)<=(k:Int):=Qa;have RZ:(k:Int)<(l.length:Int):=Qa;have RV:=lh (vD (f:=g) D);have Hu:=lh (O.out (l.getD k default) u wr QP (hu.quiet QP));obtain ⟨ua,V,rfl,-⟩:=hu.open;clear J I F hu;generalize l.getD k default=x at *
   generalize g x=gb at *
   generalize x.pix.length=xn at *
   generalize x.W=xW at *
   generalize x.H=xH at *
   cases gb with
   | true =>
    go_wp2_with fail;go_at_call 121;exact Lq
   | false =>
    have RU:Hid ((l.drop (k+1)).any g=l.any g):=lh (by rw [<- Hk.out,RV.out];rfl);go_wp2_with fail;go_at_call 121;exact Lr
  ·exact Ln
theorem uQ {lo hi:Nat} {v:Value} {l:List ah} {w:World} {G b off n ca:Nat} {W H:Int} (h:aZ lo hi w v l) (D:l.length<=1000000000) (E:w.cell? ⟨G,0,none⟩=some (.slice (some ⟨b,off,none⟩) n ca)) (F:0<n) (h0:w.cell? ⟨b,off,none⟩=some (.int .i64 W)) (h1:w.cell? ⟨b,off+1,none⟩=some (.int .i64 H)) :
  Calls prog 119 #[v,.func (.func 121) #[] #[.pointer G]] w fun e w'=>e=.returned (.bool (l.any (ia W H)))/\ae [] w w':=by
 have HI:=lh (CY h D E F h0 h1);clear h D;generalize l.any (ia W H)=B at *
 exact Lp
theorem CL {lo hi lo' hi':Nat} {v cv:Value} {l:List ah} {caps:List Int} {a0 a1 a2 a3 a4 a5 a6 a7:Int} {w:World} (h:aZ lo hi w v l) (hl:l.length<=1000000000) (hc:aj .i64 lo' hi' w cv caps) (hcl:caps.length<=1000000000) :
  Calls prog 59 #[.agg #[a0,a1,a2,a3,a4,a5,a6,a7],v,cv] w fun e w'=>e=.returned (iL (bZ (⟨a0,a1,a2,a3,a4,a5,a6,a7⟩:j3) l caps))/\ae [] w w':=by
 refine aK fun Q N=>?_
 have XH:=lh (fun W:World=>vK (⟨a0,a1,a2,a3,a4,a5,a6,a7⟩:j3) W);unfold j3.v at XH;have HP:=lh (fun (W:World) (o:ae [] w W)=>uP (h.quiet o) hl);have HC3:=lh (fun (W:World) (o:ae [] w W)=>iB (f:=123) (g:=fun n=>decide (n<8)) (fun _ _=>rfl) Ja (hc.quiet o) hcl);have V:=lh (fun (W:World) (G b off n ca:Nat) (W0 J:Int) (o:ae [] w W)=>uQ (G:=G) (b:=b) (off:=off) (n:=n) (ca:=ca) (W:=W0) (H:=J) (h.quiet o) hl);obtain ⟨a,cap,rfl,-,-,RO⟩:=h.open;obtain ⟨ca,Jtp,rfl,-⟩:=hc.open;have TT:=lh RO;have hb2:=km w (.cells #[a0,a1,a2,a3,a4,a5,a6,a7] 47) (.cells #[.slice a l.length cap] 27);obtain ⟨XP,HK1,HV1,-⟩:=hb2;have QO:=lh XP;have Th:(l.length:Int)<=9223372036854775807:=Qa;have Jul:(caps.length:Int)<=9223372036854775807:=Qa;have L:Hid (bZ (⟨a0,a1,a2,a3,a4,a5,a6,a7⟩:j3) l caps=if fM (⟨a0,a1,a2,a3,a4,a5,a6,a7⟩:j3)=false then some 11 else if l.length=0\/16<l.length\/l.any pO=true then some 2 else if l.any (ia (l.getD 0 default).W (l.getD 0 default).H)=true\/caps.length≠l.length then some 14 else if caps.any (fun n=>decide (n<8))=true then some 3 else none):=lh rfl;generalize bZ (⟨a0,a1,a2,a3,a4,a5,a6,a7⟩:j3) l caps=R at *
 generalize fM (⟨a0,a1,a2,a3,a4,a5,a6,a7⟩:j3)=M at *
 clear h hc RO XP hl hcl;go_enter func59,ntmps59;obtain ⟨k0,k1,k2,k3,k4,k5,k6,k7⟩:=CJ HK1;go_wp2_with fail;generalize Rs:World.alloc (World.alloc w _) _=W1 at *
 clear Rs k0 k1 k2 k3 k4 k5 k6 k7;refine (XH.out _).mono ?_;rintro e w2 ⟨rfl,QN⟩;have QT:=lh (QO.q QN);have Y:=lh (QN.row HV1);clear QN;have r0:=qP Y;cases M with
 | false =>
  simp only [Bool.false_eq_true,↓reduceIte,iL];go_wp2_with fail;exact N.out _ _ ⟨by rw [L.out];first | done | rfl,QT.out⟩
 | true =>
  simp only [↓reduceIte,iL];by_cases h0:l.length=0
  ·have h0i:(l.length:Int)=0:=Qa
   have J:=lh h0;have q0:((l.length:Int) == 0)=true:=dn beq_iff_eq h0i
   clear h0;clear h0i;go_wp2_with fail;exact N.out _ _ ⟨by rw [L.out,if_neg Ql,if_pos (.inl J)];first | done | rfl,QT.out⟩
  ·have J:=lh h0
   have TK:0<l.length:=Qa;have Jvf:(0:Int)<(l.length:Int):=Qa;have q0:((l.length:Int) == 0)=false:=Qk;obtain ⟨b,off,dv,rfl,-,-,TM,Sq,-,-⟩:=TT.out 0 TK;rw [Nat.zero_mul,Nat.add_zero] at TM Sq;have HC0:=lh TM;have HC1:=lh Sq;clear h0 TM Sq;by_cases Yp:16<l.length
   ·have Jkg:(16:Int)<(l.length:Int):=Qa
    have D:=lh Yp;clear Yp;go_wp2_with fail;exact N.out _ _ ⟨by rw [L.out,if_neg Ql,if_pos (.inr (.inl D))];first | done | rfl,QT.out⟩
   ·have Jkg:¬ (16:Int)<(l.length:Int):=Qa
    have D:=lh Yp;clear Yp;go_wp2_with fail;refine (HP.out _ QT).mono ?_;rintro e w3 ⟨rfl,QQ⟩;have QW:=lh (QT.q QQ);have Z:=lh (QQ.row Y);clear QQ r0;have r0:=qP Z;have HR0:=lh r0;cases hp:l.any pO with
    | true =>
     have E:=lh hp;clear hp;go_wp2_with fail;exact N.out _ _ ⟨by rw [L.out,if_neg Ql,if_pos (.inr (.inr E))];first | done | rfl,QW.out⟩
    | false =>
     have E:=lh hp;clear hp;have JyU:=lh (V.out w3 (w.heap.size+1) b off l.length cap (l.getD 0 default).W (l.getD 0 default).H QW r0 TK (QW.cell HC0 Qb) (QW.cell HC1 Qb));clear V;go_wp2_with fail;refine JyU.mono ?_;rintro e w4 ⟨rfl,QY⟩;have Rh:=lh (QW.q QY);have HV4:=lh (QY.row Z);clear QY r0 HR0;have r0:=qP HV4;cases hs:l.any (ia (l.getD 0 default).W (l.getD 0 default).H) with
     | true =>
      have I:=lh hs;clear hs;go_wp2_with fail;exact N.out _ _ ⟨by rw [L.out,if_neg Ql,if_neg (by have:=J.out;have:=D.out;have:=E.out;simp_all),if_pos (.inl I)];first | done | rfl,Rh.out⟩
     | false =>
      have I:=lh hs;clear hs;by_cases ZJ:caps.length=l.length
      ·have q1:((caps.length:Int) == (l.length:Int))=true:=Qu
       have F:=lh ZJ;clear ZJ;go_wp2_with fail;refine (HC3.out _ Rh).mono ?_;rintro e w5 ⟨rfl,RF⟩;have Rk:=lh (Rh.q RF);clear RF;cases hr:caps.any (fun n=>decide (n<8)) with
       | true =>
        have O:=lh hr;clear hr;go_wp2_with fail;exact N.out _ _ ⟨by rw [L.out,if_neg Ql,if_neg (by have:=J.out;have:=D.out;have:=E.out;simp_all),if_neg (by have:=I.out;have:=F.out;simp_all),if_pos O.out];first | done | rfl,Rk.out⟩
       | false =>
        have O:=lh hr;clear hr;go_wp2_with fail;exact N.out _ _ ⟨by rw [L.out,if_neg Ql,if_neg (by have:=J.out;have:=D.out;have:=E.out;simp_all),if_neg (by have:=I.out;have:=F.out;simp_all),if_neg (by rw [O.out];decide)];first | done | rfl,Rk.out⟩
      ·have q1:((caps.length:Int) == (l.length:Int))=false:=Qk
       have F:=lh ZJ;clear ZJ;go_wp2_with fail;exact N.out _ _ ⟨by rw [L.out,if_neg Ql,if_neg (by have:=J.out;have:=D.out;have:=E.out;simp_all),if_pos (.inr F)];first | done | rfl,Rh.out⟩
end
def gN (src prev:ah) (key:Bool) (reach most:Int):Nat->Int->Except Int (bw×ah)
 | 0,_=>.ok (if key then (⟨4,[]⟩,ed src.W src.H 128) else (⟨3,[]⟩,prev))
 | n+1,qp=>match cy src prev key qp reach with
  | some k=>.error k
  | none=>if ((bP src prev key qp reach.toNat).data.length:Int)+8<=most then .ok (bP src prev key qp reach.toNat,(dJ src prev key qp reach.toNat).1) else gN src prev key reach most n (qp+1)
def kG (src prev:ah) (key:Bool) (c:j3) (most:Int):Except Int (bw×ah) :=
 if fM c=false then .error 11 else if most<8 then .error 3 else gN src prev key c.reach most (c.qmax+1-c.qmin).toNat c.qmin
def Oo (src prev:ah) (key:Bool) (c:j3) (most:Int) (w:World) (e:Ending) (w':World):Prop :=
 ae [] w w'/\match kG src prev key c most with
  | .error k=>e=.returned (.tuple #[.agg #[(),d8],.agg #[(),(),d8],.iface 36 (.int .i64 k)])
  | .ok x=>∃ dv fv,e=.returned (.tuple #[.agg #[x.1.kind,dv],.agg #[x.2.W,x.2.H,fv],.nilIface])/\aj .u8 w.heap.size w'.heap.size w' dv x.1.data/\aj .i64 w.heap.size w'.heap.size w' fv x.2.pix
theorem jG {src prev:ah} {key:Bool} {reach most:Int} {n:Nat} {q:Int} (h:cy src prev key q reach=none) (D:¬ ((bP src prev key q reach.toNat).data.length:Int)+8<=most):gN src prev key reach most (n+1) q=gN src prev key reach most n (q+1):=by
 simp only [gN,h,if_neg D]
theorem pC {src prev:ah} {key:Bool} {reach most:Int} {n:Nat} {q:Int} (h:cy src prev key q reach=none) (D:((bP src prev key q reach.toNat).data.length:Int)+8<=most):gN src prev key reach most (n+1) q=.ok (bP src prev key q reach.toNat,(dJ src prev key q reach.toNat).1):=by
 simp only [gN,h,if_pos D]
theorem np {src prev:ah} {key:Bool} {reach most:Int} {n:Nat} {q k:Int} (h:cy src prev key q reach=some k):gN src prev key reach most (n+1) q=.error k:=by
 simp only [gN,h]
theorem bJ {w:World} {g:Nat} {D E F I J L M N:Value} {t:TypeId} (h:w.heap[g]?=some (.cells #[D,E,F,I,J,L,M,N] t)) :
  w.cell? ⟨g,0,none⟩=some D/\w.cell? ⟨g,1,none⟩=some E/\w.cell? ⟨g,2,none⟩=some F/\w.cell? ⟨g,3,none⟩=some I/\w.cell? ⟨g,4,none⟩=some J/\w.cell? ⟨g,5,none⟩=some L/\w.cell? ⟨g,6,none⟩=some M/\w.cell? ⟨g,7,none⟩=some N:=by
 refine ⟨?_,?_,?_,?_,?_,?_,?_,?_⟩ <;> (rw [RG h];rfl)
section
theorem Li {p:Prop} (h:p:=by
 rw [HE.out];exact ⟨SJ.trans HO Qb (fun g hg QH=>by simp only [Pg,Ph,l7] at hg;omega),rfl⟩):p:=h
theorem Ji {lo hi lo' hi':Nat} {sv pv:Value} {src prev:ah} {w:World} (key:Bool) (c:j3) (most:Int) (hs:aj .i64 lo hi w sv src.pix) (hp:aj .i64 lo' hi' w pv prev.pix) (hh:hi<=w.heap.size) (hh':hi'<=w.heap.size) :
  Calls prog 16 #[.agg #[src.W,src.H,sv],.agg #[prev.W,prev.H,pv],.bool key,c.v,most] w (Oo src prev key c most w):=by
 refine aK fun Q QF=>?_
 have HFr:=lh (fun (W:World) (q:Int) (o:ae [] w W)=>Cu key q c.reach (hs.quiet o) (hp.quiet o) (Pw hh o.size) (Pw hh' o.size));have UK:=lh (fun (W:World) (o:ae [] w W) (h0:0<prev.pix.length) (hl:prev.pix.length<=1000000)=>qH (hp.quiet o) h0 hl);have Jjt:=lh (fun (W:World)=>vK c W);have Tr:Hid (kG src prev key c most=if fM c=false then .error 11 else if most<8 then .error 3 else gN src prev key c.reach most (c.qmax+1-c.qmin).toNat c.qmin):=lh rfl;have JbT:Hid (fM c=true->0<=c.qmin/\c.qmin<=c.qmax/\c.qmax<=15/\0<=c.reach/\c.reach<=7):=lh (fun h=>by unfold fM at h;rw [r9] at h;exact ⟨h.1,h.2.1,h.2.2.1,h.2.2.2.1,h.2.2.2.2.1⟩);obtain ⟨sa,sc,rfl,-⟩:=hs.open;obtain ⟨pa,pc,rfl,-⟩:=hp.open;unfold j3.v at Jjt |-
 unfold Oo at QF;generalize kG src prev key c most=FE at *
 generalize fM c=MC at *
 obtain ⟨a0,a1,a2,a3,a4,a5,a6,a7⟩:=c;simp only at HFr Tr JbT Jjt |-
 have Rk:Hid (ae [] w (((((w.alloc (sT src sa sc)).alloc (sT prev pa pc)).alloc (.cells #[a0,a1,a2,a3,a4,a5,a6,a7] 47)).alloc (.cells #[(),d8] 31)).alloc (.cells #[(),(),d8] 24))):=lh (((((ae.new w _).alloc _).alloc _).alloc _).alloc _);have Jfm:Hid ((((((w.alloc (sT src sa sc)).alloc (sT prev pa pc)).alloc (.cells #[a0,a1,a2,a3,a4,a5,a6,a7] 47)).alloc (.cells #[(),d8] 31)).alloc (.cells #[(),(),d8] 24)).heap[w.heap.size]?=some (.cells (sT src sa sc) 24)):=lh (((((ae.new (w.alloc _) _).alloc _).alloc _).alloc _).row (Sd w _));have JgV:Hid ((((((w.alloc (sT src sa sc)).alloc (sT prev pa pc)).alloc (.cells #[a0,a1,a2,a3,a4,a5,a6,a7] 47)).alloc (.cells #[(),d8] 31)).alloc (.cells #[(),(),d8] 24)).heap[w.heap.size+1]?=some (.cells (sT prev pa pc) 24)):=lh ((((ae.new ((w.alloc _).alloc _) _).alloc _).alloc _).row (ak Qb));have JnC:Hid ((((((w.alloc (sT src sa sc)).alloc (sT prev pa pc)).alloc (.cells #[a0,a1,a2,a3,a4,a5,a6,a7] 47)).alloc (.cells #[(),d8] 31)).alloc (.cells #[(),(),d8] 24)).heap[w.heap.size+1+1]?=some (.cells #[a0,a1,a2,a3,a4,a5,a6,a7] 47)):=lh (((ae.new (((w.alloc _).alloc _).alloc _) _).alloc _).row (ak Qb));have Jcd:Hid ((((((w.alloc (sT src sa sc)).alloc (sT prev pa pc)).alloc (.cells #[a0,a1,a2,a3,a4,a5,a6,a7] 47)).alloc (.cells #[(),d8] 31)).alloc (.cells #[(),(),d8] 24)).heap[w.heap.size+1+1+1]?=some (.cells #[(),d8] 31)):=lh ((ae.new ((((w.alloc _).alloc _).alloc _).alloc _) _).row (ak Qb));have Jdt:Hid ((((((w.alloc (sT src sa sc)).alloc (sT prev pa pc)).alloc (.cells #[a0,a1,a2,a3,a4,a5,a6,a7] 47)).alloc (.cells #[(),d8] 31)).alloc (.cells #[(),(),d8] 24)).heap[w.heap.size+1+1+1+1]?=some (.cells #[(),(),d8] 24)):=ak Qb
 have UQ:Hid ((((((w.alloc (sT src sa sc)).alloc (sT prev pa pc)).alloc (.cells #[a0,a1,a2,a3,a4,a5,a6,a7] 47)).alloc (.cells #[(),d8] 31)).alloc (.cells #[(),(),d8] 24)).heap.size=w.heap.size+1+1+1+1+1):=lh Qb;have HHi:=lh (VL hh hh');have JCR:=lh underlying47;clear hs hp hh hh';obtain ⟨k0,k1,k2,k3,k4,k5,k6,k7⟩:=bJ JnC;go_enter func16,ntmps16;go_wp2_with fail;refine (Jjt.out _).mono ?_;rintro e w6 ⟨rfl,Sl⟩;have SJ:=lh (Rk.q Sl);have JsA:=lh (Sl.row Jfm);have Jsw:=lh (Sl.row JgV);have Jss:=lh (Sl.row JnC);have J:=lh (Sl.row Jcd);have Z:=lh (Sl.row Jdt);have VN:Hid (w.heap.size+1+1+1+1+1<=w6.heap.size):=lh (l6 Sl.size UQ.out);clear Sl Jfm JgV JnC Jcd Jdt UQ Rk Jjt k0 k1 k2 k3 k4 k5 k6 k7;cases MC with
 | false =>
  have HE:Hid (FE=.error 11):=lh (by rw [Tr.out];rfl);simp only [Bool.false_eq_true,if_false,iL];have RX:w.heap.size+1+1+1≠w.heap.size+1+1+1+1:=Qa;obtain ⟨t0,t1,y0,y1,-⟩:=aL J;obtain ⟨O,hf,ho⟩:=gS (x:=.int .i64 0) (y:=.slice none 0 0) (u:=.int .i64 0) (v:=.int .i64 0) (z:=.slice none 0 0) J Z RX;obtain ⟨SE,E⟩:=aJ (x:=.int .i64 0) (y:=.slice none 0 0) J;have D:=E.rowAt Z Qb;obtain ⟨f0,f1,f2⟩:=ag D;have g0:=Sz _ (w.heap.size+1+1+1+1) 0 _ _ D;have g1:=Sz _ (w.heap.size+1+1+1+1) 1 _ _ D;have g2:=Sz _ (w.heap.size+1+1+1+1) 2 _ _ D;have HC:=lh O;have HF:=lh hf;have HO:=lh ho;clear O hf ho SE E D;go_wp2_with fail;refine TV (v:=.tuple #[.agg #[(),d8],.agg #[(),(),d8],.iface 36 (.int .i64 11)]) (eP results16 _ _ (w.heap.size+1+1+1) (w.heap.size+1+1+1+1) _ _ _ _ _ _ _ _ _ rfl rfl rfl HC HF underlying31 rfl Qc underlying24 rfl Qc) rfl (QF.out _ _ ?_);exact Li
 | true =>
  simp only [if_true,iL];by_cases hm:most<8
  ·have HE:Hid (FE=.error 3):=lh (by rw [Tr.out,if_neg Ql,if_pos hm])
   have RX:w.heap.size+1+1+1≠w.heap.size+1+1+1+1:=Qa;obtain ⟨t0,t1,y0,y1,-⟩:=aL J;obtain ⟨O,hf,ho⟩:=gS (x:=.int .i64 0) (y:=.slice none 0 0) (u:=.int .i64 0) (v:=.int .i64 0) (z:=.slice none 0 0) J Z RX;obtain ⟨SE,E⟩:=aJ (x:=.int .i64 0) (y:=.slice none 0 0) J;have D:=E.rowAt Z Qb;obtain ⟨f0,f1,f2⟩:=ag D;have g0:=Sz _ (w.heap.size+1+1+1+1) 0 _ _ D;have g1:=Sz _ (w.heap.size+1+1+1+1) 1 _ _ D;have g2:=Sz _ (w.heap.size+1+1+1+1) 2 _ _ D;have HC:=lh O;have HF:=lh hf;have HO:=lh ho;clear O hf ho SE E D;go_wp2_with fail;refine TV (v:=.tuple #[.agg #[(),d8],.agg #[(),(),d8],.iface 36 (.int .i64 3)]) (eP results16 _ _ (w.heap.size+1+1+1) (w.heap.size+1+1+1+1) _ _ _ _ _ _ _ _ _ rfl rfl rfl HC HF underlying31 rfl Qc underlying24 rfl Qc) rfl (QF.out _ _ ?_);exact Li
  ·have Jrw:Hid (FE=gN src prev key a2 most (a1+1-a0).toNat a0):=lh (by rw [Tr.out,if_neg Ql,if_neg hm])
   have HB:Hid (0<=a0/\a0<=a1/\a1<=15/\0<=a2/\a2<=7):=JbT.out rfl;clear JbT Tr;obtain ⟨k0,k1,k2,k3,k4,k5,k6,k7⟩:=bJ Jss;go_wp2_with fail;clear k0 k1 k2 k3 k4 k5 k6 k7;go_loopw [14] (fun qv wr=>∃ q:Int,qv=.int .i64 q/\Hid (a0<=q/\q<=a1+1)/\Hid (FE=gN src prev key a2 most (a1+1-q).toNat q)/\Hid (ae [] w6 wr)/\Hid (a0<q->FrOk src/\(key=false->ej prev src.W src.H=true))) (fun qv _=>(16-intOf qv).toNat)
   case atStart=>exact ⟨a0,rfl,lh (j0 HB.out),Jrw,lh (AY),lh (fun h=>absurd h Qa)⟩
   case round =>
    obtain ⟨q,rfl,Hq,Tk,Tz,Jtc⟩:=hrel;obtain ⟨k0,k1,k2,k3,k4,k5,k6,k7⟩:=bJ (Tz.row Jss);have Wo:Hid (w.heap.size+1+1+1+1+1<=wr.heap.size):=lh (l6 Tz.size VN.out);by_cases hlq:q<=a1
    ·have ZR:IntKind.i64.wrap (q+1)=q+1:=by rw [Pk];have:=Hq.out;have:=HB.out;omega
     have Jry:=lh (HFr.out wr q (SJ.q Tz));have HN:Hid ((a1+1-q).toNat=(a1-q).toNat+1/\(a1+1-(q+1)).toNat=(a1-q).toNat):=lh Qa;obtain ⟨s0,s1,s2⟩:=ag (Tz.row JsA);obtain ⟨p0,p1,p2⟩:=ag (Tz.row Jsw);go_wp2_with fail;clear k0 k1 k2 k3 k4 k5 k6 k7 s0 s1 s2 p0 p1 p2;refine Jry.mono ?_;rintro e w7 ⟨TZ,hm7⟩;have WS:=lh ((SJ.q Tz).q TZ);have Jfh:=lh (Tz.q TZ);have HZ7:Hid (w.heap.size+1+1+1+1+1<=w7.heap.size/\wr.heap.size<=w7.heap.size):=lh ⟨by have:=VN.out;have:=Jfh.size;omega,TZ.size⟩;clear TZ Jry;cases TN:cy src prev key q a2 with
     | some k =>
      rw [TN] at hm7;obtain rfl:=hm7;have HE:Hid (FE=.error k):=lh (by rw [Tk.out,HN.1];exact np TN);clear TN;go_upto_region 10 with (fail)
      have RY:=lh ((ae.new w7 (.cells #[(),d8] 31)).alloc (.cells #[(),(),d8] 24));generalize hW8:World.alloc (World.alloc w7 _) _=W8 at *
      clear hW8;have VS:=lh (WS.q RY);have Yd:=lh ((Jfh.q RY).row J);have JgU:=lh ((Jfh.q RY).row Z);have RX:w.heap.size+1+1+1≠w.heap.size+1+1+1+1:=Qa;obtain ⟨t0,t1,y0,y1,-⟩:=aL Yd;obtain ⟨O,hf,ho⟩:=gS (x:=.int .i64 0) (y:=.slice none 0 0) (u:=.int .i64 0) (v:=.int .i64 0) (z:=.slice none 0 0) Yd JgU RX;obtain ⟨SE,E⟩:=aJ (x:=.int .i64 0) (y:=.slice none 0 0) Yd;have D:=E.rowAt JgU Qb;obtain ⟨f0,f1,f2⟩:=ag D;have g0:=Sz _ (w.heap.size+1+1+1+1) 0 _ _ D;have g1:=Sz _ (w.heap.size+1+1+1+1) 1 _ _ D;have g2:=Sz _ (w.heap.size+1+1+1+1) 2 _ _ D;have HC:=lh O;have HF:=lh hf;have HO:=lh ho;clear O hf ho SE E D;go_wp2_with fail;refine TV (v:=.tuple #[.agg #[(),d8],.agg #[(),(),d8],.iface 36 (.int .i64 k)]) (eP results16 _ _ (w.heap.size+1+1+1) (w.heap.size+1+1+1+1) _ _ _ _ _ _ _ _ _ rfl rfl rfl HC HF underlying31 rfl Qc underlying24 rfl Qc) rfl (QF.out _ _ ?_);rw [HE.out];exact ⟨VS.trans HO Qb (fun g hg QH=>by simp only [Pg,Ph,l7] at hg;omega),rfl⟩
     | none =>
      rw [TN] at hm7;obtain ⟨dv,fv,rfl,hid,hif⟩:=hm7;obtain ⟨SN,Zn,UH,QI,Vg,Tt⟩:=eN TN;have QX:=lh (VL SN Zn);have QJ:(bP src prev key q a2.toNat).data.length<=65000:=by
       have h5:=(nl (q:=q.toNat) (reach:=a2.toNat) SN Zn Qa Qa).2;rwa [Int.toNat_of_nonneg UH] at h5
      have hpe:=zw (q:=q.toNat) (reach:=a2.toNat) SN (fun h=>iO (Zn h)) Qa Qa;rw [Int.toNat_of_nonneg UH] at hpe;have hW:=VL hpe.2.1 hpe.2.2.1;have JaE:Hid ((((bP src prev key q a2.toNat).data.length:Int)+8<=most)->FE=.ok (bP src prev key q a2.toNat,(dJ src prev key q a2.toNat).1)):=lh (fun hb=>by rw [Tk.out,HN.1];exact pC TN hb);have HNo:Hid (¬ (((bP src prev key q a2.toNat).data.length:Int)+8<=most)->FE=gN src prev key a2 most (a1+1-(q+1)).toNat (q+1)):=lh (fun hb=>by rw [Tk.out,HN.1,HN.2];exact jG TN hb);clear TN SN Zn UH QI Vg Tt hpe;generalize bP src prev key q a2.toNat=X at *
      generalize dJ src prev key q a2.toNat=Y at *
      obtain ⟨KK,DD⟩:=X;obtain ⟨⟨YW,YH,YP⟩,YM⟩:=Y;simp only at hid hif QJ hW JaE HNo |-
      obtain ⟨rfl,rfl⟩:=hW;have WN:=lh (fun (W:World) (o:ae [] w7 W)=>zq (k:=KK) (hid.quiet o) Qa);have HD:=lh hid;have HY:=lh hif;obtain ⟨d4,c4,rfl,-⟩:=hid.open;obtain ⟨f4,e4,rfl,-⟩:=hif.open;obtain ⟨ND,hND⟩:=bu DD.length
      obtain ⟨I,N⟩:=bu YP.length
      rw [<- hND] at WN JaE HNo HD |-
      rw [<- N] at HY |-
      clear hid hif QJ hND N;have RY:=lh ((ae.new w7 (.cells #[KK,.slice d4 ND c4] 31)).alloc (.cells #[src.W,src.H,.slice f4 I e4] 24));have HVc:Hid (((w7.alloc (.cells #[KK,.slice d4 ND c4] 31)).alloc (.cells #[src.W,src.H,.slice f4 I e4] 24)).heap[w7.heap.size]?=some (.cells #[KK,.slice d4 ND c4] 31)):=lh ((ae.new (w7.alloc _) _).row (Sd w7 _));have M:Hid (((w7.alloc (.cells #[KK,.slice d4 ND c4] 31)).alloc (.cells #[src.W,src.H,.slice f4 I e4] 24)).heap[w7.heap.size+1]?=some (.cells #[src.W,src.H,.slice f4 I e4] 24)):=ak Qb;go_upto_region 10 with (fail)
      generalize hW8:World.alloc (World.alloc w7 _) _=W8 at *
      clear hW8;obtain ⟨VC,hVC⟩:=bu w7.heap.size
      have HVC:=lh hVC;rw [<- hVC] at HVc M |-
      clear hVC;obtain ⟨v0,v1,-⟩:=aL HVc;go_wp2_with fail;clear v0 v1;refine (WN.out W8 RY).mono ?_;rintro e w9 ⟨rfl,SR⟩;have Yc:=lh (RY.q SR);have SP:=lh (WS.q Yc);have UY:w9.heap[w.heap.size+1+1+1]?=some (.cells #[(),d8] 31):=(Jfh.q Yc).row J;have WB:w9.heap[w.heap.size+1+1+1+1]?=some (.cells #[(),(),d8] 24):=(Jfh.q Yc).row Z;obtain ⟨v0,v1,-⟩:=aL (SR.row HVc);obtain ⟨t0,t1,t2⟩:=ag (SR.row M);clear SR WN RY;by_cases WC:(ND:Int)+8<=most
      ·have HE:=lh (JaE.out WC)
       go_wp2_with fail;obtain ⟨x0,x1,y0,y1,-⟩:=aL UY;obtain ⟨SE,E⟩:=aJ (x:=.int .i64 KK) (y:=.slice d4 ND c4) UY;have D:=E.rowAt WB Qb;obtain ⟨f0,f1,f2⟩:=ag D;have g0:=Sz _ (w.heap.size+1+1+1+1) 0 _ _ D;have g1:=Sz _ (w.heap.size+1+1+1+1) 1 _ _ D;have g2:=Sz _ (w.heap.size+1+1+1+1) 2 _ _ D;obtain ⟨O,hf,ho⟩:=gS (x:=.int .i64 KK) (y:=.slice d4 ND c4) (u:=.int .i64 src.W) (v:=.int .i64 src.H) (z:=.slice f4 I e4) UY WB Qa;have F:Hid (VC∉[w.heap.size+1+1+1]/\VC+1∉[w.heap.size+1+1+1]/\VC∉[w.heap.size+1+1+1,w.heap.size+1+1+1+1]/\VC+1∉[w.heap.size+1+1+1,w.heap.size+1+1+1+1]):=lh (by have:=HVC.out;have:=HZ7.1;simp only [i5,Pg,Ph,l7];omega);have q0:=E.drew.cell v0 F.1;have q1:=E.drew.cell v1 F.1;have q2:=E.drew.cell t0 F.2.1;have q3:=E.drew.cell t1 F.2.1;have q4:=E.drew.cell t2 F.2.1;have r0:=ho.drew.cell v0 F.2.2.1;have r1:=ho.drew.cell v1 F.2.2.1;have r2:=ho.drew.cell t0 F.2.2.2;have r3:=ho.drew.cell t1 F.2.2.2;have r4:=ho.drew.cell t2 F.2.2.2;have HC:=lh (iM O);have HF:=lh (iM hf);have WJ:=lh ho.drew;clear O hf SE D UY WB;refine Tf (S:=(fun w'=>w'.cell? ⟨VC,0,none⟩=some (.int .i64 KK)/\w'.cell? ⟨VC,1,none⟩=some (.slice d4 ND c4)/\w'.cell? ⟨VC+1,0,none⟩=some (.int .i64 src.W)/\w'.cell? ⟨VC+1,1,none⟩=some (.int .i64 src.H)/\w'.cell? ⟨VC+1,2,none⟩=some (.slice f4 I e4))) Qc ?_ (fun hHeld=>?_)
       ·exact ⟨v0,v1,t0,t1,t2⟩
       refine tk 0 62 ?_;refine tk 1 63 ?_;refine j9 2 fun K hK=>?_
       go_simp;refine ko hK ⟨q0,q1,q2,q3,q4⟩ fun hHeld=>?_;clear hK K
       refine j9 3 fun K hK=>?_
       go_simp;refine ko hK ⟨r0,r1,r2,r3,r4⟩ fun hHeld=>?_;clear hK K
       refine tk 4 12 ?_;refine Wn Qc ?_ _;go_wp2_with fail;refine TV (v:=.tuple #[.agg #[KK,.slice d4 ND c4],.agg #[src.W,src.H,.slice f4 I e4],.nilIface]) (eP results16 _ _ (w.heap.size+1+1+1) (w.heap.size+1+1+1+1) _ _ _ _ _ _ _ _ _ rfl rfl rfl HC HF underlying31 rfl Qc underlying24 rfl Qc) rfl (QF.out _ _ ?_);rw [HE.out];have hzr:=Wo.out;have hwz:=WS.size;refine ⟨SP.trans WJ (U:=[]) Qb (fun g hg QH=>by simp only [Pg,Ph,l7] at hg;omega),.slice d4 ND c4,.slice f4 I e4,rfl,?_,?_⟩
       ·have h4:=(HD.quiet Yc).only WJ (fun g hg=>by simp only [Pg,Ph,l7] at hg;exact .inl Qa)
        exact h4.mono Qa (Pw Yc.size WJ.size)
       ·have h4:=(HY.quiet Yc).only WJ (fun g hg=>by simp only [Pg,Ph,l7] at hg;exact .inl Qa)
        exact h4.mono Qa (Pw Yc.size WJ.size)
      ·go_wp2_with fail
       exact ⟨⟨q+1,by first | rfl | rw [ZR],lh (j0 Hq.out),lh (HNo.out WC),lh (Jfh.q Yc),lh (fun _=>QX.out)⟩,by have:=HB.out;have:=Hq.out;simp only [intOf];omega⟩
    ·have Jmz:=Jtc.out (l6 HB.out Hq.out)
     have YD:=lh Jmz;have Vi:Hid (FE=.ok (if key then (⟨4,[]⟩,ed src.W src.H 128) else (⟨3,[]⟩,prev))):=lh (by rw [Tk.out,show (a1+1-q).toNat=0 by omega];rfl);have WS:=lh (SJ.q Tz);have Jsq:=lh (Tz.row J);have Jsr:=lh (Tz.row Z);clear Jmz;cases key with
     | true =>
      have SN:=YD.1;have hn:jJ src.W src.H 128=true:=iP.2 ⟨⟨SN.w0,SN.w1,SN.w8⟩,⟨SN.h0,SN.h1,SN.h8⟩,Ql,Ql⟩;have HNw:=lh (wO src.W src.H 128 wr hn);have HE:Hid (FE=.ok (⟨4,[]⟩,⟨src.W,src.H,(ed src.W src.H 128).pix⟩)):=lh Vi;obtain ⟨s0,s1,s2⟩:=ag (Tz.row JsA);obtain ⟨YP,hYP⟩:=bu ((ed src.W src.H 128).pix)
      rw [<- hYP] at HNw HE;obtain ⟨I,N⟩:=bu YP.length
      rw [<- N] at HNw;clear SN hn hYP N Vi YD;go_wp2_with fail;clear s0 s1 s2 k0 k1 k2 k3 k4 k5 k6 k7;refine HNw.mono ?_;rintro e w8 ⟨V,UD,rfl,UG,Vn⟩;have HOw:=lh UG;have HG:=lh (UG.at V rfl);have M:Hid ((w8.alloc (.cells #[src.W,src.H,.slice V I UD] 24)).heap[w8.heap.size]?=some (.cells #[src.W,src.H,.slice V I UD] 24)):=Sd w8 _;have RY:=lh (ae.new w8 (.cells #[src.W,src.H,.slice V I UD] 24));have VS:=lh Vn;have HZ8:Hid (w.heap.size+1+1+1+1+1<=w8.heap.size):=lh (l6 Wo.out Vn.size);clear UG Vn HNw;go_wp2_with fail;generalize hW9:World.alloc w8 _=w9 at *
      clear hW9;obtain ⟨VC,hVC⟩:=bu w8.heap.size
      have HVC:=lh hVC;rw [<- hVC] at M |-
      clear hVC;have Yc:=lh (VS.q RY);have SP:=lh (WS.q Yc);have UY:w9.heap[w.heap.size+1+1+1]?=some (.cells #[(),d8] 31):=Yc.row Jsq;have WB:w9.heap[w.heap.size+1+1+1+1]?=some (.cells #[(),(),d8] 24):=Yc.row Jsr;obtain ⟨t0,t1,t2⟩:=ag M;obtain ⟨x0,x1,y0,y1,-⟩:=aL UY;obtain ⟨SE,E⟩:=aJ (x:=.int .i64 4) (y:=.slice none 0 0) UY;have D:=E.rowAt WB Qb;obtain ⟨f0,f1,f2⟩:=ag D;have g0:=Sz _ (w.heap.size+1+1+1+1) 0 _ _ D;have g1:=Sz _ (w.heap.size+1+1+1+1) 1 _ _ D;have g2:=Sz _ (w.heap.size+1+1+1+1) 2 _ _ D;obtain ⟨O,hf,ho⟩:=gS (x:=.int .i64 4) (y:=.slice none 0 0) (u:=.int .i64 src.W) (v:=.int .i64 src.H) (z:=.slice V I UD) UY WB Qa;have F:Hid (VC∉[w.heap.size+1+1+1]/\VC∉[w.heap.size+1+1+1,w.heap.size+1+1+1+1]):=lh (by have:=HVC.out;have:=HZ8.out;simp only [i5,Pg,Ph,l7];omega);have q2:=E.drew.cell t0 F.1;have q3:=E.drew.cell t1 F.1;have q4:=E.drew.cell t2 F.1;have r2:=ho.drew.cell t0 F.2;have r3:=ho.drew.cell t1 F.2;have r4:=ho.drew.cell t2 F.2;have HC:=lh (iM O);have HF:=lh (iM hf);have WJ:=lh ho.drew;clear O hf SE D UY WB;refine Tf (S:=(fun w'=>w'.cell? ⟨VC,0,none⟩=some (.int .i64 src.W)/\w'.cell? ⟨VC,1,none⟩=some (.int .i64 src.H)/\w'.cell? ⟨VC,2,none⟩=some (.slice V I UD))) Qc ?_ (fun hHeld=>?_)
      ·exact ⟨t0,t1,t2⟩
      refine tk 0 73 ?_;refine tk 1 74 ?_;refine tk 2 75 ?_;refine j9 3 fun K hK=>?_
      go_simp;refine ko hK ⟨q2,q3,q4⟩ fun hHeld=>?_;clear hK K
      refine j9 4 fun K hK=>?_
      go_simp;refine ko hK ⟨r2,r3,r4⟩ fun hHeld=>?_;clear hK K
      refine tk 5 12 ?_;refine Wn Qc ?_ _;go_wp2_with fail;refine TV (v:=.tuple #[.agg #[.int .i64 4,d8],.agg #[src.W,src.H,.slice V I UD],.nilIface]) (eP results16 _ _ (w.heap.size+1+1+1) (w.heap.size+1+1+1+1) _ _ _ _ _ _ _ _ _ rfl rfl rfl HC HF underlying31 rfl Qc underlying24 rfl Qc) rfl (QF.out _ _ ?_);rw [HE.out];have hzr:=Wo.out;have hwz:=WS.size;have hg9:=HG.out;refine ⟨SP.trans WJ (U:=[]) Qb (fun g hg QH=>by simp only [Pg,Ph,l7] at hg;omega),.slice none 0 0,.slice V I UD,rfl,aj.nil _ _ _ _,?_⟩;have h4:=(HOw.quiet RY).only WJ (fun g hg e=>by simp only [Value.ownBlock,PO] at e;simp only [Pg,Ph,l7] at hg;omega);exact h4.ints.mono Qa (Pm _)
     | false =>
      have L:=(iO (YD.2 rfl)).1;have Xk:0<prev.pix.length:=by have h1:(prev.pix.length:Int)=prev.W*prev.H:=L.len;have h2:(8:Int)*8<=prev.W*prev.H:=A3 L.w0 L.h0 Qa (j0 L.w0);omega
      have WF:prev.pix.length<=1000000:=by have h1:(prev.pix.length:Int)=prev.W*prev.H:=L.len;have h2:prev.W*prev.H<=32*32:=A3 L.w1 L.h1 (j0 L.h0) Qa;omega
      have Jro:=lh (UK.out wr WS Xk WF);have HE:Hid (FE=.ok (⟨3,[]⟩,prev)):=lh Vi;have HL0:=lh Xk;have Jsx:=lh (Tz.row Jsw);obtain ⟨p0,p1,p2⟩:=ag Jsx;clear L Xk WF Vi YD;go_wp2_with fail;clear p0 p1 p2 k0 k1 k2 k3 k4 k5 k6 k7;refine Jro.mono ?_;rintro e w8 ⟨v8,rfl,UG,Vn⟩;obtain ⟨V,UD,rfl,JuB,JuC⟩:=UG.form HL0;have HOw:=lh UG;have HG:=lh (VL JuB JuC);have VS:=lh Vn;have HZ8:Hid (w.heap.size+1+1+1+1+1<=w8.heap.size):=lh (l6 Wo.out Vn.size);have hrp:=Vn.row Jsx;have Jsz:=lh (WG _ (w.heap.size+1) 2 _ _ (.slice V prev.pix.length UD) hrp);have RY:Hid (ae [w.heap.size+1] w8 (w8.setCell ⟨w.heap.size+1,2,none⟩ (.slice V prev.pix.length UD))):=lh ((AY).setCell Qb _);obtain ⟨p0,p1,p2⟩:=ag hrp;have u2:=Sz _ (w.heap.size+1) 2 _ _ hrp;clear UG Vn JuB JuC hrp Jro;go_wp2_with fail;generalize hW9:World.setCell w8 _ _=w9 at *
      clear hW9 p0 p1 p2 u2;have M:Hid (w9.heap[w.heap.size+1]?=some (.cells (sT prev V UD) 24)):=Jsz;have UY:w9.heap[w.heap.size+1+1+1]?=some (.cells #[(),d8] 31):=RY.rowAt (VS.row Jsq) Qm;have WB:w9.heap[w.heap.size+1+1+1+1]?=some (.cells #[(),(),d8] 24):=RY.rowAt (VS.row Jsr) Qm;have SP:Hid (ae [] w w9):=lh ((WS.q VS).trans RY (U:=[]) Qb (fun g hg QH=>by simp only [i5] at hg;omega));obtain ⟨I,N⟩:=bu prev.pix.length
      rw [<- N] at M HOw |-
      clear N Jsz;obtain ⟨t0,t1,t2⟩:=ag M;obtain ⟨x0,x1,y0,y1,-⟩:=aL UY;obtain ⟨SE,E⟩:=aJ (x:=.int .i64 3) (y:=.slice none 0 0) UY;have D:=E.rowAt WB Qb;obtain ⟨f0,f1,f2⟩:=ag D;have g0:=Sz _ (w.heap.size+1+1+1+1) 0 _ _ D;have g1:=Sz _ (w.heap.size+1+1+1+1) 1 _ _ D;have g2:=Sz _ (w.heap.size+1+1+1+1) 2 _ _ D;obtain ⟨O,hf,ho⟩:=gS (x:=.int .i64 3) (y:=.slice none 0 0) (u:=.int .i64 prev.W) (v:=.int .i64 prev.H) (z:=.slice V I UD) UY WB Qa;have F:Hid (w.heap.size+1∉[w.heap.size+1+1+1]/\w.heap.size+1∉[w.heap.size+1+1+1,w.heap.size+1+1+1+1]):=lh (by simp only [i5,Pg,Ph,l7];omega);have q2:=E.drew.cell t0 F.1;have q3:=E.drew.cell t1 F.1;have q4:=E.drew.cell t2 F.1;have r2:=ho.drew.cell t0 F.2;have r3:=ho.drew.cell t1 F.2;have r4:=ho.drew.cell t2 F.2;have HC:=lh (iM O);have HF:=lh (iM hf);have WJ:=lh ho.drew;clear O hf SE D UY WB;refine Tf (S:=(fun w'=>w'.cell? ⟨w.heap.size+1,0,none⟩=some (.int .i64 prev.W)/\w'.cell? ⟨w.heap.size+1,1,none⟩=some (.int .i64 prev.H)/\w'.cell? ⟨w.heap.size+1,2,none⟩=some (.slice V I UD))) Qc ?_ (fun hHeld=>?_)
      ·exact ⟨t0,t1,t2⟩
      refine tk 0 80 ?_;refine tk 1 81 ?_;refine j9 2 fun K hK=>?_
      go_simp;refine ko hK ⟨q2,q3,q4⟩ fun hHeld=>?_;clear hK K
      refine j9 3 fun K hK=>?_
      go_simp;refine ko hK ⟨r2,r3,r4⟩ fun hHeld=>?_;clear hK K
      refine tk 4 12 ?_;refine Wn Qc ?_ _;go_wp2_with fail;refine TV (v:=.tuple #[.agg #[.int .i64 3,d8],.agg #[prev.W,prev.H,.slice V I UD],.nilIface]) (eP results16 _ _ (w.heap.size+1+1+1) (w.heap.size+1+1+1+1) _ _ _ _ _ _ _ _ _ rfl rfl rfl HC HF underlying31 rfl Qc underlying24 rfl Qc) rfl (QF.out _ _ ?_);rw [HE.out];have hzr:=Wo.out;have hwz:=WS.size;have hg9:=HG.out;refine ⟨SP.trans WJ (U:=[]) Qb (fun g hg QH=>by simp only [Pg,Ph,l7] at hg;omega),.slice none 0 0,.slice V I UD,rfl,aj.nil _ _ _ _,?_⟩;have h4:=(HOw.only RY (fun g hg e=>by simp only [Value.ownBlock,PO] at e;rw [i5] at hg;omega)).only WJ (fun g hg e=>by simp only [Value.ownBlock,PO] at e;simp only [Pg,Ph,l7] at hg;omega);exact h4.ints.mono Qa (Pm _)
end
theorem Ew (a b c:Value):(prog.info? 24).map (·.size)=some (#[a,b,c]:Array Value).size:=by show _=some 3;kernel_rfl
theorem El (a b:Value):(prog.info? 31).map (·.size)=some (#[a,b]:Array Value).size:=by show _=some 2;kernel_rfl
theorem gD {w:World} {o:Oper} {a:Act} {K:Act->World->Prop} {Q:Exit->Act->World->Prop} (x y:Operand) (t:TypeId) (E:o.op=.store t x y)
  {g:Nat} {c c':Array Value} {ty:TypeId} (hx:a.eval x=.pointer g) (I:a.eval y=.agg c') (hr:w.heap[g]?=some (.cells c ty)) (hi:(prog.info? t).map (·.size)=some c'.size) (F:c.size=c'.size) (h1:c'.all (·.oneCell')=true)
  (h:∀ w',ae [g] w w'->w'.heap[g]?=some (.cells c' ty)->K (a.put o.dst undef) w'):o.wp prog a w K Q:=by
 have D:=h _ (ae.setRow (AY) (fun _=>Qb) _) (m7 _ _ _ _ _ _ hr);unfold Oper.wp execOp;simp only [E,hx,I,Instr.storeAt,Instr.sureAddr,Sem.run_bind,Sem.run_pure,Result.andThen_ok,run_storeVar_row w g ty t c c' hr hi F h1];exact D
section
theorem GS (c:j3) (W H n:Int) (w:World) :
  Calls prog 15 #[c.v,W,H,n] w fun e w'=>(∃ b,e=.returned (.bool b))/\ae [] w w':=by
 refine aK fun Q F=>?_
 obtain ⟨a0,a1,a2,a3,a4,a5,a6,a7⟩:=c;unfold j3.v;have D:=ae.new w (.cells #[a0,a1,a2,a3,a4,a5,a6,a7] 47);have E:=lh D;clear D;go_enter func15,ntmps15;go_wp2_with fail
 all_goals
  exact F.out _ _ ⟨⟨_,rfl⟩,E.out⟩
end
def cU (v:Int):ah:=⟨8,8,List.replicate 64 v⟩
section
end
set_option linter.constructorNameAsVariable false
theorem sS {src prev:ah} {key:Bool} {reach:Int}:∀ (n:Nat) (q:Int),(∀ i:Nat,i<n->cy src prev key (q+i) reach=none)->gN src prev key reach 8 n q=.ok (if key then (⟨4,[]⟩,ed src.W src.H 128) else (⟨3,[]⟩,prev))
 | 0,_,_=>rfl
 | n+1,q,h=>by
  have h0:=h 0 Qa;rw [show q+((0:Nat):Int)=q by omega] at h0;rw [jG h0 (by unfold bP;simp only [Pq];omega)];exact sS n (q+1) (fun i hi=>by have:=h (i+1) Qa;rw [show q+((i+1:Nat):Int)=q+1+(i:Int) by omega] at this;exact this)
theorem vJ {src prev:ah} {key:Bool} {q reach:Int} (h1:cT src=true) (D:(!key && !ej prev src.W src.H)=false) (E:0<=q/\q<=15) (F:0<=reach/\reach<=7):cy src prev key q reach=none:=by
 unfold cy;rw [if_neg (by rw [h1];decide),if_neg (by rw [D];decide),if_neg Qa]
theorem Ih (v:Int) (h:0<=v/\v<=255):cT (cU v)=true:=dp.2 ⟨(by decide:(8:Int)<=8),(by decide:(8:Int)<=32),(by decide:(8:Int) % 8=0),(by decide:(8:Int)<=8),(by decide:(8:Int)<=32),(by decide:(8:Int) % 8=0),by rfl,fun x hx=>by have:=(List.mem_replicate.1 hx).2;omega⟩
theorem cC {p:Prop} (h:p:=by intro wz Rb;obtain ⟨Un,h0,h1⟩:=Rb;obtain ⟨k0,k1,k2,k3,k4,k5,k6,k7⟩:=bJ Un;go_simp;try with_reducible rfl):p:=h
section
theorem Bf {p:Prop} (h:p:=by
 refine tk 20 25 ?_;refine tk 21 4 ?_;refine Wn Qc ?_ _;go_wp2_with fail;exact QF.out _ _ ⟨⟨_,rfl,Qb⟩,by first | exact QO.q QW | exact QO.q QW.drew⟩):p:=h
theorem CQ {lo hi:Nat} {v:Value} {l:List ah} {a0 a1 a2 a3 a4 a5 a6 a7:Int} {w:World} (h:aZ lo hi w v l) :
  Calls prog 19 #[.agg #[a0,a1,a2,a3,a4,a5,a6,a7],v] w fun e w'=>(∃ b,e=.returned (.bool b)/\(b=true->vh l=true))/\ae [] w w':=by
 refine aK fun Q QF=>?_
 have N:=lh (fun (W:World) (o:ae [] w W)=>MK (h.quiet o));have J:=ae.new w (.cells #[a0,a1,a2,a3,a4,a5,a6,a7] 47);have QO:=lh J;have L:=lh (Sd w (.cells #[a0,a1,a2,a3,a4,a5,a6,a7] 47));obtain ⟨a,cap,rfl,Sv,Z,M⟩:=h.open;have Th:(l.length:Int)<=9223372036854775807:=by unfold maxLen at Z;omega
 clear h Sv Z;generalize hP:vh l=P at *
 clear hP;cases P with
 | false =>
  clear M;go_enter func19,ntmps19;go_upto_region 1 with (fail)
  generalize F:World.alloc w _=W1 at *
  clear F;refine Tf (S:=(fun _=>True)) Qc ?_ (fun hHeld=>?_)
  ·trivial
  refine tk 0 5 ?_;refine j6 1 6 fun K hK=>?_
  go_simp;refine (N.out _ (gf QO)).mono ?_;rintro e I ⟨rfl,D⟩;have QW:Hid (ae [] W1 I):=lh (by rw [<- D];first | exact AY | exact (AY).drew);clear D;refine hK.out _ _ ?_ (fun hHeld=>?_)
  ·trivial
  clear hK K
  try simp only [Act.put,Pf,Pi,Pj]
  refine tk 2 7 ?_;refine l9 3 8 ?_;refine l9 4 9 ?_;refine l9 5 10 ?_;refine l9 6 11 ?_;refine l9 7 12 ?_;refine l9 8 13 ?_;refine l9 9 14 ?_;refine l9 10 15 ?_;refine l9 11 16 ?_;refine l9 12 17 ?_;refine l9 13 18 ?_;refine l9 14 19 ?_;refine l9 15 20 ?_;refine l9 16 21 ?_;refine l9 17 22 ?_;refine l9 18 23 ?_;refine l9 19 24 ?_;exact Bf
 | true =>
  by_cases V:l.length=0
  ·obtain rfl:l=[]:=List.eq_nil_of_length_eq_zero V
   clear M V;go_enter func19,ntmps19;go_upto_region 1 with (fail)
   generalize F:World.alloc w _=W1 at *
   clear F;refine Tf (S:=(fun _=>True)) Qc ?_ (fun hHeld=>?_)
   ·trivial
   refine tk 0 5 ?_;refine j6 1 6 fun K hK=>?_
   go_simp;refine (N.out _ (gf QO)).mono ?_;rintro e I ⟨rfl,D⟩;have QW:Hid (ae [] W1 I):=lh (by rw [<- D];first | exact AY | exact (AY).drew);clear D;refine hK.out _ _ ?_ (fun hHeld=>?_)
   ·trivial
   clear hK K
   try simp only [Act.put,Pf,Pi,Pj]
   refine tk 2 7 ?_;refine tk 3 8 ?_;refine tk 4 9 ?_;refine tk 5 10 ?_;refine tk 6 11 ?_;refine l9 7 12 ?_;refine l9 8 13 ?_;refine l9 9 14 ?_;refine l9 10 15 ?_;refine l9 11 16 ?_;refine l9 12 17 ?_;refine l9 13 18 ?_;refine l9 14 19 ?_;refine l9 15 20 ?_;refine l9 16 21 ?_;refine l9 17 22 ?_;refine l9 18 23 ?_;refine tk 19 24 ?_;exact Bf
  ·have TK:0<l.length:=Qa
   have Jvf:(0:Int)<(l.length:Int):=Qa;have q0:((l.length:Int) == 0)=false:=Qk;obtain ⟨b0,off,dv,rfl,-,-,h0,h1,-,-⟩:=M 0 TK;have Y:=lh (fun (W:World)=>GS ⟨a0,a1,a2,a3,a4,a5,a6,a7⟩ (l.getD 0 default).W (l.getD 0 default).H l.length W);unfold j3.v at Y;rw [Nat.zero_mul,Nat.add_zero] at h0 h1;generalize (l.getD 0 default).W=W at *
   generalize (l.getD 0 default).H=H at *
   have h0:=J.cell h0 Qb;have h1:=J.cell h1 Qb;clear M V J;go_enter func19,ntmps19;go_upto_region 1 with (fail)
   generalize F:World.alloc w _=W1 at *
   clear F;refine Tf (S:=(fun wz=>wz.heap[w.heap.size]?=some (.cells #[a0,a1,a2,a3,a4,a5,a6,a7] 47)/\wz.cell? ⟨b0,off,none⟩=some (.int .i64 W)/\wz.cell? ⟨b0,off+1,none⟩=some (.int .i64 H))) Qc ?_ (fun hHeld=>?_)
   ·first | exact ⟨L,h0,h1⟩ | exact ⟨(ae.refl [] W1).drew.row L,(ae.refl [] W1).drew.cell h0 Qb,(ae.refl [] W1).drew.cell h1 Qb⟩
   refine e9 0 5 ⟨rfl,cC⟩ ?_;refine j6 1 6 fun K hK=>?_
   go_simp;refine (N.out _ (gf QO)).mono ?_;rintro e I ⟨rfl,D⟩;have QW:Hid (ae [] W1 I):=lh (by rw [<- D];first | exact AY | exact (AY).drew);clear D;refine ko hK ⟨QW.row L,QW.cell h0 Qb,QW.cell h1 Qb⟩ fun hHeld=>?_;clear hK K
   refine e9 2 7 ⟨rfl,cC⟩ ?_;refine e9 3 8 ⟨rfl,cC⟩ ?_;refine e9 4 9 ⟨rfl,cC⟩ ?_;refine e9 5 10 ⟨rfl,cC⟩ ?_;refine e9 6 11 ⟨rfl,cC⟩ ?_;refine e9 7 12 ⟨rfl,cC⟩ ?_;refine e9 8 13 ⟨rfl,cC⟩ ?_;refine e9 9 14 ⟨rfl,cC⟩ ?_;refine e9 10 15 ⟨rfl,cC⟩ ?_;refine e9 11 16 ⟨rfl,cC⟩ ?_;refine e9 12 17 ⟨rfl,cC⟩ ?_;refine e9 13 18 ⟨rfl,cC⟩ ?_;refine e9 14 19 ⟨rfl,cC⟩ ?_;refine e9 15 20 ⟨rfl,cC⟩ ?_;refine e9 16 21 ⟨rfl,cC⟩ ?_;refine e9 17 22 ⟨rfl,cC⟩ ?_;refine j6 18 23 fun K hK=>?_
   go_simp;refine (Y.out _).mono ?_;rintro e w4 ⟨⟨bb,rfl⟩,O⟩;have E:Hid (ae [] W1 w4):=lh (by first | exact QW.q O | exact QW.drew.q O);clear O;refine ko hK ⟨E.row L,E.cell h0 Qb,E.cell h1 Qb⟩ fun hHeld=>?_;clear hK K
   refine e9 19 24 ⟨rfl,cC⟩ ?_;refine e9 20 25 ⟨rfl,cC⟩ ?_;refine e9 21 4 ⟨rfl,cC⟩ ?_;refine Wn Qc ?_ _;go_wp2_with fail;exact QF.out _ _ ⟨⟨_,rfl,Qb⟩,by first | exact QO.q E | exact QO.q E.drew⟩
end
end Go.Proofs.YthcafdfdglfabaaGreatDoor
