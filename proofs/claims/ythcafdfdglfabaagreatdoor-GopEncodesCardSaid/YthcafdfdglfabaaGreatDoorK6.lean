/- Joined texts: DSqr, DPartsD, DCode, DQuant, DValues, DClp, DAdd. Conditions: each part names its own. -/
import Derived.Test.YthcafdfdglfabaaGreatDoorWC
import Derived.Test.YthcafdfdglfabaaGreatDoorWE
import Derived.Conc.MuLone
namespace Go.Proofs.YthcafdfdglfabaaGreatDoor
open Tryz
open Go.RowKit
set_option linter.unusedVariables false
set_option linter.unusedSimpArgs false
set_option maxRecDepth 100000
set_option maxHeartbeats 16000000
abbrev ai:Value:=.slice none 0 0
def j1 (k mo:Int) (ms:List Int) (vx vy:Int) (lv:Value) (vs:List Value):List Value :=
 [.int .i64 k,.int .i64 mo] ++ ms.map (.int .i64 ·) ++ [.int .i64 vx,.int .i64 vy,lv] ++ vs
theorem ix {α:Type} {l:List α} (h:l.length=4):∃ a b c d,l=[a,b,c,d]:=by
 match l,h with
 | [a,b,c,d],_=>exact ⟨a,b,c,d,rfl⟩
section
variable {k mo:Int} {ms:List Int} {vx vy:Int} {lv:Value} {vs:List Value}
theorem kS (D:ms.length=4) (E:vs.length=4):(j1 k mo ms vx vy lv vs).length=13:=by simp [j1,D,E]
theorem iZ:(j1 k mo ms vx vy lv vs).toArray[0]?=some (.int .i64 k):=rfl
theorem ij (D:ms.length=4) {i:Nat} (hi:i<4):(j1 k mo ms vx vy lv vs).toArray[2+i]?=some (.int .i64 (ms.getD i 0)):=by
 obtain ⟨a,b,c,d,rfl⟩:=ix D
 match i,hi with
 | 0,_=>rfl
 | 1,_=>rfl
 | 2,_=>rfl
 | 3,_=>rfl
theorem dO (D:ms.length=4) (E:vs.length=4) {i:Nat} (hi:i<4):(j1 k mo ms vx vy lv vs).toArray[9+i]?=some (vs.getD i ai):=by
 obtain ⟨a,b,c,d,rfl⟩:=ix D;obtain ⟨e,f,g,h,rfl⟩:=ix E
 match i,hi with
 | 0,_=>rfl
 | 1,_=>rfl
 | 2,_=>rfl
 | 3,_=>rfl
theorem kR (D:ms.length=4):(j1 k mo ms vx vy lv vs).toArray[8]?=some lv:=by
 obtain ⟨a,b,c,d,rfl⟩:=ix D
 rfl
theorem rJ (D:ms.length=4) {i:Nat} (hi:i<4) (x:Int):(j1 k mo ms vx vy lv vs).toArray.setIfInBounds (2+i) (.int .i64 x)=(j1 k mo (ms.set i x) vx vy lv vs).toArray:=by
 obtain ⟨a,b,c,d,rfl⟩:=ix D
 match i,hi with
 | 0,_=>simp [j1]
 | 1,_=>simp [j1]
 | 2,_=>simp [j1]
 | 3,_=>simp [j1]
theorem qx (D:ms.length=4) (E:vs.length=4) {i:Nat} (hi:i<4) (x:Value):(j1 k mo ms vx vy lv vs).toArray.setIfInBounds (9+i) x=(j1 k mo ms vx vy lv (vs.set i x)).toArray:=by
 obtain ⟨a,b,c,d,rfl⟩:=ix D;obtain ⟨e,f,g,h,rfl⟩:=ix E
 match i,hi with
 | 0,_=>simp [j1]
 | 1,_=>simp [j1]
 | 2,_=>simp [j1]
 | 3,_=>simp [j1]
theorem uz (x:Int):(j1 k mo ms vx vy lv vs).toArray.setIfInBounds 0 (.int .i64 x)=(j1 x mo ms vx vy lv vs).toArray:=by
 simp [j1]
end
abbrev bI (O:Nat) (w:World) (k mo:Int) (ms:List Int) (vx vy:Int) (lv:Value) (vs:List Value):Prop :=
 w.heap[O]?=some (.cells (j1 k mo ms vx vy lv vs).toArray 76)
structure ep (lo hi:Nat) (w:World) (lv:Value) (vs:List Value) (L:List Int) (S:List (List Int)):Prop where
 large:aj .i64 lo hi w lv L
 len:vs.length=4
 small:∀ i,i<4->aj .i64 lo hi w (vs.getD i ai) (S.getD i [])
theorem ep.only {lo hi:Nat} {w w':World} {lv:Value} {vs:List Value} {L:List Int} {S:List (List Int)} {T:List Nat} (h:ep lo hi w lv vs L S) (o:ae T w w') (hT:∀ g∈T,g<lo\/hi<=g):ep lo hi w' lv vs L S :=
 ⟨h.large.only o hT,h.len,fun i hi=>(h.small i hi).only o hT⟩
section
variable {O:Nat} {w:World} {k mo:Int} {ms:List Int} {vx vy:Int} {lv:Value} {vs:List Value}
theorem bI.set (h:bI O w k mo ms vx vy lv vs) {i:Nat} {x:Value} {k' mo':Int} {ms':List Int} {vx' vy':Int} {lv':Value} {vs':List Value} (e:(j1 k mo ms vx vy lv vs).toArray.setIfInBounds i x=(j1 k' mo' ms' vx' vy' lv' vs').toArray) :
  bI O (w.setCell ⟨O,i,none⟩ x) k' mo' ms' vx' vy' lv' vs'/\ae [O] w (w.setCell ⟨O,i,none⟩ x):=by
 have hr:=WG w O i _ _ x h;rw [e] at hr;exact ⟨hr,(AY).setCell Qb _⟩
theorem bI.cell (h:bI O w k mo ms vx vy lv vs) {i:Nat} {x:Value} (e:(j1 k mo ms vx vy lv vs).toArray[i]?=some x):w.cell? ⟨O,i,none⟩=some x:=by
 rw [RG h,e]
end
theorem xp {ms:List Int} (h:ms.length=4) {k:Nat} (D:k<4) (x:Int):(ms.set k x).take (k+1)=ms.take k ++ [x]:=by
 obtain ⟨a,b,c,d,rfl⟩:=ix h
 match k,D with
 | 0,_=>rfl
 | 1,_=>rfl
 | 2,_=>rfl
 | 3,_=>rfl
section
variable {lo hi R D O lo' hi':Nat} {bv v lv:Value} {vs:List Value} {w:World} {m:j7}
end
section
variable {P:Program}
end
theorem eh {k mo:Int} {ms:List Int} {vx vy:Int} {lv:Value} {vs:List Value} (D:lv.oneCell'=true) (E:∀ v∈vs,v.oneCell'=true):(j1 k mo ms vx vy lv vs).toArray.all (·.oneCell')=true:=by
 rw [Array.all_eq_true_iff_forall_mem];intro v h;simp only [j1,List.mem_toArray,B0,Pg,x8,Ph,l7] at h;rcases h with (((rfl | rfl) | ⟨x,_,rfl⟩) | (rfl | rfl | rfl)) | h
 ·rfl
 ·rfl
 ·rfl
 ·rfl
 ·rfl
 ·exact D
 ·exact E v h
theorem jK:∀ v∈[ai,ai,ai,ai],v.oneCell'=true:=by
 intro v h;simp only [Pg,Ph,l7,or_self] at h;rw [h];rfl
theorem iY {k mo:Int} {ms:List Int} {vx vy:Int} {lv:Value} {vs:List Value} (D:ms.length=4) (E:vs.length=4):(prog.info? 76).map (·.size)=some (j1 k mo ms vx vy lv vs).toArray.size:=by
 rw [List.size_toArray,kS D E];kernel_rfl
theorem dD {k mo:Int} {ms:List Int} {vx vy:Int} {lv:Value} {vs:List Value} {k' mo':Int} {ms':List Int} {vx' vy':Int} {lv':Value} {vs':List Value} (F:ms.length=4) (I:vs.length=4) (D:ms'.length=4) (E:vs'.length=4):(j1 k mo ms vx vy lv vs).toArray.size=(j1 k' mo' ms' vx' vy' lv' vs').toArray.size:=by
 rw [List.size_toArray,List.size_toArray,kS F I,kS D E]
theorem cw {P:Program} {J:Func} {p q:Tmp} {ty:TypeId} (h:J.results=#[.cell p ty,.tmp q]) (D:Array Value) (w:World) (g:Nat) (t:TypeId) (E:Array Value) (fr:Nat×Nat) (d:TypeDesc) (v:Value)
  (hp:D.getD p undef=.pointer g) (hq:D.getD q undef=v) (M:w.heap[g]?=some (.cells E t fr))
  (hu:P.underlying ty=some d) (L:(match d with | .struct _ | .array _ _=>true | _=>false)=true) (hi:(P.info? ty).map (·.size)=some E.size) :
  (results J D).run P w=.ok (.tuple #[.agg E,v]) w:=by
 have F:D[p]?.getD undef=.pointer g:=Qw;have I:D[q]?.getD undef=v:=Qx;simp [results,h,F,I,asAddr,run_loadVar_row w g t ty E fr d M hu L hi]
theorem ep.one {lo hi:Nat} {w:World} {lv:Value} {vs:List Value} {L:List Int} {S:List (List Int)} (h:ep lo hi w lv vs L S):lv.oneCell'=true/\∀ v∈vs,v.oneCell'=true:=by
 refine ⟨by obtain ⟨a,c,e,-⟩:=h.large.open;rw [e];rfl,fun v D=>?_⟩;obtain ⟨i,hi,rfl⟩:=List.mem_iff_getElem.1 D;obtain ⟨a,c,e,-⟩:=(h.small i (j0 h.len)).open;rw [Pd,Pe hi] at e;simp only [Option.getD_some] at e;rw [e];rfl
def qU:Array Value:=#[.int .i64 1,.int .i64 2,.int .i64 4,.int .i64 6,.int .i64 8,.int .i64 12,.int .i64 16,.int .i64 24,.int .i64 32,.int .i64 48,.int .i64 64,.int .i64 96,.int .i64 128,.int .i64 192,.int .i64 256,.int .i64 384]
section
theorem Ip (w:World):Calls prog 222 #[] w fun e w'=>e=.returned (.agg qU)/\ae [] w w':=by
 have D:=lh (ae.new w);go_enter func222,ntmps222;go_wp2;exact TV (v:=.agg qU) (results_cell_row results222 _ _ w.heap.size _ _ _ _ rfl (LD) underlying297 rfl Qc) rfl ⟨rfl,D.out _⟩
theorem uF {n:Nat} (h:n<=15):n=0\/n=1\/n=2\/n=3\/n=4\/n=5\/n=6\/n=7\/n=8\/n=9\/n=10\/n=11\/n=12\/n=13\/n=14\/n=15:=Qa
theorem BF (n:Nat) (D:n<=15) (w:World):(Instr.index 297 (.agg qU) (.int .i64 n)).run prog w=.ok (.int .i64 (bg n)) w:=by
 rcases uF D with rfl | rfl | rfl | rfl | rfl | rfl | rfl | rfl | rfl | rfl | rfl | rfl | rfl | rfl | rfl | rfl <;> kernel_rfl
theorem qA (n:Nat) (I:n<=15) (w:World):Calls prog 187 #[n] w fun e w'=>e=.returned (.tuple #[.int .i64 (bg n),.nilIface])/\ae [] w w':=by
 refine aK fun Q F=>?_
 have h0:¬ (n:Int)<0:=Qa;have h1:¬ (15:Int)<n:=Qa;have J:(0:Int)<=n:=Qa;have L:(n:Int)<16:=Qa;have M:=BF n I;go_enter func187,ntmps187;go_wp2_with fail;refine (Ip _).mono ?_;rintro e w1 ⟨rfl,D⟩;have E:=lh D;clear D;go_wp2_with fail;exact F.out _ _ ⟨rfl,E.out⟩
theorem Iz (v:Int) (n:Nat) (E:n<=15) (I:-16320<=v/\v<=16320) (w:World):Calls prog 226 #[v,n] w fun e w'=>e=.returned (.tuple #[.int .i64 (v*bg n),.nilIface])/\ae [] w w':=by
 refine aK fun Q L=>?_
 have h0:¬ v < -16320:=Qa;have h1:¬ (16320:Int)<v:=Qa;have D:0<=bg n/\bg n<=384:=by
  rcases uF E with rfl | rfl | rfl | rfl | rfl | rfl | rfl | rfl | rfl | rfl | rfl | rfl | rfl | rfl | rfl | rfl <;> decide
 have N:i7 .i64 (v*bg n):=by
  have a:v*bg n<=16320*384:=Int.le_trans (B2 I.2 D.1) (C8 D.2 Ql);have b:-16320*384<=v*bg n:=Int.le_trans (Int.mul_le_mul_of_nonpos_left Ql D.2) (B2 I.1 D.1);simp only [i7];omega
 go_enter func226,ntmps226;go_wp2_with fail;refine (qA n E _).mono ?_;rintro e w1 ⟨rfl,F⟩;have J:=lh F;clear F;generalize bg n=st at *
 have M:wrap64 (v*st)=v*st:=by simp only [i7] at N;unfold wrap64;omega
 go_wp2_with fail;refine L.out _ _ ⟨?_,J.out⟩;simp [M]
end
theorem qz {n:Nat} (D:n<=15):0<=bg n/\bg n<=384:=by
 rcases uF D with rfl | rfl | rfl | rfl | rfl | rfl | rfl | rfl | rfl | rfl | rfl | rfl | rfl | rfl | rfl | rfl <;> decide
theorem nc {v s:Int} (E:-16320<=v/\v<=16320) (D:0<=s/\s<=384):-6266880<=v*s/\v*s<=6266880 :=
 ⟨Int.le_trans (Int.mul_le_mul_of_nonpos_left (a:=-16320) Ql D.2) (B2 E.1 D.1),Int.le_trans (B2 E.2 D.1) (C8 D.2 Ql)⟩
theorem Ee {lo hi:Nat} {v:Value} {l:List Int} {w:World} (h:aj .i64 lo hi w v l) (hl:l.length<=64) (Re:cE l) (n:Nat) (O:n<=15) :
  Calls prog 201 #[v,n] w fun e w'=>∃ v',e=.returned (.tuple #[v',.nilIface])/\f9 .i64 3 w.heap.size w' v' (cM l n)/\ae [] w w':=by
 refine aK fun Q QF=>?_
 obtain ⟨la,Rl,rfl,-,-,RO,Y⟩:=h.open;have TT:=lh RO;have Rm:=lh Y;have hs:=qz O;clear h RO Y;have YL:=lh Re;go_enter func201,ntmps201;go_wp2_with fail;refine (qA n O _).mono ?_;rintro e w1 ⟨rfl,hq⟩;have QO:=lh hq;clear hq;have VJ:=fun (x:Int) (hx:-16320<=x/\x<=16320) (W:World)=>Iz x n O hx W
 have HV:=lh VJ;have HD:Hid (cM l n=l.map fun v=>v*bg n):=lh rfl;clear VJ;generalize bg n=st at *
 go_wp2_with fail;go_loopw [8,23] (fun y i wr=>∃ k:Nat,k<=l.length/\i=.int .i64 k/\f9 .i64 3 w.heap.size wr y ((l.take k).map fun v=>v*st)/\bj w.heap.size y/\ae [] w wr) (fun _ i _=>l.length-(intOf i).toNat)
 case atStart=>exact ⟨0,Qa,rfl,f9.nil _ _ _ _,bj.nil _,QO.out⟩
 case round =>
  obtain ⟨k,hk,rfl,V,Rn,I⟩:=hrel;have D:=lh V;have E:=lh Rn;have M:=lh I;clear V Rn I;by_cases F:k<l.length
  ·have Rt:(k:Int)<(l.length:Int):=Qa
   have RA:(0:Int)<=(k:Int):=Qa;obtain ⟨b,off,rfl,_,_⟩:=TT.out k F;have hc:=M.cell (Rm.out b off rfl k F) Qb;have hx:-16320<=l.getD k 0/\l.getD k 0<=16320:=YL.out _ (by rw [Pd,Pe F];exact PG _);have Wp:Hid ((l.take (k+1)).map (fun v=>v*st)=(l.take k).map (fun v=>v*st) ++ [l.getD k 0*st]):=lh (by
    rw [UJ F,PN,Pd,Pe F];rfl)
   generalize l.getD k 0=x at *
   have hxs:=nc hx hs;have Z:∀ y∈[x*st],i7 .i64 y:=by simp only [i5,n7,i7];omega
   have RI:=lh (fun (W:World)=>aU (k:=.i64) (w:=W) (t:=3) (l:=[x*st]) rfl Qj Z 1 rfl rfl);have TU:=lh (show (((l.take k).map fun v=>v*st).length+[x*st].length)*8<=140737488355328 by simp;omega);have Ra:=lh (show (((l.take k).map fun v=>v*st) ++ [x*st]).length=k+1 by simp;omega);go_wp2_with fail;refine (HV.out x hx _).mono ?_;rintro e w2 ⟨rfl,L⟩;have QT:=lh L;have WI:=lh (D.quiet L);have Tn:=lh (fun (o:Obj)=>(show w.heap.size<=(w2.alloc o).heap.size by have:=M.size;have:=L.size;simp;omega));clear Z L hc
   go_wp2_with (first
    | (at_builtin;refine au rfl (.tmp 36) (.tmp 38) _ rfl EI (WI.quiet (BS)) rfl (RI.out _) rfl TU (Tn.out _) (fun v1 w3 J N=>?_);obtain ⟨x1,SV,RZ,_⟩:=J.ints.open;subst RZ;rw [Ra.out] at J N |-;have SD:=lh J;have Sa:=lh N;clear J N)
    | fail)
   exact ⟨⟨k+1,Qa,Qh,by rw [Wp.out];exact SD,Sa.from_ E.out (Tn.out _),((M.q QT).q (BS)).acc Sa.out E.out⟩,Qf⟩
  ·obtain rfl:k=l.length:=Qa
   have Rt:¬ (l.length:Int)<(l.length:Int):=Qa;rw [List.take_length] at D;go_wp2_with fail;refine QF.out _ _ ⟨_,rfl,?_,M.out⟩;rw [HD.out];exact D
theorem yZ (v:Int) (w:World):Calls prog 147 #[v] w fun e w'=>e=.returned (.int .i64 (fj v))/\w=w':=by
 go_enter func147,ntmps147;go_wp2
 all_goals
  go_ret;exact ⟨ee (by unfold fj;first | rfl | omega | (split <;> omega)),rfl⟩
theorem Ed (l:List Int) (q:Int) {k:Nat} (h:k<l.length):(cM l q).getD k 0=l.getD k 0*bg q:=by
 unfold cM;rw [Pd,Pz,Pe h,Pd,Pe h]
 rfl
theorem jb {l:List Int} (h:cE l) {n:Nat} (E:n<=15):dg 6266880 (cM l n):=by
 intro k D;rw [ei] at D;rw [Ed l n D];exact nc (h _ (by rw [Pd,Pe D];exact PG _)) (qz E)
theorem Mg {p l:List Int} (h:p.length=l.length) (qp:Int) {k:Nat} (D:k<p.length):(gU p l qp).getD k 0=fj (p.getD k 0+(ce l qp).getD k 0):=by
 have h1:k<(ce l qp).length:=by rw [gR];omega
 unfold gU;rw [Pd,List.getElem?_zipWith,Pe D,Pe h1,Pd,Pe D,Pd,Pe h1]
 rfl
section
theorem LG {lo hi:Nat} {v:Value} {l:List Int} {w:World} (h:aj .i64 lo hi w v l) (Z:l.length=16\/l.length=64) (F:cE l) (n:Nat) (hn:n<=15) :
  Calls prog 146 #[v,n] w fun e w'=>∃ v',e=.returned v'/\f9 .i64 3 w.heap.size w' v' (ce l n)/\dg 401080320 (ce l n)/\ae [] w w':=by
 refine aK fun Q QF=>?_
 have HV:=lh (Ee h Qa F n hn);have HI:=lh (fun (lo hi:Nat) (v:Value) (wx:World) (hx:aj .i64 lo hi wx v (cM l n))=>zR hx (dn ei Z) (jb F hn));have J:Hid (ce l n=bS (cM l n)):=lh rfl;have D:=lh (ei l n);have Xk:16<=l.length:=Qa;obtain ⟨a,cap,rfl,_⟩:=h.open;clear h Z F;generalize ce l n=R at *
 generalize cM l n=V at *
 generalize bS V=I at *
 go_enter func146,ntmps146;go_wp2_with fail;refine HV.mono ?_;rintro e w1 ⟨v1,rfl,E,L⟩;obtain ⟨g,Sk,rfl,ST,Rj⟩:=E.form (j0 D.out);have SD:=lh E;have N:=lh L;clear E L ST Rj;go_wp2_with fail;refine (HI.out _ _ _ w1 SD.ints).mono ?_;rintro e w2 ⟨v2,rfl,O,Y,M⟩;have WI:=lh O;have QT:=lh M;have HA:=lh Y;clear O M Y;go_wp2_with fail;refine QF.out _ _ ⟨v2,rfl,?_,?_,N.q QT.out⟩
 ·rw [J.out];exact WI.lower N.size
 ·rw [J.out];exact HA
theorem qZ {lo hi lo' hi':Nat} {v p:Value} {l P:List Int} {w:World} (hp:aj .i64 lo' hi' w p P) (h:aj .i64 lo hi w v l) (hl:l.length=16\/l.length=64) (Z:P.length=l.length) (V:ar P) (Re:cE l) (n:Nat) (hn:n<=15) :
  Calls prog 82 #[p,v,n] w fun e w'=>∃ v',e=.returned v'/\f9 .i64 3 w.heap.size w' v' (gU P l n)/\ae [] w w':=by
 refine aK fun Q QF=>?_
 obtain ⟨m,hm⟩:∃ m,m=l.length:=⟨_,rfl⟩
 have Y:Hid (P.length=m):=lh (dn hm Z);have D:Hid ((ce l n).length=m):=lh (by rw [hm];exact gR l n);have J:Hid ((gU P l n).length=m):=lh (by rw [hm,gV Z];exact Z);have HAt:=lh (fun (k:Nat) (hk:k<P.length)=>Mg Z (n:Int) hk);have JJI:16<=m:=Qa;have JJJ:m<=64:=Qa;have HR:=lh (fun (wx:World) (o:ae [] w wx)=>LG (h.quiet o) hl Re n hn);have JzQ:=lh V;obtain ⟨pa,RK,rfl,-,-,O,N⟩:=hp.open;obtain ⟨pb,JBW,rfl,-,-⟩:=O 0 (j0 Y.out);have L:=lh (fun (k:Nat) (hk:k<m)=>N pb JBW rfl k (bC Y hk));have HPb:=lh (s4 (L.out 0 Qa));clear O N;obtain ⟨a,cap,rfl,_⟩:=h.open;rw [Y.out];clear h hl Re hp Z V hm;generalize ce l n=R at *
 generalize gU P l n=A at *
 have Uv:=run_make_row' (P:=prog) 22 3 (.int .i64 0) 8 EI.ut Qc rfl .i64 .i64 m Qa Qa;have XR:=gB .i64 3 w m (by simp [maxLen];omega);have HM:=lh XR;clear XR;go_enter func82,ntmps82;go_wp2_with fail;clear Uv;go_at_call 146;have QI:=ae.new w (.cells (madeCells #[()] m) 3);refine (HR.out _ QI).mono ?_;have QO:=lh QI;clear QI;generalize Rs:World.alloc w _=W1 at *
 have hz1:W1.heap.size=w.heap.size+1:=by rw [<- Rs];simp
 have TF:=lh hz1;clear hz1 Rs;rintro e w2 ⟨v2,rfl,QL,YS,hq⟩;obtain ⟨g,Sk,rfl,ST,Rj⟩:=QL.form (j0 D.out);rw [D.out] at QL |-
 have WI:=lh QL;have QT:=lh hq;have HA2:=lh YS;have HM2:=lh (HM.quiet hq);have Hg:=lh (VL ST Rj);clear QL hq YS ST Rj HR HM;go_wp2_with fail;go_loopw [17,8] (fun i _ wr=>∃ (k:Nat) (I:List Int),k<=m/\i=.int .i64 k/\Hid (I.length=m)/\Hid (I.take k=A.take k)/\Hid (f9 .i64 3 w.heap.size wr (.slice w.heap.size m m) I)/\Hid (ae [w.heap.size] w2 wr)) (fun i _ _=>m-(intOf i).toNat)
 case atStart=>exact ⟨0,List.replicate m 0,Qa,rfl,lh Qb,lh rfl,HM2,lh (AY)⟩
 case round =>
  obtain ⟨k,I,hk,rfl,E,M,QX,QP⟩:=hrel;by_cases F:k<m
  ·have Rt:(k:Int)<(m:Int):=Qa
   have RA:(0:Int)<=(k:Int):=Qa;have cx:=QX.cellS E.symm (i:=k) (bC E F);have fx:=QX.frzS E.symm k;have cr:=QP.cell (WI.cellS D.symm (i:=k) (bC D F)) (by rw [i5];have:=Hg.1;have:=TF.out;simp only;omega);have cp:=QP.cell ((QO.q QT).cell (L.out k F) Qb) (by rw [i5];have:=HPb.out;simp only;omega);have hb:=HA2.out k (bC D F);have hbp:=JzQ.at k;have hA:=HAt.out k (bC Y F);have RP:k<P.length:=bC Y F
   generalize I.getD k 0=y at *
   generalize hpx:P.getD k 0=px at *
   generalize hrx:R.getD k 0=rx at *
   obtain ⟨XP,hb2⟩:=hb;obtain ⟨hb3,hb4⟩:=hbp;have hci:=jE (px+rx);have QS:i7 .i64 (fj (px+rx)):=by simp only [i7];omega
   obtain ⟨Ru,Rz⟩:=QX.storeS E.symm QS k;have Su:=lh Ru;have Te:=lh Rz;have HAx:=lh hA;have HC:=lh (fun W:World=>yZ (px+rx) W);clear hpx hrx hA QS Ru Rz hci RP;generalize fj (px+rx)=cv at *
   go_wp2_with fail;refine (HC.out _).mono ?_;rintro e w3 ⟨rfl,rfl⟩;go_wp2_with fail;exact ⟨⟨k+1,I.set k cv,Qa,Qh,lh (dn PF E),lh (fS M (bC E F) (E.trans J.symm) HAx.symm),Su,lh (QP.trans Te (fun _ h _=>h) (fun _ h _=>h))⟩,Qf⟩
  ·obtain rfl:k=m:=Qa
   have hx:¬ (k:Int)<(k:Int):=Qa;go_wp2_with fail;have RU:=pB (R:=A) (bC E M) (E.trans J.symm);subst RU;exact QF.out _ _ ⟨_,rfl,QX.out,(QO.q QT).trans QP.out Qb (fun x hx F=>Qo)⟩
end
end Go.Proofs.YthcafdfdglfabaaGreatDoor
