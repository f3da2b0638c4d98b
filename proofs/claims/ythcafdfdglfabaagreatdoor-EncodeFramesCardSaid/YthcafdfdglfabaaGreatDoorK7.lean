/- Joined texts: DQuant, DValues, DAdd. Conditions: each part names its own. -/
import Derived.Test.YthcafdfdglfabaaGreatDoorK6
import Derived.Test.YthcafdfdglfabaaGreatDoorK3
import Derived.Test.YthcafdfdglfabaaGreatDoorZDClp
namespace Go.Proofs.YthcafdfdglfabaaGreatDoor
open Go.RowKit
set_option linter.unusedVariables false
set_option linter.unusedSimpArgs false
set_option maxRecDepth 100000
set_option maxHeartbeats 16000000
def po:Array Value:=#[.int .i64 1,.int .i64 2,.int .i64 4,.int .i64 6,.int .i64 8,.int .i64 12,.int .i64 16,.int .i64 24,.int .i64 32,.int .i64 48,.int .i64 64,.int .i64 96,.int .i64 128,.int .i64 192,.int .i64 256,.int .i64 384]
section
theorem Ee (w:World):Calls Tryz.prog 222 #[] w fun e w'=>e=.returned (.agg po)/\ae [] w w':=by
 have hq:=lh (ae.new w);go_enter Tryz.func222,Tryz.ntmps222;go_wp2;exact bodyPost_ret (v:=.agg po) (results_cell_row Tryz.results222 _ _ w.heap.size _ _ _ _ rfl (heap_alloc_new _ _) Tryz.underlying297 rfl Mh) rfl ⟨rfl,hq.out _⟩
theorem sy {n:Nat} (h:n<=15):n=0\/n=1\/n=2\/n=3\/n=4\/n=5\/n=6\/n=7\/n=8\/n=9\/n=10\/n=11\/n=12\/n=13\/n=14\/n=15:=Mf
theorem yI (n:Nat) (hn:n<=15) (w:World):(Instr.index 297 (.agg po) (.int .i64 n)).run Tryz.prog w=.ok (.int .i64 (bh n)) w:=by
 rcases sy hn with rfl | rfl | rfl | rfl | rfl | rfl | rfl | rfl | rfl | rfl | rfl | rfl | rfl | rfl | rfl | rfl <;> kernel_rfl
theorem oK (n:Nat) (hn:n<=15) (w:World):Calls Tryz.prog 187 #[n] w fun e w'=>e=.returned (.tuple #[.int .i64 (bh n),.nilIface])/\ae [] w w':=by
 refine aN fun Q MM=>?_
 have h0:¬ (n:Int)<0:=Mf;have h1:¬ (15:Int)<n:=Mf;have h2:(0:Int)<=n:=Mf;have h3:(n:Int)<16:=Mf;have hg:=yI n hn;go_enter Tryz.func187,Tryz.ntmps187;go_wp2_with fail;go_at_call 222;refine (Ee _).mono ?_;rintro e w1 ⟨rfl,hq⟩;have HQ:=lh hq;clear hq;go_wp2_with fail;exact MM.out _ _ ⟨rfl,HQ.out⟩
theorem Ej (v:Int) (n:Nat) (hn:n<=15) (hv:-16320<=v/\v<=16320) (w:World):Calls Tryz.prog 226 #[v,n] w fun e w'=>e=.returned (.tuple #[.int .i64 (v*bh n),.nilIface])/\ae [] w w':=by
 refine aN fun Q MM=>?_
 have h0:¬ v < -16320:=Mf;have h1:¬ (16320:Int)<v:=Mf;have hs:0<=bh n/\bh n<=384:=by
  rcases sy hn with rfl | rfl | rfl | rfl | rfl | rfl | rfl | rfl | rfl | rfl | rfl | rfl | rfl | rfl | rfl | rfl <;> decide
 have hw:InK .i64 (v*bh n):=by
  have a:v*bh n<=16320*384:=Int.le_trans (Int.mul_le_mul_of_nonneg_right hv.2 hs.1) (Int.mul_le_mul_of_nonneg_left hs.2 Mn);have b:-16320*384<=v*bh n:=Int.le_trans (Int.mul_le_mul_of_nonpos_left Mn hs.2) (Int.mul_le_mul_of_nonneg_right hv.1 hs.1);simp only [InK];omega
 go_enter Tryz.func226,Tryz.ntmps226;go_wp2_with fail;go_at_call 187;refine (oK n hn _).mono ?_;rintro e w1 ⟨rfl,hq⟩;have HQ:=lh hq;clear hq;generalize bh n=st at *
 have Ts:wrap64 (v*st)=v*st:=by simp only [InK] at hw;unfold wrap64;omega
 go_wp2_with fail;refine MM.out _ _ ⟨?_,HQ.out⟩;simp [Ts]
end
theorem oJ {n:Nat} (hn:n<=15):0<=bh n/\bh n<=384:=by
 rcases sy hn with rfl | rfl | rfl | rfl | rfl | rfl | rfl | rfl | rfl | rfl | rfl | rfl | rfl | rfl | rfl | rfl <;> decide
theorem lr {v s:Int} (hv:-16320<=v/\v<=16320) (hs:0<=s/\s<=384):-6266880<=v*s/\v*s<=6266880 :=
 ⟨Int.le_trans (Int.mul_le_mul_of_nonpos_left (a:=-16320) Mn hs.2) (Int.mul_le_mul_of_nonneg_right hv.1 hs.1),Int.le_trans (Int.mul_le_mul_of_nonneg_right hv.2 hs.1) (Int.mul_le_mul_of_nonneg_left hs.2 Mn)⟩
theorem AW {lo hi:Nat} {v:Value} {l:List Int} {w:World} (h:ah .i64 lo hi w v l) (hl:l.length<=64) (Nj:cu l) (n:Nat) (hn:n<=15) :
  Calls Tryz.prog 201 #[v,n] w fun e w'=>∃ v',e=.returned (.tuple #[v',.nilIface])/\Own .i64 3 w.heap.size w' v' (cA l n)/\ae [] w w':=by
 refine aN fun Q MM=>?_
 obtain ⟨la,Nn,rfl,-,-,Pd,MZ⟩:=h.open;have Sp:=lh Pd;have NX:=lh MZ;have hs:=oJ hn;clear h Pd MZ;have UI:=lh Nj;go_enter Tryz.func201,Tryz.ntmps201;go_wp2_with fail;go_at_call 187;refine (oK n hn _).mono ?_;rintro e w1 ⟨rfl,hq⟩;have MT:=lh hq;clear hq;have PJ:=fun (x:Int) (hx:-16320<=x/\x<=16320) (W:World)=>Ej x n hn hx W
 have HV:=lh PJ;have HD:Hid (cA l n=l.map fun v=>v*bh n):=lh rfl;clear PJ;generalize bh n=st at *
 go_wp2_with fail;go_loopw [8,23] (fun y i wr=>∃ k:Nat,k<=l.length/\i=.int .i64 k/\Own .i64 3 w.heap.size wr y ((l.take k).map fun v=>v*st)/\bB w.heap.size y/\ae [] w wr) (fun _ i _=>l.length-(intOf i).toNat)
 case atStart=>exact ⟨0,Mf,rfl,Own.nil _ _ _ _,bB.nil _,MT.out⟩
 case round =>
  obtain ⟨k,hk,rfl,MQ,Nx,hqr⟩:=hrel;have Wl:=lh MQ;have Wk:=lh Nx;have QL:=lh hqr;clear MQ Nx hqr;by_cases MO:k<l.length
  ·have Ny:(k:Int)<(l.length:Int):=Mf
   have NU:(0:Int)<=(k:Int):=Mf;obtain ⟨b,off,rfl,_,_⟩:=Sp.out k MO;have hc:=QL.cell (NX.out b off rfl k MO) Mg;have hx:-16320<=l.getD k 0/\l.getD k 0<=16320:=UI.out _ (by rw [Le,Lf MO];exact LM _);have Sq:Hid ((l.take (k+1)).map (fun v=>v*st)=(l.take k).map (fun v=>v*st) ++ [l.getD k 0*st]):=lh (by
    rw [List.take_succ_eq_append_getElem MO,LS,Le,Lf MO];rfl)
   generalize l.getD k 0=x at *
   have hxs:=lr hx hs;have MX:∀ y∈[x*st],InK .i64 y:=by simp only [mSg,forall_eq,InK];omega
   have Oa:=lh (fun (W:World)=>bg (k:=.i64) (w:=W) (t:=3) (l:=[x*st]) rfl Mo MX 1 rfl rfl);have Qj:=lh (show (((l.take k).map fun v=>v*st).length+[x*st].length)*8<=140737488355328 by simp;omega);have Ni:=lh (show (((l.take k).map fun v=>v*st) ++ [x*st]).length=k+1 by simp;omega);go_wp2_with fail;go_at_call 226;refine (HV.out x hx _).mono ?_;rintro e w2 ⟨rfl,MV⟩;have Na:=lh MV;have Sb:=lh (Wl.quiet MV);have PG:=lh (fun (o:Obj)=>(show w.heap.size<=(w2.alloc o).heap.size by have:=QL.size;have:=MV.size;simp;omega));clear MX MV hc
   go_wp2_with (first
    | (at_builtin;refine aw rfl (.tmp 36) (.tmp 38) _ rfl EI (Sb.quiet (ae.new _ _)) rfl (Oa.out _) rfl Qj (PG.out _) (fun v1 w3 MN Nu=>?_);obtain ⟨x1,OW,OB,_⟩:=MN.ints.open;subst OB;rw [Ni.out] at MN Nu |-;have Oy:=lh MN;have Od:=lh Nu;clear MN Nu)
    | fail)
   exact ⟨⟨k+1,Mf,Mm,by rw [Sq.out];exact Oy,Od.from_ Wk.out (PG.out _),((QL.q Na).q (ae.new _ _)).acc Od.out Wk.out⟩,Mk⟩
  ·obtain rfl:k=l.length:=Mf
   have Ny:¬ (l.length:Int)<(l.length:Int):=Mf;rw [List.take_length] at Wl;go_wp2_with fail;refine MM.out _ _ ⟨_,rfl,?_,QL.out⟩;rw [HD.out];exact Wl
theorem AV (l:List Int) (q:Int) {k:Nat} (h:k<l.length):(cA l q).getD k 0=l.getD k 0*bh q:=by
 unfold cA;rw [Le,LG,Lf h,Le,Lf h]
 rfl
theorem ig {l:List Int} (h:cu l) {n:Nat} (hn:n<=15):cN 6266880 (cA l n):=by
 intro k hk;rw [dP] at hk;rw [AV l n hk];exact lr (h _ (by rw [Le,Lf hk];exact LM _)) (oJ hn)
theorem IV {p l:List Int} (h:p.length=l.length) (qp:Int) {k:Nat} (hk:k<p.length):(fS p l qp).getD k 0=ep (p.getD k 0+(bZ l qp).getD k 0):=by
 have h1:k<(bZ l qp).length:=by rw [fP];omega
 unfold fS;rw [Le,List.getElem?_zipWith,Lf hk,Lf h1,Le,Lf hk,Le,Lf h1]
 rfl
section
theorem Iy {lo hi:Nat} {v:Value} {l:List Int} {w:World} (h:ah .i64 lo hi w v l) (hl:l.length=16\/l.length=64) (Nj:cu l) (n:Nat) (hn:n<=15) :
  Calls Tryz.prog 146 #[v,n] w fun e w'=>∃ v',e=.returned v'/\Own .i64 3 w.heap.size w' v' (bZ l n)/\cN 401080320 (bZ l n)/\ae [] w w':=by
 refine aN fun Q MM=>?_
 have HV:=lh (AW h Mf Nj n hn);have HI:=lh (fun (lo hi:Nat) (v:Value) (wx:World) (hx:ah .i64 lo hi wx v (cA l n))=>xd hx (by rw [dP];exact hl) (ig Nj hn));have HE:Hid (bZ l n=bQ (cA l n)):=lh rfl;have HVl:=lh (dP l n);have WC:16<=l.length:=Mf;obtain ⟨a,cap,rfl,_⟩:=h.open;clear h hl Nj;generalize bZ l n=R at *
 generalize cA l n=V at *
 generalize bQ V=I at *
 go_enter Tryz.func146,Tryz.ntmps146;go_wp2_with fail;go_at_call 201;refine HV.mono ?_;rintro e w1 ⟨v1,rfl,MN,MP⟩;obtain ⟨g,Ot,rfl,OL,Nl⟩:=MN.form (by have:=HVl.out;omega);have Oy:=lh MN;have MT:=lh MP;clear MN MP OL Nl;go_wp2_with fail;go_at_call 202;refine (HI.out _ _ _ w1 Oy.ints).mono ?_;rintro e w2 ⟨v2,rfl,Om,UT,MV⟩;have Sb:=lh Om;have Na:=lh MV;have HA:=lh UT;clear Om MV UT;go_wp2_with fail;refine MM.out _ _ ⟨v2,rfl,?_,?_,MT.q Na.out⟩
 ·rw [HE.out];exact Sb.lower MT.size
 ·rw [HE.out];exact HA
theorem pA {lo hi lo' hi':Nat} {v p:Value} {l P:List Int} {w:World} (hp:ah .i64 lo' hi' w p P) (h:ah .i64 lo hi w v l) (hl:l.length=16\/l.length=64) (hP:P.length=l.length) (JpR:au P) (Nj:cu l) (n:Nat) (hn:n<=15) :
  Calls Tryz.prog 82 #[p,v,n] w fun e w'=>∃ v',e=.returned v'/\Own .i64 3 w.heap.size w' v' (fS P l n)/\ae [] w w':=by
 refine aN fun Q MM=>?_
 obtain ⟨m,hm⟩:∃ m,m=l.length:=⟨_,rfl⟩
 have QK:Hid (P.length=m):=lh (by rw [hm];exact hP);have HRl:Hid ((bZ l n).length=m):=lh (by rw [hm];exact fP l n);have HAl:Hid ((fS P l n).length=m):=lh (by rw [hm,fT hP];exact hP);have HAt:=lh (fun (k:Nat) (hk:k<P.length)=>IV hP (n:Int) hk);have JBJ:16<=m:=Mf;have JBK:m<=64:=Mf;have HR:=lh (fun (wx:World) (o:ae [] w wx)=>Iy (h.quiet o) hl Nj n hn);have Jtl:=lh JpR;obtain ⟨pa,NR,rfl,-,-,JpD,JdW⟩:=hp.open;obtain ⟨pb,Jvd,rfl,-,-⟩:=JpD 0 (by have:=QK.out;omega);have OZ:=lh (fun (k:Nat) (hk:k<m)=>JdW pb Jvd rfl k (by rw [QK.out];exact hk));have Qy:=lh (block_lt_of_cell (OZ.out 0 Mf));clear JpD JdW;obtain ⟨a,cap,rfl,_⟩:=h.open;rw [QK.out];clear h hl Nj hp hP JpR hm;generalize bZ l n=R at *
 generalize fS P l n=A at *
 have Rc:=run_make_row' (P:=Tryz.prog) 22 3 (.int .i64 0) 8 EI.ut Mh rfl .i64 .i64 m Mf Mf;have Ua:=fD .i64 3 w m (by simp [maxLen];omega);have HM:=lh Ua;clear Ua;go_enter Tryz.func82,Tryz.ntmps82;go_wp2_with fail;clear Rc;go_at_call 146;have MP:=ae.new w (.cells (madeCells #[()] m) 3);refine (HR.out _ MP).mono ?_;have MT:=lh MP;clear MP;generalize NB:World.alloc w _=W1 at *
 have hz1:W1.heap.size=w.heap.size+1:=by rw [<- NB];simp
 have PO:=lh hz1;clear hz1 NB;rintro e w2 ⟨v2,rfl,MQ,UT,hq⟩;obtain ⟨g,Ot,rfl,OL,Nl⟩:=MQ.form (by have:=HRl.out;omega);rw [HRl.out] at MQ |-
 have Sb:=lh MQ;have Na:=lh hq;have HA2:=lh UT;have HM2:=lh (HM.quiet hq);have Hg:=lh (And.intro OL Nl);clear MQ hq UT OL Nl HR HM;go_wp2_with fail;go_loopw [17,8] (fun i _ wr=>∃ (k:Nat) (ys:List Int),k<=m/\i=.int .i64 k/\Hid (ys.length=m)/\Hid (ys.take k=A.take k)/\Hid (Own .i64 3 w.heap.size wr (.slice (some ⟨w.heap.size,0,none⟩) m m) ys)/\Hid (ae [w.heap.size] w2 wr)) (fun i _ _=>m-(intOf i).toNat)
 case atStart=>exact ⟨0,List.replicate m 0,Mf,rfl,lh Mg,lh rfl,HM2,lh (ae.refl _ _)⟩
 case round =>
  obtain ⟨k,ys,hk,rfl,Ol,XA,Nc,MW⟩:=hrel;by_cases MO:k<m
  ·have Ny:(k:Int)<(m:Int):=Mf
   have NU:(0:Int)<=(k:Int):=Mf;have cx:=Nc.cellS Ol.symm (i:=k) (by rw [Ol.out];exact MO);have fx:=Nc.frzS Ol.symm k;have cr:=MW.cell (Sb.cellS HRl.symm (i:=k) (by rw [HRl.out];exact MO)) (by rw [mSg];have:=Hg.1;have:=PO.out;simp only;omega);have cp:=MW.cell ((MT.q Na).cell (OZ.out k MO) Mg) (by rw [mSg];have:=Qy.out;simp only;omega);have hb:=HA2.out k (by rw [HRl.out];exact MO);have hbp:=Jtl.at k;have hA:=HAt.out k (by rw [QK.out];exact MO);have NS:k<P.length:=by rw [QK.out];exact MO
   generalize ys.getD k 0=y at *
   generalize hpx:P.getD k 0=px at *
   generalize hrx:R.getD k 0=rx at *
   obtain ⟨TY,Zm⟩:=hb;obtain ⟨hb3,hb4⟩:=hbp;have hci:=iJ (px+rx);have MX:InK .i64 (ep (px+rx)):=by simp only [InK];omega
   obtain ⟨NC,NE⟩:=Nc.storeS Ol.symm MX k;have NT:=lh NC;have OH:=lh NE;have HAx:=lh hA;have HC:=lh (fun W:World=>wA (px+rx) W);clear hpx hrx hA MX NC NE hci NS;generalize ep (px+rx)=cv at *
   go_wp2_with fail;go_at_call 147;refine (HC.out _).mono ?_;rintro e w3 ⟨rfl,rfl⟩;go_wp2_with fail;exact ⟨⟨k+1,ys.set k cv,Mf,Mm,lh (by rw [LK];exact Ol),lh (fj XA (by rw [Ol.out];exact MO) (Ol.trans HAl.symm) HAx.symm),NT,lh (MW.trans OH (fun _ h _=>h) (fun _ h _=>h))⟩,Mk⟩
  ·obtain rfl:k=m:=Mf
   have hx:¬ (k:Int)<(k:Int):=Mf;go_wp2_with fail;have Pq:=nM (R:=A) (by rw [Ol.out];exact XA) (Ol.trans HAl.symm);subst Pq;exact MM.out _ _ ⟨_,rfl,Nc.out,(MT.q Na).trans MW.out Mg (fun x hx MO=>Mr)⟩
end
end Go.Proofs.YthcafdfdglfabaaGreatDoor
