/- Joined texts: DRQt, DRWh, DRSu, DRIn, DRCl. Conditions: each part names its own. -/
import Derived.Test.YthcafdfdglfabaaGreatDoorR1
import Derived.Test.YthcafdfdglfabaaGreatDoorS7
namespace Go.Proofs.YthcafdfdglfabaaGreatDoor
open Go.RowKit
set_option linter.unusedVariables false
set_option linter.unusedSimpArgs false
set_option maxRecDepth 100000
set_option maxHeartbeats 16000000
theorem AO (n:Nat) (hn:n<=15):po[n]?=some (.int .i64 (bh n)):=by
 rcases sy hn with rfl | rfl | rfl | rfl | rfl | rfl | rfl | rfl | rfl | rfl | rfl | rfl | rfl | rfl | rfl | rfl <;> rfl
section
theorem cK (c:Int) (x:Value) (w:World):Calls Tryz.prog 37 #[.agg #[c,x]] w fun e w'=>e=.returned (.bool (c == 0))/\ae [] w w':=by
 have HQ:=lh (ae.new w (.cells #[c,x] 39));go_enter Tryz.func37,Tryz.ntmps37;go_wp2;go_ret;exact ⟨rfl,HQ.out⟩
theorem lM (n:Nat) (hn:n<=15) (w:World):Calls Tryz.prog 206 #[n] w fun e w'=>(e=.returned (.tuple #[.int .i64 (bh n),.agg #[(),JEu]])/\ae [] w w'):=by
 refine aN fun Q MM=>?_
 have h0:¬ (n:Int)<0:=Mf;have h1:¬ (15:Int)<n:=Mf;have h2:(0:Int)<=n:=Mf;have h3:(n:Int)<16:=Mf;have hg:=AO n hn;unfold po at hg;have MP:=ae.new w (.cells #[(),JEu] 39);have Nq:Hid ((w.alloc (.cells #[(),JEu] 39)).heap[w.heap.size]?=some (.cells #[(),JEu] 39 (0,0))):=lh (heap_alloc_new w _);have MT:=lh MP;clear MP hn;generalize bh n=st at *
 go_enter Tryz.func206,Tryz.ntmps206;go_wp2_with fail;have Rn:=(ae.new (w.alloc (.cells #[(),JEu] 39)) (.cells po 3)).row Nq;exact bodyPost_ret (v:=.tuple #[st,.agg #[(),JEu]]) (aA Tryz.results206 _ _ w.heap.size _ _ _ _ _ rfl rfl Rn Tryz.underlying39 rfl (aR _ rfl)) rfl (MM.out _ _ ⟨rfl,MT.q (ae.new _ _)⟩)
theorem zU (v:Int) (n:Nat) (hn:n<=15) (hv:-16320<=v/\v<=16320) (w:World):Calls Tryz.prog 214 #[v,n] w fun e w'=>(e=.returned (.tuple #[.int .i64 (v*bh n),.agg #[(),JEu]])/\ae [] w w'):=by
 refine aN fun Q MM=>?_
 have h0:¬ v < -16320:=Mf;have h1:¬ (16320:Int)<v:=Mf;have hs:=oJ hn;have hw:InK .i64 (v*bh n):=by have:=lr hv hs;simp only [InK];omega
 have hwm:IntKind.i64.wrap (v*bh n)=v*bh n:=by have:=lr hv hs;rw [Ll];omega
 have MP:=ae.new w (.cells #[(),JEu] 39);have Nq:Hid ((w.alloc (.cells #[(),JEu] 39)).heap[w.heap.size]?=some (.cells #[(),JEu] 39 (0,0))):=lh (heap_alloc_new w _);have MT:=lh MP;have HS:=lh (fun W=>lM n hn W);clear MP hn hs;generalize bh n=st at *
 go_enter Tryz.func214,Tryz.ntmps214;go_wp2_with fail;have PO:Hid ((w.alloc (.cells #[(),JEu] 39)).heap.size=w.heap.size+1):=lh Mg;generalize NB:World.alloc w _=W1 at *
 clear NB;go_at_call 206;refine (HS.out W1).mono ?_;rintro e w2 ⟨rfl,MV⟩;have Nb:=MV.q (ae.new w2 (.cells #[(),JEu] 39));have Px:Hid ((w2.alloc (.cells #[(),JEu] 39)).heap[w2.heap.size]?=some (.cells #[(),JEu] 39 (0,0))):=lh (heap_alloc_new w2 _);have Nq:=lh (Nb.row Nq);have Nf:=lh (MT.q Nb);have Hne:Hid (¬ w2.heap.size=w.heap.size):=lh (by have:=MV.size;have:=PO.out;omega);clear MV Nb;go_wp2_with fail;generalize PZ:World.alloc w2 _=W3 at *
 clear PZ;go_at_call 37;refine (cK _ _ _).mono ?_;rintro e w4 ⟨rfl,Ng⟩;have NI:=lh (Nf.q Ng);have JiQ:=lh (Ng.row Px);have JcS:=lh (Ng.row Nq);obtain ⟨e0,e1,-⟩:=aJ JiQ;obtain ⟨z0,z1,y0,y1,-⟩:=aJ JcS;clear Ng;go_wp2_with fail;obtain ⟨MS,Nd⟩:=aH (x:=.int .i64 0) (y:=.slice none 0 0) JcS;have OT:=Hne.out;have NQ:=(NI.trans Nd (U:=[]) Mg (fun g hg MO=>Mj))
 refine wp_region_held_drew (S:=(fun w'=>w'.cell? ⟨w2.heap.size,0,none⟩=some (.int .i64 0)/\w'.cell? ⟨w2.heap.size,1,none⟩=some (.slice none 0 0))) Mh ?_ (fun hHeld=>?_)
 ·exact ⟨e0,e1⟩
 refine tk 0 25 ?_;refine tk 1 26 ?_;refine tk 2 27 ?_;refine tk 3 28 ?_;refine tk 4 4 ?_;refine rdy (rdn 5 (fun K hK=>?_) .nil);go_simp;refine hK.out _ _ ?_ (fun hHeld=>?_)
 ·exact ⟨Nd.cell e0 (by rw [mSg];exact OT),Nd.cell e1 (by rw [mSg];exact OT)⟩
 clear hK K
 try simp only [Act.put,Lg,Lj,Lk]
 refine wpAnyH_done Mh ?_ _;go_wp2_with fail;exact bodyPost_ret (v:=.tuple #[.int .i64 (v*st),.agg #[(),JEu]]) (aA Tryz.results214 _ _ w.heap.size _ _ _ _ _ rfl rfl MS Tryz.underlying39 rfl (aR _ rfl)) rfl (MM.out _ _ ⟨rfl,NQ.drew⟩)
theorem xz {lo hi:Nat} {v:Value} {l:List Int} {w:World} (h:ah .i64 lo hi w v l) (hl:l.length<=64) (Nj:cu l) (n:Nat) (hn:n<=15):Calls Tryz.prog 169 #[v,n] w fun e w'=>((∃ v',e=.returned (.tuple #[v',.agg #[(),JEu]])/\Own .i64 3 w.heap.size w' v' (cA l n))/\ae [] w w'):=by
 refine aN fun Q MM=>?_
 obtain ⟨la,Nn,rfl,-,-,Pd,MZ⟩:=h.open;have Sp:=lh Pd;have NX:=lh MZ;have hs:=oJ hn;have MP:=ae.new w (.cells #[(),JEu] 39);have Nq:Hid ((w.alloc (.cells #[(),JEu] 39)).heap[w.heap.size]?=some (.cells #[(),JEu] 39 (0,0))):=lh (heap_alloc_new w _);have PO:Hid ((w.alloc (.cells #[(),JEu] 39)).heap.size=w.heap.size+1):=lh Mg;have MT:=lh MP;have HS:=lh (fun W=>lM n hn W);have HV:=lh (fun (x:Int) (hx:-16320<=x/\x<=16320) (W:World)=>zU x n hn hx W);have HD:Hid (cA l n=l.map fun v=>v*bh n):=lh rfl;have UI:=lh Nj;clear h Pd MZ MP hn Nj;generalize cA l n=VD at *
 generalize bh n=st at *
 go_enter Tryz.func169,Tryz.ntmps169;go_wp2_with fail;generalize NB:World.alloc w _=W1 at *
 clear NB;go_at_call 206;refine (HS.out W1).mono ?_;rintro e w2 ⟨rfl,MV⟩;have Nb:=MV.q (ae.new w2 (.cells #[(),JEu] 39));have SJ:Hid ((w2.alloc (.cells #[(),JEu] 39)).heap[w2.heap.size]?=some (.cells #[(),JEu] 39 (0,0))):=lh (heap_alloc_new w2 _);have OG:=lh (Nb.row Nq);have Nf:=lh (MT.q Nb);have QM:Hid (w.heap.size<w2.heap.size/\(w2.alloc (.cells #[(),JEu] 39)).heap.size=w2.heap.size+1):=lh ⟨by have:=MV.size;have:=PO.out;omega,Mg⟩;clear MV Nb MT Nq PO;go_wp2_with fail;generalize PZ:World.alloc w2 _=W3 at *
 clear PZ;generalize w2.heap.size=B at *
 go_loopw [9,8,10,11] (fun i y _ _ wr=>∃ k:Nat,k<=l.length/\i=.int .i64 k/\Hid (Own .i64 3 W3.heap.size wr y ((l.take k).map fun v=>v*st))/\Hid (bB W3.heap.size y)/\Hid (ae [] w wr)/\Hid (W3.heap.size<=wr.heap.size)/\Hid (wr.heap[B]?=some (.cells #[(),JEu] 39 (0,0)))/\Hid (wr.heap[w.heap.size]?=some (.cells #[(),JEu] 39 (0,0)))) (fun i _ _ _ _=>l.length-(intOf i).toNat)
 case atStart=>exact ⟨0,Mf,rfl,lh (Own.nil _ _ _ _),lh (bB.nil _),Nf,lh (Lm _),SJ,OG⟩
 case round =>
  obtain ⟨k,hk,rfl,Nc,OO,MW,HZk,Oi,WK⟩:=hrel;obtain ⟨e0,e1,-⟩:=aJ Oi;by_cases MO:k<l.length
  ·have Ny:(k:Int)<(l.length:Int):=Mf
   have NU:(0:Int)<=(k:Int):=Mf;obtain ⟨b,off,rfl,_,_⟩:=Sp.out k MO;have hx:-16320<=l.getD k 0/\l.getD k 0<=16320:=UI.out _ (by rw [Le,Lf MO];exact LM _);have Sq:Hid ((l.take (k+1)).map (fun v=>v*st)=(l.take k).map (fun v=>v*st) ++ [l.getD k 0*st]):=lh (by
    rw [List.take_succ_eq_append_getElem MO,LS,Le,Lf MO];rfl)
   have Hc:=lh (NX.out b off rfl k MO);generalize l.getD k 0=x at *
   have hxs:=lr hx hs;have MX:∀ y∈[x*st],InK .i64 y:=by simp only [mSg,forall_eq,InK];omega
   have Oa:=lh (fun (W:World)=>bg (k:=.i64) (w:=W) (t:=3) (l:=[x*st]) rfl Mo MX 1 rfl rfl);have Qj:=lh (show (((l.take k).map fun v=>v*st).length+[x*st].length)*8<=140737488355328 by simp;omega);have Ni:=lh (show (((l.take k).map fun v=>v*st) ++ [x*st]).length=k+1 by simp;omega);obtain ⟨ra,RT,rfl,-⟩:=Nc.ints.open;have hlk:((l.take k).map fun v=>v*st).length=k:=Mq;rw [hlk] at Nc OO |-
   have Hx:=lh hx;clear MX hlk hx hxs;go_wp2_with fail;go_at_call 37;refine (cK _ _ _).mono ?_;rintro e w4 ⟨rfl,Ng⟩;have hc:=(MW.q Ng).cell Hc Mg;have Vp:=lh Ng;clear Ng e0 e1;go_wp2_with fail;go_at_call 214;refine (HV.out x Hx _).mono ?_;rintro e w5 ⟨rfl,NF⟩;have TN:=Vp.q NF;have Nz:=lh (MW.q TN);have Sx:=lh (Nc.quiet TN);have Tj:=(ae.new w5 (.cells #[(),JEu] 39)).q (ae.new _ (.cells #[.int .i64 (x*st)] 3));have Xs:=lh ((TN.q Tj).row Oi);have HE5:=lh ((TN.q Tj).row WK);have H11:=lh ((ae.new (w5.alloc (.cells #[(),JEu] 39)) (.cells #[.int .i64 (x*st)] 3)).row (heap_alloc_new w5 (.cells #[(),JEu] 39)));have Hnb:Hid (¬ w5.heap.size∈(Value.slice ra k RT).ownBlock.toList):=lh (fun hm=>by have:=(Sx.at w5.heap.size Mu).2;omega);have Jcv:Hid (B<W3.heap.size):=lh (by have:=QM.out;omega);have Jcz:Hid (w.heap.size<W3.heap.size):=lh (by have:=QM.out;omega);have HN5:=lh Tj;have PG:=lh (show W3.heap.size<=((w5.alloc (.cells #[(),JEu] 39)).alloc (.cells #[.int .i64 (x*st)] 3)).heap.size by have:=HZk.out;have:=TN.size;have:=Tj.size;omega);have Vg:=Oa.out (w5.alloc (.cells #[(),JEu] 39));rw [World.size_alloc] at Vg;have Jdo:=lh Vg;clear NF TN hc Tj Vg
   go_wp2_with (first
    | (at_builtin;refine aw rfl (.tmp 36) (.tmp 38) _ rfl EI (Sx.quiet ((ae.new w5 (.cells #[(),JEu] 39)).q (ae.new _ _))) rfl Jdo rfl Qj PG (fun v1 w6 MN Nu=>?_);obtain ⟨x1,OW,OB,_⟩:=MN.ints.open;subst OB;rw [Ni.out] at MN Nu |-;have Oy:=lh MN;have Od:=lh Nu;have Jeb:=Nu.only.rowAt H11 Hnb;have Xj:=Nu.row OO Xs Jcv;have Xk:=Nu.row OO HE5 Jcz;have HB6:=lh Xj;have HE6:=lh Xk;obtain ⟨q0,q1,-⟩:=aJ Jeb;obtain ⟨n0,n1,m0,m1,-⟩:=aJ Xj;clear MN Nu Jeb Xj Xk)
    | fail)
   obtain ⟨MS,Nd⟩:=aH (x:=.int .i64 0) (y:=.slice none 0 0) HB6;have hfr:=Od.from_ OO PG;have hz6:=Od.only.size;refine ⟨⟨k+1,Mf,Mm,lh ?_,lh hfr,lh ?_,lh ?_,lh MS,lh (Nd.rowAt HE6 (by rw [mSg];have:=QM.out;omega))⟩,Mk⟩
   ·rw [Sq.out]
    exact Oy.only Nd (fun g hg hh=>by rw [mSg] at hg;subst hg;have:=hfr _ hh;have:=Jcv.out;omega)
   ·exact ((Nz.q HN5).trans Od.only (U:=[]) Mg (fun g hg MO=>by have:=OO.out g Mt;have:=Jcz.out;omega)).trans Nd (U:=[]) Mg (fun g hg MO=>by rw [mSg] at hg;have:=QM.out;omega)
   ·exact Lz (Lz PG hz6) Nd.size
  ·obtain rfl:k=l.length:=Mf
   have Ny:¬ (l.length:Int)<(l.length:Int):=Mf;rw [List.take_length] at Nc;go_wp2_with fail;go_at_call 37;refine (cK _ _ _).mono ?_;rintro e w4 ⟨rfl,Ng⟩;have XZ:=lh (Nc.quiet Ng);have NI:=lh (MW.q Ng);have HE4:=lh (Ng.row WK);have Zc:=lh (Ng.row Oi);clear Ng e0 e1;obtain ⟨e0,e1,-⟩:=aJ Zc;go_wp2_with fail;go_at_call 37;refine (cK _ _ _).mono ?_;rintro e w5 ⟨rfl,NF⟩;have Sx:=lh (XZ.quiet NF);have Nz:=lh (NI.q NF);have HE5:=lh (NF.row HE4);have Xs:=lh (NF.row Zc);clear NF e0 e1;obtain ⟨e0,e1,-⟩:=aJ Xs;obtain ⟨z0,z1,y0,y1,-⟩:=aJ HE5;go_wp2_with fail;obtain ⟨MS,Nd⟩:=aH (x:=.int .i64 0) (y:=.slice none 0 0) HE5;have OT:¬ B=w.heap.size:=by have:=QM.out;omega
   have NQ:=(Nz.trans Nd (U:=[]) Mg (fun g hg MO=>Mj))
   refine wp_region_held_drew (S:=(fun w'=>w'.cell? ⟨B,0,none⟩=some (.int .i64 0)/\w'.cell? ⟨B,1,none⟩=some (.slice none 0 0))) Mh ?_ (fun hHeld=>?_)
   ·exact ⟨e0,e1⟩
   refine tk 0 45 ?_;refine tk 1 46 ?_;refine tk 2 4 ?_;refine rdy (rdn 3 (fun K hK=>?_) .nil);go_simp;refine hK.out _ _ ?_ (fun hHeld=>?_)
   ·exact ⟨Nd.cell e0 (by rw [mSg];exact OT),Nd.cell e1 (by rw [mSg];exact OT)⟩
   clear hK K
   try simp only [Act.put,Lg,Lj,Lk]
   refine wpAnyH_done Mh ?_ _;go_wp2_with fail;refine bodyPost_ret (aA Tryz.results169 _ _ w.heap.size _ _ _ _ _ rfl rfl MS Tryz.underlying39 rfl (aR _ rfl)) rfl (MM.out _ _ ⟨⟨_,rfl,?_⟩,NQ.drew⟩);rw [HD.out];exact ((Sx.only Nd (fun g hg hh=>by rw [mSg] at hg;subst hg;have:=OO.out _ hh;have:=QM.out;omega)).quiet (ae.refl _ _).drew).lower (by have:=QM.out;omega)
end
def fy (u x:Nat):Nat->Int
 | 0=>1
 | k+1=>if u / 2 ^ k % 2=1/\x / 2 ^ k % 2=1 then-fy u x k else fy u x k
theorem Eb:∀ u,u<8->∀ x,x<8->fy u x 3=iU u x:=Mn
theorem yA (u x:Nat):∀ k,fy u x k=1\/fy u x k=-1
 | 0=>.inl rfl
 | k+1=>by
  have:=yA u x k;unfold fy
  split <;> omega
section
theorem lL (u x:Nat) (hu:u<8) (hx:x<8) (w:World):Calls Tryz.prog 228 #[u,x] w fun e w'=>e=.returned (.int .i64 (iU u x))/\w=w':=by
 have HS:=lh (Eb u hu x hx);have u0:¬ (u:Int)<0:=Mf;have u7:¬ (7:Int)<u:=Mf;have x0:¬ (x:Int)<0:=Mf;have x7:¬ (7:Int)<x:=Mf;go_enter Tryz.func228,Tryz.ntmps228;go_wp2_with fail;go_loopw [6,5] (fun i s wr=>∃ k:Nat,k<=3/\i=.int .i64 k/\s=.int .i64 (fy u x k)/\w=wr) (fun i _ _=>3-(intOf i).toNat)
 case atStart=>exact ⟨0,Mf,rfl,rfl,rfl⟩
 case round =>
  obtain ⟨k,hk,rfl,rfl,rfl⟩:=hrel;have MX:=yA u x k;by_cases MO:k<3
  ·have Ny:(k:Int)<3:=Mf
   have NU:(0:Int)<=(k:Int):=Mf;have huv:∀ c:Nat,(u / c % 2=0\/u / c % 2=1)/\(x / c % 2=0\/x / c % 2=1):=fun c=>⟨Mf,Mf⟩
   rcases (by omega:k=0\/k=1\/k=2) with rfl | rfl | rfl
   ·obtain ⟨bu,bx⟩:=huv 1
    have du:(u:Int) % 2=((u / 1 % 2:Nat):Int):=Mf;have dx:(x:Int) % 2=((x / 1 % 2:Nat):Int):=Mf;have eu:=bJ (u:Int);have ex:=bJ (x:Int);rw [du] at eu;rw [dx] at ex;have HK:Hid (fy u x 1=if u / 1 % 2=1/\x / 1 % 2=1 then-fy u x 0 else fy u x 0):=lh rfl;have Hw:Hid (wrap64 (- fy u x 0)=- fy u x 0):=lh (by unfold wrap64;omega);clear du dx huv MX;rcases bu with bu | bu <;> rcases bx with bx | bx
    all_goals
     rw [bu,bx] at HK;rw [bu] at eu;rw [bx] at ex;clear bu bx;go_wp2_with fail;exact ⟨⟨1,Mf,rfl,by rw [HK.out];simp [Hw.out],trivial⟩,by simp [intOf]⟩
   ·obtain ⟨bu,bx⟩:=huv 2
    have du:((u:Int) / 2) % 2=((u / 2 % 2:Nat):Int):=Mf;have dx:((x:Int) / 2) % 2=((x / 2 % 2:Nat):Int):=Mf;have eu:=bJ ((u:Int) / 2);have ex:=bJ ((x:Int) / 2);rw [du] at eu;rw [dx] at ex;have HK:Hid (fy u x 2=if u / 2 % 2=1/\x / 2 % 2=1 then-fy u x 1 else fy u x 1):=lh rfl;have Hw:Hid (wrap64 (- fy u x 1)=- fy u x 1):=lh (by unfold wrap64;omega);clear du dx huv MX;rcases bu with bu | bu <;> rcases bx with bx | bx
    all_goals
     rw [bu,bx] at HK;rw [bu] at eu;rw [bx] at ex;clear bu bx;go_wp2_with fail;exact ⟨⟨2,Mf,rfl,by rw [HK.out];simp [Hw.out],trivial⟩,by simp [intOf]⟩
   ·obtain ⟨bu,bx⟩:=huv 4
    have du:((u:Int) / 4) % 2=((u / 4 % 2:Nat):Int):=Mf;have dx:((x:Int) / 4) % 2=((x / 4 % 2:Nat):Int):=Mf;have eu:=bJ ((u:Int) / 4);have ex:=bJ ((x:Int) / 4);rw [du] at eu;rw [dx] at ex;have HK:Hid (fy u x 3=if u / 4 % 2=1/\x / 4 % 2=1 then-fy u x 2 else fy u x 2):=lh rfl;have Hw:Hid (wrap64 (- fy u x 2)=- fy u x 2):=lh (by unfold wrap64;omega);clear du dx huv MX;rcases bu with bu | bu <;> rcases bx with bx | bx
    all_goals
     rw [bu,bx] at HK;rw [bu] at eu;rw [bx] at ex;clear bu bx;go_wp2_with fail;exact ⟨⟨3,Mf,rfl,by rw [HK.out];simp [Hw.out],trivial⟩,by simp [intOf]⟩
  ·obtain rfl:k=3:=Mf
   have Ny:¬ ((3:Nat):Int)<3:=Mf;go_wp2_with fail;go_ret;exact ⟨dN HS,rfl⟩
theorem lK (k:Nat) (h:k=16\/k=64) (w:World):Calls Tryz.prog 204 #[k] w fun e w'=>e=.returned (.int .i64 (if k=16 then 4 else 8))/\w=w':=by
 rcases h with rfl | rfl
 ·go_enter Tryz.func204,Tryz.ntmps204
  go_wp2_with fail;go_ret;exact ⟨rfl,rfl⟩
 ·go_enter Tryz.func204,Tryz.ntmps204
  go_wp2_with fail;go_ret;exact ⟨rfl,rfl⟩
theorem uC (n b:Int) (hn:0<=n):(-n).tdiv b=-(n / b):=by rw [Int.neg_tdiv,Int.tdiv_eq_ediv_of_nonneg hn]
theorem Eg (a:Int) (b:Nat) (hb:b=16\/b=64):(if a<a.tdiv (b:Int)*b then a.tdiv (b:Int)-1 else a.tdiv (b:Int))=a / (b:Int):=by
 by_cases ha:0<=a
 ·rw [Int.tdiv_eq_ediv_of_nonneg ha]
  rcases hb with rfl | rfl <;> split <;> omega
 ·obtain ⟨n,rfl⟩:∃ n,a=-n:=⟨-a,Mf⟩
  rw [uC n _ Mf];rcases hb with rfl | rfl <;> split <;> omega
theorem tO (a:Int) (b:Nat) (hb:b=16\/b=64) (ha:-4000000000<=a/\a<=4000000000) (w:World):Calls Tryz.prog 215 #[a,b] w fun e w'=>e=.returned (.int .i64 (a / (b:Int)))/\w=w':=by
 have HD:=lh (Eg a b hb);have hb0:¬ (b:Int)=0:=Mf;have hbb:((b:Int) == 0)=false:=by rw [beq_eq_false_iff_ne];exact hb0
 have ht:-4000000000<=a.tdiv (b:Int)/\a.tdiv (b:Int)<=4000000000:=by
  by_cases h0:0<=a
  ·rw [Int.tdiv_eq_ediv_of_nonneg h0]
   rcases hb with rfl | rfl <;> omega
  ·obtain ⟨n,rfl⟩:∃ n,a=-n:=⟨-a,Mf⟩
   rw [uC n _ Mf];rcases hb with rfl | rfl <;> omega
 have hm:-400000000000<=a.tdiv (b:Int)*b/\a.tdiv (b:Int)*b<=400000000000:=by
  rcases hb with rfl | rfl <;> omega
 have hw1:IntKind.i64.wrap (a.tdiv (b:Int))=a.tdiv (b:Int):=Mi;have hw2:IntKind.i64.wrap (a.tdiv (b:Int)*b)=a.tdiv (b:Int)*b:=Mi;have hw3:IntKind.i64.wrap (a.tdiv (b:Int)-1)=a.tdiv (b:Int)-1:=Mi;obtain ⟨T,hT⟩:∃ T,T=a.tdiv (b:Int):=⟨_,rfl⟩
 rw [<- hT] at HD hw1 hw2 hw3;have eT:a.tdiv (b:Int)=T:=hT.symm;obtain ⟨P,hP⟩:∃ P,P=T*b:=⟨_,rfl⟩
 have hw4:IntKind.i64.wrap (T*b)=P:=hw2.trans hP.symm;rw [<- hP] at HD;clear ht hm hP ha hb hT hw2;by_cases MO:a<P
 ·rw [if_pos MO] at HD
  go_enter Tryz.func215,Tryz.ntmps215;go_wp2_with fail;go_ret;exact ⟨dN HD,rfl⟩
 ·rw [if_neg MO] at HD
  go_enter Tryz.func215,Tryz.ntmps215;go_wp2_with fail;go_ret;exact ⟨dN HD,rfl⟩
end
def jg (l:List Int) (n u v m:Nat):Int:=l.getD m 0*iU u (m % n)*iU v (m / n)
def ek (l:List Int) (n u v:Nat):Nat->Int
 | 0=>0
 | m+1=>ek l n u v m+jg l n u v m
theorem lY (u x:Nat):iU u x=1\/iU u x=-1:=by unfold iU;split <;> omega
theorem su {l:List Int} {B:Int} (h:cN B l) {n u v m:Nat} (hm:m<l.length):-B<=jg l n u v m/\jg l n u v m<=B:=by
 have:=h m hm;unfold jg;rcases lY u (m % n) with e | e <;> rcases lY v (m / n) with e' | e' <;> rw [e,e'] <;> omega
theorem qr {l:List Int} {B:Int} (h:cN B l) (n u v:Nat):∀ m:Nat,m<=l.length->-(m*B)<=ek l n u v m/\ek l n u v m<=m*B
 | 0,_=>by simp [ek]
 | m+1,hm=>by
  have ih:=qr h n u v m Mf;have ht:=su (n:=n) (u:=u) (v:=v) h (show m<l.length by omega);have e:((m+1:Nat):Int)*B=m*B+B:=by rw [LW,Int.add_mul];simp
  rw [e];unfold ek;omega
theorem wF {a b c d:List Int} (h:a.length=c.length):dp (a ++ b) (c ++ d)=dp a c+dp b d:=by
 unfold dp;rw [List.zipWith_append h,List.sum_append]
theorem Da (f:Nat->Int) (l:List Int):∀ m:Nat,m+1<=l.length->dp ((List.range (m+1)).map f) (l.take (m+1))=dp ((List.range m).map f) (l.take m)+f m*l.getD m 0:=by
 intro m hm;rw [List.range_succ,LS,List.take_succ_eq_append_getElem Mf,wF (by rw [Lt,List.length_range,Lp];omega),Le,Lf Mf];simp [dp]
theorem xR {l:List Int} {n k:Nat}:∀ m:Nat,m<=l.length->dp ((List.range m).map fun i=>iU (k % n) (i % n)*iU (k / n) (i / n)) (l.take m)=ek l n (k % n) (k / n) m
 | 0,_=>by simp [dp,ek]
 | m+1,hm=>by
  rw [Da _ l m hm,xR m Mf];show _=ek l n (k % n) (k / n) m+jg l n (k % n) (k / n) m;unfold jg;rw [Int.mul_comm _ (l.getD m 0),Int.mul_assoc]
def gy (n:Nat) (l:List Int):List Int:=(List.range (n*n)).map fun k=>dp (nw n k) l
theorem dJ (n:Nat) (l:List Int):(gy n l).length=n*n:=by simp [gy]
theorem sj {n:Nat} {l:List Int} (hl:l.length=n*n) {k:Nat} (hk:k<n*n):(gy n l).getD k 0=ek l n (k % n) (k / n) (n*n):=by
 rw [<- xR (l:=l) (n*n) Mf,List.take_of_length_le Mf,Le,gy,LG,List.getElem?_range hk]
 rfl
def stS (D:List Int) (N K:Nat):List Int:=D.take K ++ List.replicate (N-K) 0
theorem oI {D:List Int} {N K:Nat} (hD:D.length=N) (hK:K<=N):(stS D N K).length=N:=by simp [stS];omega
theorem Kr {D:List Int} {N K:Nat} (hD:D.length=N) (hK:K<N):(stS D N K).getD K 0=0:=by
 unfold stS;rw [Le,Lu Mw,List.getElem?_replicate]
 split <;> rfl
theorem yH {D:List Int} {N K:Nat} (hD:D.length=N) (hK:K<N):(stS D N K).set K 0=stS D N K:=by
 refine List.ext_getElem? fun i=>?_
 rw [List.getElem?_set]
 split
 ·rename_i h;subst h
  have h1:=Kr hD hK;have h2:=oI (K:=K) hD Mf;rw [if_pos Mf];rw [Le] at h1;rw [Lf Mf] at h1 |-
  simpa using h1.symm
 ·rfl
theorem yG {D:List Int} {N K:Nat} (hD:D.length=N) (hK:K<N):(stS D N K).set K (D.getD K 0)=stS D N (K+1):=by
 unfold stS;have h1:(D.take K).length=K:=Mw;obtain ⟨m,hm⟩:∃ m,N-K=m+1:=⟨N-K-1,Mf⟩
 rw [hm,show N-(K+1)=m by omega,List.set_append_right _ _ Mf,h1,Nat.sub_self,List.replicate_succ,Lj,List.take_succ_eq_append_getElem Mf,LR,Le,Lf Mf]
 rfl
theorem CD {D:List Int} {N:Nat} (hD:D.length=N):stS D N N=D:=by simp [stS,<- hD]
section
theorem GI {p:Prop} (h:p:=by
 clear NC NE MX hqb Sj JoM hte hps hgp hpb htb Zn Jgz JpP hmb hm hmN MR hqq;go_wp2_with fail;refine wp_region_still_tail 25 Mh Mh ?_;simp only [List.take_succ_cons,List.take_zero,List.drop_succ_cons,List.drop_zero]
 repeat (still_step;(try simp only [Act.put,Lg,Lj,Lk]))
 still_call ((HSu.out _).mono fun e w' h=>⟨h.1,h.2.symm⟩)
 repeat (still_step;(try simp only [Act.put,Lg,Lj,Lk]))
 still_call ((HSv.out _).mono fun e w' h=>⟨h.1,h.2.symm⟩)
 repeat (still_step;(try simp only [Act.put,Lg,Lj,Lk]))
 try refine wpStill_nil ?_
 go_wp2_with fail;refine ⟨⟨x+1,by have:=Hx.out;omega,Mm,lh ?_,lh ((HQx.trans OH (U:=[]) Mg (fun g hg MO=>Mj)).drew)⟩,by simp [intOf];have:=Hx.out;omega⟩;rw [Hpx.out,Hqq.out];exact NT.quiet (ae.refl _ _).drew):p:=h
theorem ru {lo hi:Nat} {v:Value} {l:List Int} {w:World} (h:ah .i64 lo hi w v l) (hl:l.length=16) (hb:cN 6266880 l):Calls Tryz.prog 205 #[v,.int .i64 4] w fun e w'=>((∃ v',e=.returned v'/\Own .i64 3 w.heap.size w' v' (gy 4 l))/\ae [] w w'):=by
 refine aN fun Q MM=>?_
 obtain ⟨a,cap,rfl,-,-,Pd,MZ⟩:=h.open;obtain ⟨b,off,rfl,-,-⟩:=Pd 0 Mf;have XP:=lh (fun m (hm:m<16)=>MZ b off rfl m Mf);have Hb0:=lh (block_lt_of_cell (XP.out 0 Mf));have HB:=lh hb;have HL:=lh hl;have TU:=lh (dJ 4 l);have HDa:=lh (fun k (hk:k<16)=>sj (n:=4) (by rw [hl]) hk);rw [hl];clear h hl hb Pd MZ;generalize gy 4 l=D at *
 have Rc:∀ wz:World,(Instr.makeSlice 22 (.int .i64 16) (.int .i64 16)).run Tryz.prog wz=.ok (.slice (some ⟨wz.heap.size,0,none⟩) 16 16) (wz.alloc (.cells (madeCells #[()] 16) 3)):=fun wz=>run_make_row' (P:=Tryz.prog) 22 3 (.int .i64 0) 8 EI.ut Mh rfl .i64 .i64 16 Mf Mf wz
 have Ua:=fD .i64 3 w 16 Mo;have HM:Hid (Own .i64 3 w.heap.size (w.alloc (.cells (madeCells #[()] 16) 3)) (.slice (some ⟨w.heap.size,0,none⟩) 16 16) (stS D 16 0)):=lh (by rw [show stS D 16 0=List.replicate 16 0 by simp [stS]];exact Ua);have MT:=lh (ae.new w (.cells (madeCells #[()] 16) 3));have hw4:IntKind.i64.wrap (4*4)=16:=Mn;clear Ua;go_enter Tryz.func205,Tryz.ntmps205;go_wp2_with fail;clear Rc;generalize NB:World.alloc w _=W1 at *
 clear NB;go_loopw [6,7,8,9] (fun i _ _ _ wr=>∃ v:Nat,v<=4/\i=.int .i64 v/\Hid (Own .i64 3 w.heap.size wr (.slice (some ⟨w.heap.size,0,none⟩) 16 16) (stS D 16 (v*4)))/\Hid (ae [] w wr)) (fun i _ _ _ _=>4-(intOf i).toNat)
 case atStart=>exact ⟨0,Mf,rfl,by rw [Nat.zero_mul];exact HM,MT⟩
 case round =>
  obtain ⟨v,hv,rfl,HOv,HQv⟩:=hrel;by_cases JuK:v<4
  ·have hvi:(v:Int)<4:=Mf
   have hv0:(0:Int)<=(v:Int):=Mf;go_wp2_with fail;go_loopw [7,8,9] (fun i _ _ wr=>∃ u:Nat,u<=4/\i=.int .i64 u/\Hid (Own .i64 3 w.heap.size wr (.slice (some ⟨w.heap.size,0,none⟩) 16 16) (stS D 16 (v*4+u)))/\Hid (ae [] w wr)) (fun i _ _ _=>4-(intOf i).toNat)
   case atStart=>exact ⟨0,Mf,rfl,HOv,HQv⟩
   case round =>
    obtain ⟨u,hu,rfl,HOu,HQu⟩:=hrel;by_cases JuI:u<4
    ·have hui:(u:Int)<4:=Mf
     have hu0:(0:Int)<=(u:Int):=Mf;obtain ⟨K,hK⟩:∃ K,K=v*4+u:=⟨_,rfl⟩
     rw [<- hK] at HOu;have e1:IntKind.i64.wrap ((v:Int)*4)=(v:Int)*4:=Mi;have e2:(v:Int)*4+(u:Int)=(K:Int):=Mf;have e5:IntKind.i64.wrap (K:Int)=(K:Int):=Mi;have hK0:(0:Int)<=(K:Int):=Mf;have hKi:(K:Int)<16:=Mf;have ZI:Hid (Own .i64 3 w.heap.size wr (.slice (some ⟨w.heap.size,0,none⟩) 16 16) ((stS D 16 K).set K (ek l 4 u v (0*4)))):=lh (by rw [Nat.zero_mul,show ek l 4 u v 0=0 from rfl,yH TU.out Mf];exact HOu);have HK:=lh hK;clear hK;go_wp2_with fail;go_loopw [8,9] (fun i _ wr=>∃ y:Nat,y<=4/\i=.int .i64 y/\Hid (Own .i64 3 w.heap.size wr (.slice (some ⟨w.heap.size,0,none⟩) 16 16) ((stS D 16 K).set K (ek l 4 u v (y*4))))/\Hid (ae [] w wr)) (fun i _ _=>4-(intOf i).toNat)
     case atStart=>exact ⟨0,Mf,rfl,ZI,HQu⟩
     case round =>
      obtain ⟨y,hy,rfl,HOy,HQy⟩:=hrel;by_cases JuO:y<4
      ·have Vu:(y:Int)<4:=Mf
       have Sr:(0:Int)<=(y:Int):=Mf;go_wp2_with fail;go_loopw [9] (fun i wr=>∃ x:Nat,x<=4/\i=.int .i64 x/\Hid (Own .i64 3 w.heap.size wr (.slice (some ⟨w.heap.size,0,none⟩) 16 16) ((stS D 16 K).set K (ek l 4 u v (y*4+x))))/\Hid (ae [] w wr)) (fun i _=>4-(intOf i).toNat)
       case atStart=>exact ⟨0,Mf,rfl,HOy,HQy⟩
       case round =>
        obtain ⟨x,hx,rfl,SI,HQx⟩:=hrel;by_cases JkL:x<4
        ·have Vi:(x:Int)<4:=Mf
         have Ue:(0:Int)<=(x:Int):=Mf;have Hx:=lh JkL;obtain ⟨m,hm⟩:∃ m,m=y*4+x:=⟨_,rfl⟩
         have hmN:m<16:=Mf;have e3:IntKind.i64.wrap ((y:Int)*4)=(y:Int)*4:=Mi;have e4:(y:Int)*4+(x:Int)=(m:Int):=Mf;have e6:IntKind.i64.wrap (m:Int)=(m:Int):=Mi;have hm0:(0:Int)<=(m:Int):=Mf;have hmi:(m:Int)<16:=Mf;rw [<- hm] at SI;have MR:((stS D 16 K).set K (ek l 4 u v m)).length=16:=by rw [LK];exact oI TU Mf
         have cx:=SI.cellS MR.symm (i:=K) Mf;have fx:=SI.frzS MR.symm K;have cb:=HQx.cell (XP.out m hmN) Mg;have hpb:=qr HB 4 u v m (by rw [HL.out];omega);have htb:=su (n:=4) (u:=u) (v:=v) HB (show m<l.length by rw [HL.out];omega);have Zn:=HB.out m (by rw [HL.out];omega);have hps:ek l 4 u v (m+1)=ek l 4 u v m+jg l 4 u v m:=rfl;have hte:jg l 4 u v m=l.getD m 0*iU u x*iU v y:=by unfold jg;rw [show m % 4=x by omega,show m / 4=y by omega]
         have hgp:((stS D 16 K).set K (ek l 4 u v m)).getD K 0=ek l 4 u v m:=by
          rw [Le,LZ (by rw [oI TU.out Mf];omega)]
          rfl
         rw [hgp] at cx;have hmb:(m:Int)*6266880<=15*6266880:=Int.mul_le_mul_of_nonneg_right Mf Mf;have Jgz:=lY u x;have JpP:=lY v y;have HSu:=lh (fun W=>lL u x Mf Mf W);have HSv:=lh (fun W=>lL v y Mf Mf W);generalize l.getD m 0=c at *
         generalize iU u x=s1 at *
         generalize iU v y=s2 at *
         generalize jg l 4 u v m=T at *
         obtain ⟨c1,Sj⟩:∃ c1,c1=c*s1:=⟨_,rfl⟩
         have JoM:-6266880<=c1/\c1<=6266880:=by rcases Jgz with e | e <;> rw [e] at Sj <;> omega
         rw [<- Sj] at hte;have n1:IntKind.i64.wrap (c*s1)=c1:=by rw [<- Sj,Ll];omega
         have n2:IntKind.i64.wrap (c1*s2)=T:=by rw [<- hte,Ll];omega
         have hqb:-401080320<=ek l 4 u v (m+1)/\ek l 4 u v (m+1)<=401080320:=Mf;have n3:IntKind.i64.wrap (ek l 4 u v m+T)=ek l 4 u v (m+1):=by rw [<- hps,Ll];omega
         have Hpx:Hid (y*4+(x+1)=m+1):=lh Mf;generalize hqq:ek l 4 u v (m+1)=q at *
         have MX:InK .i64 q:=by simp only [InK];omega
         obtain ⟨NC,NE⟩:=SI.storeS MR.symm MX K;rw [List.set_set] at NC;have NT:=lh NC;have OH:=lh NE;have Hqq:=lh hqq;generalize ek l 4 u v m=p at *
         exact GI
        ·obtain rfl:x=4:=Mf
         have Vi:¬ ((4:Nat):Int)<4:=Mf;go_wp2_with fail;exact ⟨⟨y+1,Mf,Mm,by rw [show (y+1)*4=y*4+4 by omega];exact SI,HQx⟩,Mk⟩
      ·obtain rfl:y=4:=Mf
       have Vu:¬ ((4:Nat):Int)<4:=Mf;have hK:=HK.out;have hD:=HDa.out K Mf;rw [show K % 4=u by omega,show K / 4=v by omega] at hD;have Rl:=yG TU (show K<16 by omega);rw [hD] at Rl;have PS:Hid (Own .i64 3 w.heap.size wr (.slice (some ⟨w.heap.size,0,none⟩) 16 16) (stS D 16 (K+1))):=lh (by rw [<- Rl];exact HOy);clear hD Rl hK;go_wp2_with fail;exact ⟨⟨u+1,Mf,Mm,by rw [show v*4+(u+1)=K+1 by have:=HK.out;omega];exact PS,HQy⟩,Mk⟩
    ·obtain rfl:u=4:=Mf
     have hui:¬ ((4:Nat):Int)<4:=Mf;go_wp2_with fail;exact ⟨⟨v+1,Mf,Mm,by rw [show (v+1)*4=v*4+4 by omega];exact HOu,HQu⟩,Mk⟩
  ·obtain rfl:v=4:=Mf
   have hvi:¬ ((4:Nat):Int)<4:=Mf;go_wp2_with fail;refine MM.out _ _ ⟨⟨_,rfl,?_⟩,HQv.out⟩;have:=HOv.out;rw [show 4*4=16 from rfl,CD TU.out] at this;exact this
theorem ry {lo hi:Nat} {v:Value} {l:List Int} {w:World} (h:ah .i64 lo hi w v l) (hl:l.length=64) (hb:cN 6266880 l):Calls Tryz.prog 205 #[v,.int .i64 8] w fun e w'=>((∃ v',e=.returned v'/\Own .i64 3 w.heap.size w' v' (gy 8 l))/\ae [] w w'):=by
 refine aN fun Q MM=>?_
 obtain ⟨a,cap,rfl,-,-,Pd,MZ⟩:=h.open;obtain ⟨b,off,rfl,-,-⟩:=Pd 0 Mf;have XP:=lh (fun m (hm:m<64)=>MZ b off rfl m Mf);have Hb0:=lh (block_lt_of_cell (XP.out 0 Mf));have HB:=lh hb;have HL:=lh hl;have TU:=lh (dJ 8 l);have HDa:=lh (fun k (hk:k<64)=>sj (n:=8) (by rw [hl]) hk);rw [hl];clear h hl hb Pd MZ;generalize gy 8 l=D at *
 have Rc:∀ wz:World,(Instr.makeSlice 22 (.int .i64 64) (.int .i64 64)).run Tryz.prog wz=.ok (.slice (some ⟨wz.heap.size,0,none⟩) 64 64) (wz.alloc (.cells (madeCells #[()] 64) 3)):=fun wz=>run_make_row' (P:=Tryz.prog) 22 3 (.int .i64 0) 8 EI.ut Mh rfl .i64 .i64 64 Mf Mf wz
 have Ua:=fD .i64 3 w 64 Mo;have HM:Hid (Own .i64 3 w.heap.size (w.alloc (.cells (madeCells #[()] 64) 3)) (.slice (some ⟨w.heap.size,0,none⟩) 64 64) (stS D 64 0)):=lh (by rw [show stS D 64 0=List.replicate 64 0 by simp [stS]];exact Ua);have MT:=lh (ae.new w (.cells (madeCells #[()] 64) 3));have hw8:IntKind.i64.wrap (8*8)=64:=Mn;clear Ua;go_enter Tryz.func205,Tryz.ntmps205;go_wp2_with fail;clear Rc;generalize NB:World.alloc w _=W1 at *
 clear NB;go_loopw [6,7,8,9] (fun i _ _ _ wr=>∃ v:Nat,v<=8/\i=.int .i64 v/\Hid (Own .i64 3 w.heap.size wr (.slice (some ⟨w.heap.size,0,none⟩) 64 64) (stS D 64 (v*8)))/\Hid (ae [] w wr)) (fun i _ _ _ _=>8-(intOf i).toNat)
 case atStart=>exact ⟨0,Mf,rfl,by rw [Nat.zero_mul];exact HM,MT⟩
 case round =>
  obtain ⟨v,hv,rfl,HOv,HQv⟩:=hrel;by_cases JuK:v<8
  ·have hvi:(v:Int)<8:=Mf
   have hv0:(0:Int)<=(v:Int):=Mf;go_wp2_with fail;go_loopw [7,8,9] (fun i _ _ wr=>∃ u:Nat,u<=8/\i=.int .i64 u/\Hid (Own .i64 3 w.heap.size wr (.slice (some ⟨w.heap.size,0,none⟩) 64 64) (stS D 64 (v*8+u)))/\Hid (ae [] w wr)) (fun i _ _ _=>8-(intOf i).toNat)
   case atStart=>exact ⟨0,Mf,rfl,HOv,HQv⟩
   case round =>
    obtain ⟨u,hu,rfl,HOu,HQu⟩:=hrel;by_cases JuI:u<8
    ·have hui:(u:Int)<8:=Mf
     have hu0:(0:Int)<=(u:Int):=Mf;obtain ⟨K,hK⟩:∃ K,K=v*8+u:=⟨_,rfl⟩
     rw [<- hK] at HOu;have e1:IntKind.i64.wrap ((v:Int)*8)=(v:Int)*8:=Mi;have e2:(v:Int)*8+(u:Int)=(K:Int):=Mf;have e5:IntKind.i64.wrap (K:Int)=(K:Int):=Mi;have hK0:(0:Int)<=(K:Int):=Mf;have hKi:(K:Int)<64:=Mf;have ZI:Hid (Own .i64 3 w.heap.size wr (.slice (some ⟨w.heap.size,0,none⟩) 64 64) ((stS D 64 K).set K (ek l 8 u v (0*8)))):=lh (by rw [Nat.zero_mul,show ek l 8 u v 0=0 from rfl,yH TU.out Mf];exact HOu);have HK:=lh hK;clear hK;go_wp2_with fail;go_loopw [8,9] (fun i _ wr=>∃ y:Nat,y<=8/\i=.int .i64 y/\Hid (Own .i64 3 w.heap.size wr (.slice (some ⟨w.heap.size,0,none⟩) 64 64) ((stS D 64 K).set K (ek l 8 u v (y*8))))/\Hid (ae [] w wr)) (fun i _ _=>8-(intOf i).toNat)
     case atStart=>exact ⟨0,Mf,rfl,ZI,HQu⟩
     case round =>
      obtain ⟨y,hy,rfl,HOy,HQy⟩:=hrel;by_cases JuO:y<8
      ·have Vu:(y:Int)<8:=Mf
       have Sr:(0:Int)<=(y:Int):=Mf;go_wp2_with fail;go_loopw [9] (fun i wr=>∃ x:Nat,x<=8/\i=.int .i64 x/\Hid (Own .i64 3 w.heap.size wr (.slice (some ⟨w.heap.size,0,none⟩) 64 64) ((stS D 64 K).set K (ek l 8 u v (y*8+x))))/\Hid (ae [] w wr)) (fun i _=>8-(intOf i).toNat)
       case atStart=>exact ⟨0,Mf,rfl,HOy,HQy⟩
       case round =>
        obtain ⟨x,hx,rfl,SI,HQx⟩:=hrel;by_cases JkL:x<8
        ·have Vi:(x:Int)<8:=Mf
         have Ue:(0:Int)<=(x:Int):=Mf;have Hx:=lh JkL;obtain ⟨m,hm⟩:∃ m,m=y*8+x:=⟨_,rfl⟩
         have hmN:m<64:=Mf;have e3:IntKind.i64.wrap ((y:Int)*8)=(y:Int)*8:=Mi;have e4:(y:Int)*8+(x:Int)=(m:Int):=Mf;have e6:IntKind.i64.wrap (m:Int)=(m:Int):=Mi;have hm0:(0:Int)<=(m:Int):=Mf;have hmi:(m:Int)<64:=Mf;rw [<- hm] at SI;have MR:((stS D 64 K).set K (ek l 8 u v m)).length=64:=by rw [LK];exact oI TU Mf
         have cx:=SI.cellS MR.symm (i:=K) Mf;have fx:=SI.frzS MR.symm K;have cb:=HQx.cell (XP.out m hmN) Mg;have hpb:=qr HB 8 u v m (by rw [HL.out];omega);have htb:=su (n:=8) (u:=u) (v:=v) HB (show m<l.length by rw [HL.out];omega);have Zn:=HB.out m (by rw [HL.out];omega);have hps:ek l 8 u v (m+1)=ek l 8 u v m+jg l 8 u v m:=rfl;have hte:jg l 8 u v m=l.getD m 0*iU u x*iU v y:=by unfold jg;rw [show m % 8=x by omega,show m / 8=y by omega]
         have hgp:((stS D 64 K).set K (ek l 8 u v m)).getD K 0=ek l 8 u v m:=by
          rw [Le,LZ (by rw [oI TU.out Mf];omega)]
          rfl
         rw [hgp] at cx;have hmb:(m:Int)*6266880<=63*6266880:=Int.mul_le_mul_of_nonneg_right Mf Mf;have Jgz:=lY u x;have JpP:=lY v y;have HSu:=lh (fun W=>lL u x Mf Mf W);have HSv:=lh (fun W=>lL v y Mf Mf W);generalize l.getD m 0=c at *
         generalize iU u x=s1 at *
         generalize iU v y=s2 at *
         generalize jg l 8 u v m=T at *
         obtain ⟨c1,Sj⟩:∃ c1,c1=c*s1:=⟨_,rfl⟩
         have JoM:-6266880<=c1/\c1<=6266880:=by rcases Jgz with e | e <;> rw [e] at Sj <;> omega
         rw [<- Sj] at hte;have n1:IntKind.i64.wrap (c*s1)=c1:=by rw [<- Sj,Ll];omega
         have n2:IntKind.i64.wrap (c1*s2)=T:=by rw [<- hte,Ll];omega
         have hqb:-401080320<=ek l 8 u v (m+1)/\ek l 8 u v (m+1)<=401080320:=Mf;have n3:IntKind.i64.wrap (ek l 8 u v m+T)=ek l 8 u v (m+1):=by rw [<- hps,Ll];omega
         have Hpx:Hid (y*8+(x+1)=m+1):=lh Mf;generalize hqq:ek l 8 u v (m+1)=q at *
         have MX:InK .i64 q:=by simp only [InK];omega
         obtain ⟨NC,NE⟩:=SI.storeS MR.symm MX K;rw [List.set_set] at NC;have NT:=lh NC;have OH:=lh NE;have Hqq:=lh hqq;generalize ek l 8 u v m=p at *
         exact GI
        ·obtain rfl:x=8:=Mf
         have Vi:¬ ((8:Nat):Int)<8:=Mf;go_wp2_with fail;exact ⟨⟨y+1,Mf,Mm,by rw [show (y+1)*8=y*8+8 by omega];exact SI,HQx⟩,Mk⟩
      ·obtain rfl:y=8:=Mf
       have Vu:¬ ((8:Nat):Int)<8:=Mf;have hK:=HK.out;have hD:=HDa.out K Mf;rw [show K % 8=u by omega,show K / 8=v by omega] at hD;have Rl:=yG TU (show K<64 by omega);rw [hD] at Rl;have PS:Hid (Own .i64 3 w.heap.size wr (.slice (some ⟨w.heap.size,0,none⟩) 64 64) (stS D 64 (K+1))):=lh (by rw [<- Rl];exact HOy);clear hD Rl hK;go_wp2_with fail;exact ⟨⟨u+1,Mf,Mm,by rw [show v*8+(u+1)=K+1 by have:=HK.out;omega];exact PS,HQy⟩,Mk⟩
    ·obtain rfl:u=8:=Mf
     have hui:¬ ((8:Nat):Int)<8:=Mf;go_wp2_with fail;exact ⟨⟨v+1,Mf,Mm,by rw [show (v+1)*8=v*8+8 by omega];exact HOu,HQu⟩,Mk⟩
  ·obtain rfl:v=8:=Mf
   have hvi:¬ ((8:Nat):Int)<8:=Mf;go_wp2_with fail;refine MM.out _ _ ⟨⟨_,rfl,?_⟩,HQv.out⟩;have:=HOv.out;rw [show 8*8=64 from rfl,CD TU.out] at this;exact this
end
def kT (I S:List Int) (k:Nat):List Int:=I.take k ++ S.drop k
theorem xF {I S:List Int} {N k:Nat} (hI:I.length=N) (hS:S.length=N) (hk:k<=N):(kT I S k).length=N:=by simp [kT];omega
theorem Bq {I S:List Int} {N k:Nat} (hI:I.length=N) (hS:S.length=N) (hk:k<N):(kT I S k).getD k 0=S.getD k 0:=by
 unfold kT;rw [Le,Lu Mw,Lp,Nat.min_eq_left Mf,Nat.sub_self,LH,Le]
 rfl
theorem tW {I S:List Int} {N k:Nat} (hI:I.length=N) (hS:S.length=N) (hk:k<N):(kT I S k).set k (I.getD k 0)=kT I S (k+1):=by
 unfold kT;have h1:(I.take k).length=k:=Mw;rw [List.set_append_right _ _ Mf,h1,Nat.sub_self,LC (show k<S.length by omega),Lj,List.take_succ_eq_append_getElem Mf,LR,Le,Lf Mf]
 rfl
theorem sB {l:List Int} {B:Int} (h:cN B l) {x y:Int} (hx:x<=-B) (hy:B<=y):aX l x y=true:=by
 unfold aX;rw [List.all_eq_true];intro z hz;obtain ⟨i,hi,rfl⟩:=List.mem_iff_getElem.1 hz;have:=h i hi;rw [Le,Lf hi] at this;simp only [Option.getD_some] at this;simp;omega
theorem jY {n:Nat} (hn:n=4\/n=8) {l:List Int} (hl:l.length=n*n):bQ l=(gy n l).map fun v=>(v+((n*n:Nat):Int) / 2) / ((n*n:Nat):Int):=by
 unfold bQ;rw [dS hn hl,hl]
 rfl
theorem sr {n:Nat} {l:List Int} (hl:l.length=n*n) (h:cN 6266880 l) (hn:n*n<=64):cN 401080320 (gy n l):=by
 intro k hk;rw [dJ] at hk;rw [sj hl hk];have:=qr h n (k % n) (k / n) (n*n) Mf;have hm:((n*n:Nat):Int)*6266880<=64*6266880:=Int.mul_le_mul_of_nonneg_right Mf Mf;omega
section
theorem Gy {p:Prop} (h:p:=by
 rw [hm] at Nc;clear hm;have Xk:=MW.rowAt Pk (by rw [mSg];have:=Hgw.out;omega);obtain ⟨z0,z1,y0,y1,-⟩:=aJ Xk;have Hre:=lh Xk;clear Xk;go_wp2_with fail;obtain ⟨MS,Nd⟩:=aH (x:=.int .i64 0) (y:=.slice none 0 0) Hre;refine bodyPost_ret (aA Tryz.results170 _ _ w.heap.size _ _ _ _ _ rfl rfl MS Tryz.underlying39 rfl (aR _ rfl)) rfl (MM.out _ _ ⟨⟨_,rfl,?_⟩,?_⟩)
 ·exact (Nc.only Nd (fun x hx hh=>by rw [mSg] at hx;subst hx;simp only [Value.ownBlock] at hh;injection hh with hh;have:=Hgw.out;omega)).lower MT.size
 ·exact ((Na.trans MW (U:=[]) Mg (fun x hx MO=>by rw [mSg] at hx;have:=Hgw.out;omega)).trans Nd (U:=[]) Mg (fun x hx MO=>Mr))):p:=h
theorem Gz {p:Prop} (h:p:=by
 clear NC NE MX Rl hia MR MO;go_wp2_with fail;go_at_call 215;refine (HDn.out _).mono ?_;rintro e w' ⟨rfl,rfl⟩;go_wp2_with fail;exact ⟨⟨k+1,by have:=Oq.out;omega,Mm,NT,lh (MW.trans OH (fun _ h _=>h) (fun _ h _=>h))⟩,by simp [intOf];have:=Oq.out;omega⟩):p:=h
theorem sP {lo hi:Nat} {v:Value} {l:List Int} {w:World} (h:ah .i64 lo hi w v l) (hl:l.length=16) (hb:cN 6266880 l):Calls Tryz.prog 170 #[v] w fun e w'=>((∃ v',e=.returned (.tuple #[v',.agg #[(),JEu]])/\Own .i64 3 w.heap.size w' v' (bQ l))/\ae [] w w'):=by
 refine aN fun Q MM=>?_
 have MP:=ae.new w (.cells #[(),JEu] 39);have Nq:Hid ((w.alloc (.cells #[(),JEu] 39)).heap[w.heap.size]?=some (.cells #[(),JEu] 39 (0,0))):=lh (heap_alloc_new w _);have PO:Hid ((w.alloc (.cells #[(),JEu] 39)).heap.size=w.heap.size+1):=lh Mg;have HI:=lh (fun (W:World) (o:ae [] (w.alloc (.cells #[(),JEu] 39)) W)=>h.quiet (MP.q o));have Wp:=lh (sB hb (show (-16777216:Int)<=-6266880 by omega) (show (6266880:Int)<=16777216 by omega));have HSu:=lh (fun (W:World) (o:ae [] (w.alloc (.cells #[(),JEu] 39)) W)=>ru (HI.out W o) hl hb);have HSd:Hid (∀ W,Calls Tryz.prog 204 #[.int .i64 16] W fun e w'=>e=.returned (.int .i64 4)/\W=w'):=lh (fun W=>lK 16 Mf W);have WT:=lh (show (gy 4 l).length=16 from dJ 4 l);have HSb:=lh (sr (n:=4) hl hb Mf);have HIl:Hid ((bQ l).length=16):=lh (by rw [fW,hl]);have HIa:Hid (∀ k,k<16->(bQ l).getD k 0=((gy 4 l).getD k 0+8) / 16):=lh (fun k hk=>by
  rw [jY (n:=4) Mf hl,Le,LG,Lf (by rw [dJ];exact hk),Le,Lf (by rw [dJ];exact hk)]
  rfl)
 obtain ⟨a,cap,rfl,-⟩:=h.open;rw [hl] at HI HSu |-
 have MT:=lh MP;clear h hb MP;generalize gy 4 l=S at *
 generalize bQ l=I at *
 go_enter Tryz.func170,Tryz.ntmps170;go_wp2_with fail;generalize NB:World.alloc w _=W1 at *
 clear NB;go_at_call 204;refine (HSd.out _).mono ?_;rintro e w' ⟨rfl,rfl⟩;go_wp2_with fail;go_at_call 61;refine (bS (-16777216) 16777216 (HI.out W1 (ae.refl _ _))).mono ?_;rintro e w' ⟨rfl,rfl⟩;rw [Wp.out];go_wp2_with fail;go_at_call 205;refine (HSu.out W1 (ae.refl _ _)).mono ?_;rintro e w2 ⟨⟨v2,rfl,MQ⟩,MV⟩;obtain ⟨g,Ot,rfl,OL,Nl⟩:=MQ.form (by have:=WT.out;omega);rw [WT.out] at MQ |-
 have Sb:=lh MQ;have Na:=lh (MT.q MV);have Pk:=lh (MV.row Nq);have Hg:=lh (And.intro OL Nl);have Hgw:Hid (w.heap.size<g):=lh (by have:=PO.out;omega);clear MQ MV OL Nl;go_wp2_with fail;go_loopw [6] (fun i wr=>∃ k:Nat,k<=16/\i=.int .i64 k/\Hid (Own .i64 3 W1.heap.size wr (.slice (some ⟨g,0,none⟩) 16 Ot) (kT I S k))/\Hid (ae [g] w2 wr)) (fun i _=>16-(intOf i).toNat)
 case atStart=>exact ⟨0,Mf,rfl,lh (by rw [show kT I S 0=S by simp [kT]];exact Sb),lh (ae.refl _ _)⟩
 case round =>
  obtain ⟨k,hk,rfl,Nc,MW⟩:=hrel;by_cases MO:k<16
  ·have Ny:(k:Int)<16:=Mf
   have NU:(0:Int)<=(k:Int):=Mf;have MR:=xF (k:=k) HIl WT Mf;have cx:=Nc.cellS MR.symm (i:=k) Mf;have fx:=Nc.frzS MR.symm k;rw [Bq HIl.out WT.out MO] at cx;have Rl:=tW HIl WT MO;have hia:=HIa.out k MO;have hsb:=HSb.out k (by rw [WT.out];exact MO);rw [hia] at Rl;generalize S.getD k 0=s at *
   have hd0:wrap64 (4*4)=16:=by unfold wrap64;omega
   have hd1:IntKind.i64.wrap (4*4)=16:=Mn;have YE:(16:Int).tdiv 2=8:=Mn;have n1:IntKind.i64.wrap (s+8)=s+8:=Mi;have HDn:Hid (∀ W,Calls Tryz.prog 215 #[.int .i64 (s+8),.int .i64 16] W fun e w'=>e=.returned (.int .i64 ((s+8) / 16))/\W=w'):=lh (fun W=>tO (s+8) 16 Mf Mf W);have MX:InK .i64 ((s+8) / 16):=by simp only [InK];omega
   obtain ⟨NC,NE⟩:=Nc.storeS MR.symm MX k;rw [Rl] at NC;have NT:=lh NC;have OH:=lh NE;have Oq:=lh MO;generalize (s+8) / 16=q at *
   exact Gz
  ·obtain rfl:k=16:=Mf
   have Ny:¬ ((16:Nat):Int)<16:=Mf;have hm:kT I S 16=I:=by unfold kT;rw [List.drop_eq_nil_of_le (by rw [WT.out];omega),LA,List.take_of_length_le (by rw [HIl.out];omega)]
   exact Gy
theorem sQ {lo hi:Nat} {v:Value} {l:List Int} {w:World} (h:ah .i64 lo hi w v l) (hl:l.length=64) (hb:cN 6266880 l):Calls Tryz.prog 170 #[v] w fun e w'=>((∃ v',e=.returned (.tuple #[v',.agg #[(),JEu]])/\Own .i64 3 w.heap.size w' v' (bQ l))/\ae [] w w'):=by
 refine aN fun Q MM=>?_
 have MP:=ae.new w (.cells #[(),JEu] 39);have Nq:Hid ((w.alloc (.cells #[(),JEu] 39)).heap[w.heap.size]?=some (.cells #[(),JEu] 39 (0,0))):=lh (heap_alloc_new w _);have PO:Hid ((w.alloc (.cells #[(),JEu] 39)).heap.size=w.heap.size+1):=lh Mg;have HI:=lh (fun (W:World) (o:ae [] (w.alloc (.cells #[(),JEu] 39)) W)=>h.quiet (MP.q o));have Wp:=lh (sB hb (show (-16777216:Int)<=-6266880 by omega) (show (6266880:Int)<=16777216 by omega));have HSu:=lh (fun (W:World) (o:ae [] (w.alloc (.cells #[(),JEu] 39)) W)=>ry (HI.out W o) hl hb);have HSd:Hid (∀ W,Calls Tryz.prog 204 #[.int .i64 64] W fun e w'=>e=.returned (.int .i64 8)/\W=w'):=lh (fun W=>lK 64 Mf W);have WT:=lh (show (gy 8 l).length=64 from dJ 8 l);have HSb:=lh (sr (n:=8) hl hb Mf);have HIl:Hid ((bQ l).length=64):=lh (by rw [fW,hl]);have HIa:Hid (∀ k,k<64->(bQ l).getD k 0=((gy 8 l).getD k 0+32) / 64):=lh (fun k hk=>by
  rw [jY (n:=8) Mf hl,Le,LG,Lf (by rw [dJ];exact hk),Le,Lf (by rw [dJ];exact hk)]
  rfl)
 obtain ⟨a,cap,rfl,-⟩:=h.open;rw [hl] at HI HSu |-
 have MT:=lh MP;clear h hb MP;generalize gy 8 l=S at *
 generalize bQ l=I at *
 go_enter Tryz.func170,Tryz.ntmps170;go_wp2_with fail;generalize NB:World.alloc w _=W1 at *
 clear NB;go_at_call 204;refine (HSd.out _).mono ?_;rintro e w' ⟨rfl,rfl⟩;go_wp2_with fail;go_at_call 61;refine (bS (-16777216) 16777216 (HI.out W1 (ae.refl _ _))).mono ?_;rintro e w' ⟨rfl,rfl⟩;rw [Wp.out];go_wp2_with fail;go_at_call 205;refine (HSu.out W1 (ae.refl _ _)).mono ?_;rintro e w2 ⟨⟨v2,rfl,MQ⟩,MV⟩;obtain ⟨g,Ot,rfl,OL,Nl⟩:=MQ.form (by have:=WT.out;omega);rw [WT.out] at MQ |-
 have Sb:=lh MQ;have Na:=lh (MT.q MV);have Pk:=lh (MV.row Nq);have Hg:=lh (And.intro OL Nl);have Hgw:Hid (w.heap.size<g):=lh (by have:=PO.out;omega);clear MQ MV OL Nl;go_wp2_with fail;go_loopw [6] (fun i wr=>∃ k:Nat,k<=64/\i=.int .i64 k/\Hid (Own .i64 3 W1.heap.size wr (.slice (some ⟨g,0,none⟩) 64 Ot) (kT I S k))/\Hid (ae [g] w2 wr)) (fun i _=>64-(intOf i).toNat)
 case atStart=>exact ⟨0,Mf,rfl,lh (by rw [show kT I S 0=S by simp [kT]];exact Sb),lh (ae.refl _ _)⟩
 case round =>
  obtain ⟨k,hk,rfl,Nc,MW⟩:=hrel;by_cases MO:k<64
  ·have Ny:(k:Int)<64:=Mf
   have NU:(0:Int)<=(k:Int):=Mf;have MR:=xF (k:=k) HIl WT Mf;have cx:=Nc.cellS MR.symm (i:=k) Mf;have fx:=Nc.frzS MR.symm k;rw [Bq HIl.out WT.out MO] at cx;have Rl:=tW HIl WT MO;have hia:=HIa.out k MO;have hsb:=HSb.out k (by rw [WT.out];exact MO);rw [hia] at Rl;generalize S.getD k 0=s at *
   have hd0:wrap64 (8*8)=64:=by unfold wrap64;omega
   have hd1:IntKind.i64.wrap (8*8)=64:=Mn;have YE:(64:Int).tdiv 2=32:=Mn;have n1:IntKind.i64.wrap (s+32)=s+32:=Mi;have HDn:Hid (∀ W,Calls Tryz.prog 215 #[.int .i64 (s+32),.int .i64 64] W fun e w'=>e=.returned (.int .i64 ((s+32) / 64))/\W=w'):=lh (fun W=>tO (s+32) 64 Mf Mf W);have MX:InK .i64 ((s+32) / 64):=by simp only [InK];omega
   obtain ⟨NC,NE⟩:=Nc.storeS MR.symm MX k;rw [Rl] at NC;have NT:=lh NC;have OH:=lh NE;have Oq:=lh MO;generalize (s+32) / 64=q at *
   exact Gz
  ·obtain rfl:k=64:=Mf
   have Ny:¬ ((64:Nat):Int)<64:=Mf;have hm:kT I S 64=I:=by unfold kT;rw [List.drop_eq_nil_of_le (by rw [WT.out];omega),LA,List.take_of_length_le (by rw [HIl.out];omega)]
   exact Gy
end
def dW (p r:List Int):List Int:=List.zipWith (fun a v=>ep (a+v)) p r
theorem iz {p r:List Int} (h:p.length=r.length):(dW p r).length=p.length:=by simp [dW,h]
theorem zm {p r:List Int} (h:p.length=r.length) {k:Nat} (hk:k<p.length):(dW p r).take (k+1)=(dW p r).take k ++ [ep (p.getD k 0+r.getD k 0)]:=by
 rw [List.take_succ_eq_append_getElem (by rw [iz h];exact hk)]
 congr 2
 simp [dW,List.getElem_zipWith,Le,hk,show k<r.length by omega]
section
theorem jZ {lo hi lo' hi':Nat} {pv rv:Value} {p r:List Int} {w:World} (hp:ah .i64 lo hi w pv p) (hr:ah .i64 lo' hi' w rv r) (hl:p.length=r.length) (hn:p.length<=64) (hs:au p) (hb:cN 401080320 r):Calls Tryz.prog 108 #[pv,rv] w fun e w'=>((∃ v',e=.returned v'/\Own .i64 3 w.heap.size w' v' (dW p r))/\ae [] w w'):=by
 refine aN fun Q MM=>?_
 have HN:=lh (fun k (hk:k<p.length)=>zm hl hk);have QN:=lh (iz hl);have HP:=lh hp;have HR:=lh hr;have HS:=lh hs;have HB:=lh hb;have Hl:=lh hl;obtain ⟨pa,NR,rfl,-⟩:=hp.open;obtain ⟨ra0,Jye,rfl,-⟩:=hr.open;rw [<- hl];rw [<- hl] at HR;have SH:(p.length:Int)<=64:=Mf;clear hp hr hs hb hl;generalize dW p r=D at *
 go_enter Tryz.func108,Tryz.ntmps108;go_wp2_with fail;go_loopw [6,5] (fun i y wr=>∃ k:Nat,k<=p.length/\i=.int .i64 k/\Hid (Own .i64 3 w.heap.size wr y (D.take k))/\Hid (bB w.heap.size y)/\Hid (ae [] w wr)) (fun i _ _=>p.length-(intOf i).toNat)
 case atStart=>exact ⟨0,Mf,rfl,lh (Own.nil _ _ _ _),lh (bB.nil _),lh (ae.refl _ _)⟩
 case round =>
  obtain ⟨k,hk,rfl,Nc,OO,MW⟩:=hrel;have SN:(D.take k).length=k:=by rw [Lp,QN.out];omega
  obtain ⟨ra,RT,rfl,-⟩:=Nc.ints.open;rw [SN] at Nc OO |-
  by_cases MO:k<p.length
  ·have Ny:(k:Int)<(p.length:Int):=Mf
   have NU:(0:Int)<=(k:Int):=Mf;obtain ⟨bp,op,JxZ,e1,-,-,cp0⟩:=HP.at MO;injection e1 with e1 e2 e3
   subst e1;subst e3;obtain ⟨br,or,Jyd,e1,-,-,cr0⟩:=HR.at (i:=k) (by have:=Hl.out;omega);injection e1 with e1 e4 e3
   subst e1;subst e3;have Rl:=HN.out k MO;have cp:=MW.cell cp0 Mg;have cr:=MW.cell cr0 Mg;have Hcp:=lh cp0;have Hcr:=lh cr0;clear cp0 cr0;have ha:=HS.at k;have hc:=HB.out k (by have:=Hl.out;omega);generalize p.getD k 0=a at *
   generalize r.getD k 0=c at *
   have hq:=iJ (a+c);obtain ⟨q,hcl⟩:∃ q,ep (a+c)=q:=⟨_,rfl⟩
   rw [hcl] at Rl hq;have hw:IntKind.i64.wrap (a+c)=a+c:=Mi;have QF:∀ z∈[q],InK .i64 z:=by simp only [mSg,forall_eq,InK];omega
   have Oa:=lh (fun (W:World)=>bg (k:=.i64) (w:=W) (t:=3) (l:=[q]) rfl Mo QF 1 rfl rfl);have Qj:=lh (show ((D.take k).length+[q].length)*8<=140737488355328 by rw [SN];simp;omega);have Ni:Hid ((D.take k ++ [q]).length=k+1):=lh (by rw [Ln,SN];rfl);have Hnx:=lh Rl;have Oq:=lh MO;have PG:=lh (show w.heap.size<=(wr.alloc (.cells #[q] 3)).heap.size by have:=MW.size;simp;omega);have Tq:=lh OO;clear QF Rl ha hc hq SN e2 e4 MO;go_wp2_with fail;refine wp_region_held_drew (S:=(fun w'=>w'.cell? ⟨bp,op+k,none⟩=some (.int .i64 a)/\w'.cell? ⟨br,or+k,none⟩=some (.int .i64 c))) Mh ?_ (fun hHeld=>?_)
   ·exact ⟨cp,cr⟩
   refine tk 0 13 ?_;refine tk 1 14 ?_;refine tk 2 15 ?_;refine tk 3 16 ?_;refine tk 4 17 ?_;refine tk 5 18 ?_;refine tk 6 19 ?_;refine tk 7 20 ?_;refine tk 8 21 ?_;refine tk 9 22 ?_;refine rdy (rdc 10 23 (fun K hK=>?_) .nil);go_simp;go_at_call 157;refine (tN _ _).mono ?_;rintro e w' ⟨rfl,rfl⟩;simp only [hcl];refine hK.out _ _ ?_ (fun hHeld=>?_)
   ·exact ⟨cp,cr⟩
   clear hK K
   try simp only [Act.put,Lg,Lj,Lk]
   refine rdy (rdc 11 24 (fun K hK=>?_) .nil);go_simp;refine hK.out _ _ ?_ (fun hHeld=>?_)
   ·exact ⟨(ae.new wr (.cells #[q] 3)).cell cp Mg,(ae.new wr (.cells #[q] 3)).cell cr Mg⟩
   clear hK K
   try simp only [Act.put,Lg,Lj,Lk]
   refine rdy (rdc 12 25 (fun K hK=>?_) .nil);refine ce rfl (.tmp 13) (.tmp 24) _ rfl EI ((Nc.quiet (ae.new wr _)).quiet (ae.refl _ _).drew) rfl ((Oa.out wr).quiet (ae.refl _ _).drew) rfl Qj PG (fun v1 w6 MN Nu=>?_);obtain ⟨x1,OW,OB,_⟩:=MN.ints.open;subst OB;rw [Ni.out] at MN Nu |-
   have Oy:=lh MN;have Od:=lh Nu;have JjY:=(MW.q (ae.new wr (.cells #[q] 3)).drew).acc Nu Tq
   (have HD6:=lh JjY);clear MN Nu
   refine hK.out _ _ ?_ (fun hHeld=>?_)
   ·exact ⟨JjY.cell Hcp Mg,JjY.cell Hcr.out Mg⟩
   clear hK K
   try simp only [Act.put,Lg,Lj,Lk]
   refine tk 13 5 ?_;refine wpAnyH_done Mh ?_ _;go_wp2_with fail;refine ⟨⟨k+1,by have:=Oq.out;omega,Mm,lh (by rw [Hnx.out];exact Oy),lh (Od.from_ OO PG),lh ?_⟩,by simp [intOf];have:=Oq.out;omega⟩;exact HD6
  ·obtain rfl:k=p.length:=Mf
   have Ny:¬ (p.length:Int)<(p.length:Int):=Mf;rw [List.take_of_length_le (by rw [QN.out];omega)] at Nc;clear SN MO;go_wp2_with fail;exact MM.out _ _ ⟨⟨_,rfl,Nc.out⟩,MW.out⟩
theorem gJ {l:List Int} (hl:l.length=16\/l.length=64) (h:cN 6266880 l):cN 401080320 (bQ l):=by
 obtain ⟨n,hn,Vr⟩:∃ n,(n=4\/n=8)/\l.length=n*n:=hl.elim (fun e=>⟨4,.inl rfl,e⟩) (fun e=>⟨8,.inr rfl,e⟩);have hs:=sr Vr h (by rcases hn with rfl | rfl <;> omega);intro k hk;rw [fW] at hk;have h1:=hs k (by rw [dJ];omega);rw [jY hn Vr,Le,LG,Lf (by rw [dJ];omega)];rw [Le,Lf (by rw [dJ];omega)] at h1;simp only [Option.getD_some,Option.map_some] at h1 |-
 generalize (gy n l)[k]'_=s at *
 rcases hn with rfl | rfl
 ·show -401080320<=(s+(16:Int) / 2) / 16/\(s+(16:Int) / 2) / 16<=401080320
  omega
 ·show -401080320<=(s+(64:Int) / 2) / 64/\(s+(64:Int) / 2) / 64<=401080320
  omega
theorem lJ {lo hi:Nat} {v:Value} {l:List Int} {w:World} (h:ah .i64 lo hi w v l) (hl:l.length=16\/l.length=64) (Nj:cu l) (n:Nat) (hn:n<=15):Calls Tryz.prog 109 #[v,n] w fun e w'=>((∃ v',e=.returned v'/\Own .i64 3 w.heap.size w' v' (bZ l n))/\cN 401080320 (bZ l n)/\ae [] w w'):=by
 refine aN fun Q MM=>?_
 have HV:=lh (xz h Mf Nj n hn);have Pp:=dP l n;have hVa:=ig Nj hn;have HA:Hid (cN 401080320 (bZ l n)):=lh (gJ (by rw [Pp];exact hl) hVa);have HI:Hid (∀ (lo1 hi1:Nat) (u:Value) (W:World),ah .i64 lo1 hi1 W u (cA l n)->Calls Tryz.prog 170 #[u] W fun e w'=>(∃ v',e=.returned (.tuple #[v',.agg #[(),JEu]])/\Own .i64 3 W.heap.size w' v' (bQ (cA l n)))/\ae [] W w'):=lh (fun _ _ _ _ hu=>by
  rcases hl with e | e
  ·exact sP hu (by rw [Pp,e]) hVa
  ·exact sQ hu (by rw [Pp,e]) hVa)
 have HD:Hid (bZ l n=bQ (cA l n)):=lh rfl;have HVl:Hid (0<(cA l n).length):=lh (by rw [Pp];omega);obtain ⟨a,cap,rfl,-⟩:=h.open;clear h hl Nj hn Pp hVa;generalize bZ l n=RD at *
 generalize cA l n=V at *
 generalize bQ V=I at *
 go_enter Tryz.func109,Tryz.ntmps109;go_wp2_with fail;go_at_call 169;refine HV.mono ?_;rintro e w1 ⟨⟨v1,rfl,MQ⟩,MP⟩;obtain ⟨g,Ot,rfl,-,-⟩:=MQ.form HVl;have MV:=MP.q (ae.new w1 (.cells #[(),JEu] 39));have HO:=lh (MQ.quiet (ae.new w1 (.cells #[(),JEu] 39)));have Na:=lh MV;clear MQ MP MV;go_wp2_with fail;generalize Tg:World.alloc w1 _=W2 at *
 clear Tg;go_at_call 170;refine (HI.out _ _ _ W2 HO.ints).mono ?_;rintro e w3 ⟨⟨v3,rfl,MQ⟩,Nb⟩;have Ql:=lh (MQ.quiet (ae.new w3 (.cells #[(),JEu] 39)));have Nf:=lh (Nb.q (ae.new w3 (.cells #[(),JEu] 39)));clear MQ Nb;go_wp2_with fail;refine MM.out _ _ ⟨⟨_,rfl,?_⟩,HA.out,Na.q Nf.out⟩;rw [HD.out];exact Ql.lower Na.size
end
end Go.Proofs.YthcafdfdglfabaaGreatDoor
