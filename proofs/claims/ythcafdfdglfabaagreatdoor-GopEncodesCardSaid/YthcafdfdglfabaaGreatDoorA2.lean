/- Joined texts: DRQt, DRWh, DRSu, DRIn, DRCl. Conditions: each part names its own. -/
import Derived.Test.YthcafdfdglfabaaGreatDoorA1
namespace Go.Proofs.YthcafdfdglfabaaGreatDoor
open Tryz
open Go.RowKit
set_option linter.unusedVariables false
set_option linter.unusedSimpArgs false
set_option maxRecDepth 100000
set_option maxHeartbeats 16000000
theorem DY (n:Nat) (D:n<=15):qU[n]?=some (.int .i64 (bg n)):=by
 rcases uF D with rfl | rfl | rfl | rfl | rfl | rfl | rfl | rfl | rfl | rfl | rfl | rfl | rfl | rfl | rfl | rfl <;> rfl
section
theorem cZ (c:Int) (x:Value) (w:World):Calls prog 37 #[.agg #[c,x]] w fun e w'=>e=.returned (.bool (c == 0))/\ae [] w w':=by
 have D:=lh (ae.new w (.cells #[c,x] 39));go_enter func37,ntmps37;go_wp2;go_ret;exact ⟨rfl,D.out⟩
theorem nJ (n:Nat) (E:n<=15) (w:World):Calls prog 206 #[n] w fun e w'=>(e=.returned (.tuple #[.int .i64 (bg n),.agg #[(),d8]])/\ae [] w w'):=by
 refine aK fun Q F=>?_
 have h0:¬ (n:Int)<0:=Qa;have h1:¬ (15:Int)<n:=Qa;have N:(0:Int)<=n:=Qa;have O:(n:Int)<16:=Qa;have M:=DY n E;unfold qU at M;have D:=ae.new w (.cells #[(),d8] 39);have J:Hid ((w.alloc (.cells #[(),d8] 39)).heap[w.heap.size]?=some (.cells #[(),d8] 39)):=Sd w _;have I:=lh D;clear D E;generalize bg n=st at *
 go_enter func206,ntmps206;go_wp2_with fail;have L:=(ae.new (w.alloc (.cells #[(),d8] 39)) (.cells qU 3)).row J;exact TV (v:=.tuple #[st,.agg #[(),d8]]) (aA results206 _ _ w.heap.size _ _ _ _ _ rfl rfl L underlying39 rfl (aG _ rfl)) rfl (F.out _ _ ⟨rfl,I.q (BS)⟩)
theorem Dk (v:Int) (n:Nat) (V:n<=15) (hv:-16320<=v/\v<=16320) (w:World):Calls prog 214 #[v,n] w fun e w'=>(e=.returned (.tuple #[.int .i64 (v*bg n),.agg #[(),d8]])/\ae [] w w'):=by
 refine aK fun Q QF=>?_
 have h0:¬ v < -16320:=Qa;have h1:¬ (16320:Int)<v:=Qa;have hs:=qz V;have hw:i7 .i64 (v*bg n):=by have:=nc hv hs;simp only [i7];omega
 have hwm:IntKind.i64.wrap (v*bg n)=v*bg n:=by have:=nc hv hs;rw [Pk];omega
 have Y:=ae.new w (.cells #[(),d8] 39);have O:Hid ((w.alloc (.cells #[(),d8] 39)).heap[w.heap.size]?=some (.cells #[(),d8] 39)):=Sd w _;have QO:=lh Y;have HS:=lh (fun W=>nJ n V W);clear Y V hs;generalize bg n=st at *
 go_enter func214,ntmps214;go_wp2_with fail;have TF:Hid ((w.alloc (.cells #[(),d8] 39)).heap.size=w.heap.size+1):=lh Qb;generalize Rs:World.alloc w _=W1 at *
 clear Rs;refine (HS.out W1).mono ?_;rintro e D ⟨rfl,L⟩;have M:=L.q (ae.new D (.cells #[(),d8] 39));have SQ:Hid ((D.alloc (.cells #[(),d8] 39)).heap[D.heap.size]?=some (.cells #[(),d8] 39)):=Sd D _;have O:=lh (M.row O);have QW:=lh (QO.q M);have I:Hid (¬ D.heap.size=w.heap.size):=lh (l6 L.size TF.out);clear L M;go_wp2_with fail;generalize Tb:World.alloc D _=W3 at *
 clear Tb;refine (cZ _ _ _).mono ?_;rintro e w4 ⟨rfl,F⟩;have Rh:=lh (QW.q F);have J:=lh (F.row SQ);have E:=lh (F.row O);obtain ⟨e0,e1,-⟩:=aL J;obtain ⟨z0,z1,y0,y1,-⟩:=aL E;clear F;go_wp2_with fail;obtain ⟨QK,N⟩:=aJ (x:=.int .i64 0) (y:=.slice none 0 0) E;have Z:=I.out;have Rx:=(Rh.trans N (U:=[]) Qb (fun g hg QH=>Qd))
 refine Tf (S:=(fun w'=>w'.cell? ⟨D.heap.size,0,none⟩=some (.int .i64 0)/\w'.cell? ⟨D.heap.size,1,none⟩=some (.slice none 0 0))) Qc ?_ (fun hHeld=>?_)
 ·exact ⟨e0,e1⟩
 refine tk 0 25 ?_;refine tk 1 26 ?_;refine tk 2 27 ?_;refine tk 3 28 ?_;refine tk 4 4 ?_;refine j9 5 fun K hK=>?_
 go_simp;refine ko hK ⟨N.cell e0 (dn i5 Z),N.cell e1 (dn i5 Z)⟩ fun hHeld=>?_;clear hK K
 refine Wn Qc ?_ _;go_wp2_with fail;exact TV (v:=.tuple #[.int .i64 (v*st),.agg #[(),d8]]) (aA results214 _ _ w.heap.size _ _ _ _ _ rfl rfl QK underlying39 rfl (aG _ rfl)) rfl (QF.out _ _ ⟨rfl,Rx.drew⟩)
theorem Aj {lo hi:Nat} {v:Value} {l:List Int} {w:World} (h:aj .i64 lo hi w v l) (hl:l.length<=64) (Re:cE l) (n:Nat) (hn:n<=15):Calls prog 169 #[v,n] w fun e w'=>((∃ v',e=.returned (.tuple #[v',.agg #[(),d8]])/\f9 .i64 3 w.heap.size w' v' (cM l n))/\ae [] w w'):=by
 refine aK fun Q QF=>?_
 obtain ⟨la,Rl,rfl,-,-,RO,QR⟩:=h.open;have TT:=lh RO;have Rm:=lh QR;have hs:=qz hn;have QI:=ae.new w (.cells #[(),d8] 39);have Rg:Hid ((w.alloc (.cells #[(),d8] 39)).heap[w.heap.size]?=some (.cells #[(),d8] 39)):=Sd w _;have TF:Hid ((w.alloc (.cells #[(),d8] 39)).heap.size=w.heap.size+1):=lh Qb;have QO:=lh QI;have HS:=lh (fun W=>nJ n hn W);have HV:=lh (fun (x:Int) (hx:-16320<=x/\x<=16320) (W:World)=>Dk x n hn hx W);have HD:Hid (cM l n=l.map fun v=>v*bg n):=lh rfl;have YL:=lh Re;clear h RO QR QI hn Re;generalize cM l n=VD at *
 generalize bg n=st at *
 go_enter func169,ntmps169;go_wp2_with fail;generalize Rs:World.alloc w _=W1 at *
 clear Rs;refine (HS.out W1).mono ?_;rintro e I ⟨rfl,QN⟩;have QQ:=QN.q (ae.new I (.cells #[(),d8] 39));have Wk:Hid ((I.alloc (.cells #[(),d8] 39)).heap[I.heap.size]?=some (.cells #[(),d8] 39)):=Sd I _;have HE3:=lh (QQ.row Rg);have QW:=lh (QO.q QQ);have N:Hid (w.heap.size<I.heap.size/\(I.alloc (.cells #[(),d8] 39)).heap.size=I.heap.size+1):=lh ⟨by have:=QN.size;have:=TF.out;omega,Qb⟩;clear QN QQ QO Rg TF;go_wp2_with fail;generalize Tb:World.alloc I _=W3 at *
 clear Tb;generalize I.heap.size=B at *
 go_loopw [9,8,10,11] (fun i y _ _ wr=>∃ k:Nat,k<=l.length/\i=.int .i64 k/\Hid (f9 .i64 3 W3.heap.size wr y ((l.take k).map fun v=>v*st))/\Hid (bj W3.heap.size y)/\Hid (ae [] w wr)/\Hid (W3.heap.size<=wr.heap.size)/\Hid (wr.heap[B]?=some (.cells #[(),d8] 39))/\Hid (wr.heap[w.heap.size]?=some (.cells #[(),d8] 39))) (fun i _ _ _ _=>l.length-(intOf i).toNat)
 case atStart=>exact ⟨0,Qa,rfl,lh (f9.nil _ _ _ _),lh (bj.nil _),QW,lh (Pm _),Wk,HE3⟩
 case round =>
  obtain ⟨k,hk,rfl,QX,SU,QP,HZk,Sg,Yx⟩:=hrel;obtain ⟨O,V,-⟩:=aL Sg;by_cases L:k<l.length
  ·have Rt:(k:Int)<(l.length:Int):=Qa
   have RA:(0:Int)<=(k:Int):=Qa;obtain ⟨b,off,rfl,_,_⟩:=TT.out k L;have hx:-16320<=l.getD k 0/\l.getD k 0<=16320:=YL.out _ (by rw [Pd,Pe L];exact PG _);have Wp:Hid ((l.take (k+1)).map (fun v=>v*st)=(l.take k).map (fun v=>v*st) ++ [l.getD k 0*st]):=lh (by
    rw [UJ L,PN,Pd,Pe L];rfl)
   have Hc:=lh (Rm.out b off rfl k L);generalize l.getD k 0=x at *
   have hxs:=nc hx hs;have QS:∀ y∈[x*st],i7 .i64 y:=by simp only [i5,n7,i7];omega
   have RI:=lh (fun (W:World)=>aU (k:=.i64) (w:=W) (t:=3) (l:=[x*st]) rfl Qj QS 1 rfl rfl);have TU:=lh (show (((l.take k).map fun v=>v*st).length+[x*st].length)*8<=140737488355328 by simp;omega);have Ra:=lh (show (((l.take k).map fun v=>v*st) ++ [x*st]).length=k+1 by simp;omega);obtain ⟨ra,VK,rfl,-⟩:=QX.ints.open;have hlk:((l.take k).map fun v=>v*st).length=k:=Qm;rw [hlk] at QX SU |-
   have Hx:=lh hx;clear QS hlk hx hxs;go_wp2_with fail;refine (cZ _ _ _).mono ?_;rintro e w4 ⟨rfl,F⟩;have hc:=(QP.q F).cell Hc Qb;have Zl:=lh F;clear F O V;go_wp2_with fail;refine (HV.out x Hx _).mono ?_;rintro e J ⟨rfl,M⟩;have XB:=Zl.q M;have Rk:=lh (QP.q XB);have UX:=lh (QX.quiet XB);have VP:=(ae.new J (.cells #[(),d8] 39)).q (ae.new _ (.cells #[.int .i64 (x*st)] 3));have Zu:=lh ((XB.q VP).row Sg);have D:=lh ((XB.q VP).row Yx);have H11:=lh ((ae.new (J.alloc (.cells #[(),d8] 39)) (.cells #[.int .i64 (x*st)] 3)).row (Sd J (.cells #[(),d8] 39)));have Hnb:Hid (¬ J.heap.size∈(Value.slice ra k VK).ownBlock.toList):=lh (fun hm=>by have:=(UX.at J.heap.size Qr).2;omega);have Jgu:Hid (B<W3.heap.size):=lh (j0 N.out);have JgA:Hid (w.heap.size<W3.heap.size):=lh (j0 N.out);have HN5:=lh VP;have Tn:=lh (show W3.heap.size<=((J.alloc (.cells #[(),d8] 39)).alloc (.cells #[.int .i64 (x*st)] 3)).heap.size by have:=HZk.out;have:=XB.size;have:=VP.size;omega);have Zf:=RI.out (J.alloc (.cells #[(),d8] 39));rw [World.size_alloc] at Zf;have Jht:=lh Zf;clear M XB hc VP Zf
   go_wp2_with (first
    | (at_builtin;refine au rfl (.tmp 36) (.tmp 38) _ rfl EI (UX.quiet ((ae.new J (.cells #[(),d8] 39)).q (BS))) rfl Jht rfl TU Tn (fun v1 w6 QG Z=>?_);obtain ⟨x1,SV,RZ,_⟩:=QG.ints.open;subst RZ;rw [Ra.out] at QG Z |-;have SD:=lh QG;have Sa:=lh Z;have Jij:=Z.only.rowAt H11 Hnb;have Y:=Z.row SU Zu Jgu;have hre:=Z.row SU D JgA;have HB6:=lh Y;have HE6:=lh hre;obtain ⟨q0,q1,-⟩:=aL Jij;obtain ⟨n0,n1,m0,m1,-⟩:=aL Y;clear QG Z Jij Y hre)
    | fail)
   obtain ⟨QK,E⟩:=aJ (x:=.int .i64 0) (y:=.slice none 0 0) HB6;have Uu:=Sa.from_ SU Tn;have hz6:=Sa.only.size;refine ⟨⟨k+1,Qa,Qh,lh ?_,lh Uu,lh ?_,lh ?_,lh QK,lh (E.rowAt HE6 (eW N))⟩,Qf⟩
   ·rw [Wp.out]
    exact SD.only E (fun g hg hh=>by rw [i5] at hg;subst hg;have:=Uu _ hh;have:=Jgu.out;omega)
   ·exact ((Rk.q HN5).trans Sa.only (U:=[]) Qb (fun g hg L=>by have:=SU.out g Qn;have:=JgA.out;omega)).trans E (U:=[]) Qb (fun g hg L=>by rw [i5] at hg;have:=N.out;omega)
   ·exact Pw (Pw Tn hz6) E.size
  ·obtain rfl:k=l.length:=Qa
   have Rt:¬ (l.length:Int)<(l.length:Int):=Qa;rw [List.take_length] at QX;go_wp2_with fail;refine (cZ _ _ _).mono ?_;rintro e w4 ⟨rfl,F⟩;have Yo:=lh (QX.quiet F);have Rh:=lh (QP.q F);have HE4:=lh (F.row Yx);have HB4:=lh (F.row Sg);clear F O V;obtain ⟨O,V,-⟩:=aL HB4;go_wp2_with fail;refine (cZ _ _ _).mono ?_;rintro e J ⟨rfl,M⟩;have UX:=lh (Yo.quiet M);have Rk:=lh (Rh.q M);have D:=lh (M.row HE4);have Zu:=lh (M.row HB4);clear M O V;obtain ⟨O,V,-⟩:=aL Zu;obtain ⟨z0,z1,y0,y1,-⟩:=aL D;go_wp2_with fail;obtain ⟨QK,E⟩:=aJ (x:=.int .i64 0) (y:=.slice none 0 0) D;have RX:¬ B=w.heap.size:=dT N
   have Rx:=(Rk.trans E (U:=[]) Qb (fun g hg L=>Qd))
   refine Tf (S:=(fun w'=>w'.cell? ⟨B,0,none⟩=some (.int .i64 0)/\w'.cell? ⟨B,1,none⟩=some (.slice none 0 0))) Qc ?_ (fun hHeld=>?_)
   ·exact ⟨O,V⟩
   refine tk 0 45 ?_;refine tk 1 46 ?_;refine tk 2 4 ?_;refine j9 3 fun K hK=>?_
   go_simp;refine ko hK ⟨E.cell O (dn i5 RX),E.cell V (dn i5 RX)⟩ fun hHeld=>?_;clear hK K
   refine Wn Qc ?_ _;go_wp2_with fail;refine TV (aA results169 _ _ w.heap.size _ _ _ _ _ rfl rfl QK underlying39 rfl (aG _ rfl)) rfl (QF.out _ _ ⟨⟨_,rfl,?_⟩,Rx.drew⟩);rw [HD.out];exact ((UX.only E (fun g hg hh=>by rw [i5] at hg;subst hg;have:=SU.out _ hh;have:=N.out;omega)).quiet (AY).drew).lower (j0 N.out)
end
def gq (u x:Nat):Nat->Int
 | 0=>1
 | k+1=>if u / 2 ^ k % 2=1/\x / 2 ^ k % 2=1 then-gq u x k else gq u x k
theorem Ik:∀ u,u<8->∀ x,x<8->gq u x 3=jP u x:=Ql
theorem Bu (u x:Nat):∀ k,gq u x k=1\/gq u x k=-1
 | 0=>.inl rfl
 | k+1=>by
  have:=Bu u x k;unfold gq
  split <;> omega
section
theorem nI (u x:Nat) (hu:u<8) (hx:x<8) (w:World):Calls prog 228 #[u,x] w fun e w'=>e=.returned (.int .i64 (jP u x))/\w=w':=by
 have Y:=lh (Ik u hu x hx);have u0:¬ (u:Int)<0:=Qa;have u7:¬ (7:Int)<u:=Qa;have x0:¬ (x:Int)<0:=Qa;have x7:¬ (7:Int)<x:=Qa;go_enter func228,ntmps228;go_wp2_with fail;go_loopw [6,5] (fun i s wr=>∃ k:Nat,k<=3/\i=.int .i64 k/\s=.int .i64 (gq u x k)/\w=wr) (fun i _ _=>3-(intOf i).toNat)
 case atStart=>exact ⟨0,Qa,rfl,rfl,rfl⟩
 case round =>
  obtain ⟨k,hk,rfl,rfl,rfl⟩:=hrel;have V:=Bu u x k;by_cases QH:k<3
  ·have Z:(k:Int)<3:=Qa
   have RA:(0:Int)<=(k:Int):=Qa;have F:∀ c:Nat,(u / c % 2=0\/u / c % 2=1)/\(x / c % 2=0\/x / c % 2=1):=fun c=>⟨Qa,Qa⟩
   rcases (by omega:k=0\/k=1\/k=2) with rfl | rfl | rfl
   ·obtain ⟨D,E⟩:=F 1
    have J:(u:Int) % 2=((u / 1 % 2:Nat):Int):=Qa;have L:(x:Int) % 2=((x / 1 % 2:Nat):Int):=Qa;have M:=bK (u:Int);have N:=bK (x:Int);rw [J] at M;rw [L] at N;have I:Hid (gq u x 1=if u / 1 % 2=1/\x / 1 % 2=1 then-gq u x 0 else gq u x 0):=lh rfl;have O:Hid (wrap64 (- gq u x 0)=- gq u x 0):=lh (by unfold wrap64;omega);clear J L F V;rcases D with D | D <;> rcases E with E | E
    all_goals
     rw [D,E] at I;rw [D] at M;rw [E] at N;clear D E;go_wp2_with fail;exact ⟨⟨1,Qa,rfl,by rw [I.out];simp [O.out],trivial⟩,by simp [intOf]⟩
   ·obtain ⟨D,E⟩:=F 2
    have J:((u:Int) / 2) % 2=((u / 2 % 2:Nat):Int):=Qa;have L:((x:Int) / 2) % 2=((x / 2 % 2:Nat):Int):=Qa;have M:=bK ((u:Int) / 2);have N:=bK ((x:Int) / 2);rw [J] at M;rw [L] at N;have I:Hid (gq u x 2=if u / 2 % 2=1/\x / 2 % 2=1 then-gq u x 1 else gq u x 1):=lh rfl;have O:Hid (wrap64 (- gq u x 1)=- gq u x 1):=lh (by unfold wrap64;omega);clear J L F V;rcases D with D | D <;> rcases E with E | E
    all_goals
     rw [D,E] at I;rw [D] at M;rw [E] at N;clear D E;go_wp2_with fail;exact ⟨⟨2,Qa,rfl,by rw [I.out];simp [O.out],trivial⟩,by simp [intOf]⟩
   ·obtain ⟨D,E⟩:=F 4
    have J:((u:Int) / 4) % 2=((u / 4 % 2:Nat):Int):=Qa;have L:((x:Int) / 4) % 2=((x / 4 % 2:Nat):Int):=Qa;have M:=bK ((u:Int) / 4);have N:=bK ((x:Int) / 4);rw [J] at M;rw [L] at N;have I:Hid (gq u x 3=if u / 4 % 2=1/\x / 4 % 2=1 then-gq u x 2 else gq u x 2):=lh rfl;have O:Hid (wrap64 (- gq u x 2)=- gq u x 2):=lh (by unfold wrap64;omega);clear J L F V;rcases D with D | D <;> rcases E with E | E
    all_goals
     rw [D,E] at I;rw [D] at M;rw [E] at N;clear D E;go_wp2_with fail;exact ⟨⟨3,Qa,rfl,by rw [I.out];simp [O.out],trivial⟩,by simp [intOf]⟩
  ·obtain rfl:k=3:=Qa
   have Z:¬ ((3:Nat):Int)<3:=Qa;go_wp2_with fail;go_ret;exact ⟨ee Y,rfl⟩
theorem nH (k:Nat) (h:k=16\/k=64) (w:World):Calls prog 204 #[k] w fun e w'=>e=.returned (.int .i64 (if k=16 then 4 else 8))/\w=w':=by
 rcases h with rfl | rfl
 ·go_enter func204,ntmps204
  go_wp2_with fail;go_ret;exact ⟨rfl,rfl⟩
 ·go_enter func204,ntmps204
  go_wp2_with fail;go_ret;exact ⟨rfl,rfl⟩
theorem xq (n b:Int) (D:0<=n):(-n).tdiv b=-(n / b):=by rw [Int.neg_tdiv,TY D]
theorem Iu (a:Int) (b:Nat) (D:b=16\/b=64):(if a<a.tdiv (b:Int)*b then a.tdiv (b:Int)-1 else a.tdiv (b:Int))=a / (b:Int):=by
 by_cases E:0<=a
 ·rw [TY E]
  rcases D with rfl | rfl <;> split <;> omega
 ·obtain ⟨n,rfl⟩:∃ n,a=-n:=⟨-a,Qa⟩
  rw [xq n _ Qa];rcases D with rfl | rfl <;> split <;> omega
theorem wk (a:Int) (b:Nat) (F:b=16\/b=64) (O:-4000000000<=a/\a<=4000000000) (w:World):Calls prog 215 #[a,b] w fun e w'=>e=.returned (.int .i64 (a / (b:Int)))/\w=w':=by
 have E:=lh (Iu a b F);have M:¬ (b:Int)=0:=Qa;have V:((b:Int) == 0)=false:=dn A5 M
 have Z:-4000000000<=a.tdiv (b:Int)/\a.tdiv (b:Int)<=4000000000:=by
  by_cases h0:0<=a
  ·rw [TY h0]
   rcases F with rfl | rfl <;> omega
  ·obtain ⟨n,rfl⟩:∃ n,a=-n:=⟨-a,Qa⟩
   rw [xq n _ Qa];rcases F with rfl | rfl <;> omega
 have Y:-400000000000<=a.tdiv (b:Int)*b/\a.tdiv (b:Int)*b<=400000000000:=by
  rcases F with rfl | rfl <;> omega
 have J:IntKind.i64.wrap (a.tdiv (b:Int))=a.tdiv (b:Int):=Qe;have D:IntKind.i64.wrap (a.tdiv (b:Int)*b)=a.tdiv (b:Int)*b:=Qe;have N:IntKind.i64.wrap (a.tdiv (b:Int)-1)=a.tdiv (b:Int)-1:=Qe;obtain ⟨T,hT⟩:∃ T,T=a.tdiv (b:Int):=⟨_,rfl⟩
 rw [<- hT] at E J D N;have eT:a.tdiv (b:Int)=T:=hT.symm;obtain ⟨P,I⟩:∃ P,P=T*b:=⟨_,rfl⟩
 have hw4:IntKind.i64.wrap (T*b)=P:=D.trans I.symm;rw [<- I] at E;clear Z Y I O F hT D;by_cases L:a<P
 ·rw [if_pos L] at E
  go_enter func215,ntmps215;go_wp2_with fail;go_ret;exact ⟨ee E,rfl⟩
 ·rw [if_neg L] at E
  go_enter func215,ntmps215;go_wp2_with fail;go_ret;exact ⟨ee E,rfl⟩
end
def kg (l:List Int) (n u v m:Nat):Int:=l.getD m 0*jP u (m % n)*jP v (m / n)
def eU (l:List Int) (n u v:Nat):Nat->Int
 | 0=>0
 | m+1=>eU l n u v m+kg l n u v m
theorem nT (u x:Nat):jP u x=1\/jP u x=-1:=by unfold jP;split <;> omega
theorem uD {l:List Int} {B:Int} (h:dg B l) {n u v m:Nat} (D:m<l.length):-B<=kg l n u v m/\kg l n u v m<=B:=by
 have:=h m D;unfold kg;rcases nT u (m % n) with e | e <;> rcases nT v (m / n) with e' | e' <;> rw [e,e'] <;> omega
theorem se {l:List Int} {B:Int} (h:dg B l) (n u v:Nat):∀ m:Nat,m<=l.length->-(m*B)<=eU l n u v m/\eU l n u v m<=m*B
 | 0,_=>by simp [eU]
 | m+1,hm=>by
  have E:=se h n u v m Qa;have D:=uD (n:=n) (u:=u) (v:=v) h (show m<l.length by omega);have e:((m+1:Nat):Int)*B=m*B+B:=by rw [PQ,Int.add_mul];simp
  rw [e];unfold eU;omega
theorem zt {a b c d:List Int} (h:a.length=c.length):dI (a ++ b) (c ++ d)=dI a c+dI b d:=by
 unfold dI;rw [List.zipWith_append h,List.sum_append]
theorem FW (f:Nat->Int) (l:List Int):∀ m:Nat,m+1<=l.length->dI ((List.range (m+1)).map f) (l.take (m+1))=dI ((List.range m).map f) (l.take m)+f m*l.getD m 0:=by
 intro m D;rw [Zh,PN,UJ Qa,zt (by rw [Ps,List.length_range,Po];omega),Pd,Pe Qa];simp [dI]
theorem AJ {l:List Int} {n k:Nat}:∀ m:Nat,m<=l.length->dI ((List.range m).map fun i=>jP (k % n) (i % n)*jP (k / n) (i / n)) (l.take m)=eU l n (k % n) (k / n) m
 | 0,_=>by simp [dI,eU]
 | m+1,hm=>by
  rw [FW _ l m hm,AJ m Qa];show _=eU l n (k % n) (k / n) m+kg l n (k % n) (k / n) m;unfold kg;rw [Int.mul_comm _ (l.getD m 0),Int.mul_assoc]
def ik (n:Nat) (l:List Int):List Int:=(List.range (n*n)).map fun k=>dI (pj n k) l
theorem dY (n:Nat) (l:List Int):(ik n l).length=n*n:=by simp [ik]
theorem uB {n:Nat} {l:List Int} (E:l.length=n*n) {k:Nat} (D:k<n*n):(ik n l).getD k 0=eU l n (k % n) (k / n) (n*n):=by
 rw [<- AJ (l:=l) (n*n) Qa,YN Qa,Pd,ik,Pz,List.getElem?_range D]
 rfl
def o8 (D:List Int) (N K:Nat):List Int:=D.take K ++ List.replicate (N-K) 0
theorem qy {D:List Int} {N K:Nat} (E:D.length=N) (hK:K<=N):(o8 D N K).length=N:=by simp [o8];omega
theorem Od {D:List Int} {N K:Nat} (E:D.length=N) (hK:K<N):(o8 D N K).getD K 0=0:=by
 unfold o8;rw [Pd,Pt Qs,List.getElem?_replicate]
 split <;> rfl
theorem BD {D:List Int} {N K:Nat} (E:D.length=N) (hK:K<N):(o8 D N K).set K 0=o8 D N K:=by
 refine List.ext_getElem? fun i=>?_
 rw [List.getElem?_set]
 split
 ·rename_i h;subst h
  have h1:=Od E hK;have F:=qy (K:=K) E Qa;rw [if_pos Qa];rw [Pd] at h1;rw [Pe Qa] at h1 |-
  simpa using h1.symm
 ·rfl
theorem BC {D:List Int} {N K:Nat} (F:D.length=N) (hK:K<N):(o8 D N K).set K (D.getD K 0)=o8 D N (K+1):=by
 unfold o8;have h1:(D.take K).length=K:=Qs;obtain ⟨m,E⟩:∃ m,N-K=m+1:=⟨N-K-1,Qa⟩
 rw [E,show N-(K+1)=m by omega,List.set_append_right _ _ Qa,h1,Nat.sub_self,List.replicate_succ,Pi,UJ Qa,PM,Pd,Pe Qa]
 rfl
theorem Fv {D:List Int} {N:Nat} (E:D.length=N):o8 D N N=D:=by simp [o8,<- E]
section
theorem KO {p:Prop} (h:p:=by
 clear Ru Rz QS hqb Sq Jug hte hps hgp hpb htb Zm JkM Jvr hmb hm hmN QJ hqq;go_wp2_with fail;refine wp_region_still_tail 25 Qc Qc ?_;simp only [List.take_succ_cons,List.take_zero,List.drop_succ_cons,List.drop_zero]
 repeat (still_step;(try simp only [Act.put,Pf,Pi,Pj]))
 still_call ((HSu.out _).mono fun e w' h=>⟨h.1,h.2.symm⟩)
 repeat (still_step;(try simp only [Act.put,Pf,Pi,Pj]))
 still_call ((HSv.out _).mono fun e w' h=>⟨h.1,h.2.symm⟩)
 repeat (still_step;(try simp only [Act.put,Pf,Pi,Pj]))
 try refine wpStill_nil ?_
 go_wp2_with fail;refine ⟨⟨x+1,by have:=Hx.out;omega,Qh,lh ?_,lh ((HQx.trans Te (U:=[]) Qb (fun g hg QH=>Qd)).drew)⟩,by simp [intOf];have:=Hx.out;omega⟩;rw [Hpx.out,Hqq.out];exact Su.quiet (AY).drew):p:=h
theorem tH {lo hi:Nat} {v:Value} {l:List Int} {w:World} (h:aj .i64 lo hi w v l) (Z:l.length=16) (hb:dg 6266880 l):Calls prog 205 #[v,.int .i64 4] w fun e w'=>((∃ v',e=.returned v'/\f9 .i64 3 w.heap.size w' v' (ik 4 l))/\ae [] w w'):=by
 refine aK fun Q QF=>?_
 obtain ⟨a,cap,rfl,-,-,RO,QR⟩:=h.open;obtain ⟨b,off,rfl,-,-⟩:=RO 0 Qa;have N:=lh (fun m (hm:m<16)=>QR b off rfl m Qa);have Hb0:=lh (s4 (N.out 0 Qa));have HB:=lh hb;have HL:=lh Z;have V:=lh (dY 4 l);have HDa:=lh (fun k (hk:k<16)=>uB (n:=4) (by rw [Z]) hk);rw [Z];clear h Z hb RO QR;generalize ik 4 l=D at *
 have Uv:∀ Y:World,(Instr.makeSlice 22 (.int .i64 16) (.int .i64 16)).run prog Y=.ok (.slice (some ⟨Y.heap.size,0,none⟩) 16 16) (Y.alloc (.cells (madeCells #[()] 16) 3)):=fun Y=>run_make_row' (P:=prog) 22 3 (.int .i64 0) 8 EI.ut Qc rfl .i64 .i64 16 Qa Qa Y
 have XR:=gB .i64 3 w 16 Qj;have HM:Hid (f9 .i64 3 w.heap.size (w.alloc (.cells (madeCells #[()] 16) 3)) (.slice w.heap.size 16 16) (o8 D 16 0)):=lh (by rw [show o8 D 16 0=List.replicate 16 0 by simp [o8]];exact XR);have QO:=lh (ae.new w (.cells (madeCells #[()] 16) 3));have hw4:IntKind.i64.wrap (4*4)=16:=Ql;clear XR;go_enter func205,ntmps205;go_wp2_with fail;clear Uv;generalize Rs:World.alloc w _=W1 at *
 clear Rs;go_loopw [6,7,8,9] (fun i _ _ _ wr=>∃ v:Nat,v<=4/\i=.int .i64 v/\Hid (f9 .i64 3 w.heap.size wr (.slice w.heap.size 16 16) (o8 D 16 (v*4)))/\Hid (ae [] w wr)) (fun i _ _ _ _=>4-(intOf i).toNat)
 case atStart=>exact ⟨0,Qa,rfl,by rw [Nat.zero_mul];exact HM,QO⟩
 case round =>
  obtain ⟨v,hv,rfl,F,L⟩:=hrel;by_cases JBF:v<4
  ·have hvi:(v:Int)<4:=Qa
   have hv0:(0:Int)<=(v:Int):=Qa;go_wp2_with fail;go_loopw [7,8,9] (fun i _ _ wr=>∃ u:Nat,u<=4/\i=.int .i64 u/\Hid (f9 .i64 3 w.heap.size wr (.slice w.heap.size 16 16) (o8 D 16 (v*4+u)))/\Hid (ae [] w wr)) (fun i _ _ _=>4-(intOf i).toNat)
   case atStart=>exact ⟨0,Qa,rfl,F,L⟩
   case round =>
    obtain ⟨u,hu,rfl,E,J⟩:=hrel;by_cases JBB:u<4
    ·have hui:(u:Int)<4:=Qa
     have hu0:(0:Int)<=(u:Int):=Qa;obtain ⟨K,hK⟩:∃ K,K=v*4+u:=⟨_,rfl⟩
     rw [<- hK] at E;have e1:IntKind.i64.wrap ((v:Int)*4)=(v:Int)*4:=Qe;have e2:(v:Int)*4+(u:Int)=(K:Int):=Qa;have e5:IntKind.i64.wrap (K:Int)=(K:Int):=Qe;have hK0:(0:Int)<=(K:Int):=Qa;have hKi:(K:Int)<16:=Qa;have HO0:Hid (f9 .i64 3 w.heap.size wr (.slice w.heap.size 16 16) ((o8 D 16 K).set K (eU l 4 u v (0*4)))):=lh (by rw [Nat.zero_mul,show eU l 4 u v 0=0 from rfl,BD V.out Qa];exact E);have HK:=lh hK;clear hK;go_wp2_with fail;go_loopw [8,9] (fun i _ wr=>∃ y:Nat,y<=4/\i=.int .i64 y/\Hid (f9 .i64 3 w.heap.size wr (.slice w.heap.size 16 16) ((o8 D 16 K).set K (eU l 4 u v (y*4))))/\Hid (ae [] w wr)) (fun i _ _=>4-(intOf i).toNat)
     case atStart=>exact ⟨0,Qa,rfl,HO0,J⟩
     case round =>
      obtain ⟨y,hy,rfl,I,M⟩:=hrel;by_cases JBI:y<4
      ·have Zt:(y:Int)<4:=Qa
       have Vo:(0:Int)<=(y:Int):=Qa;go_wp2_with fail;go_loopw [9] (fun i wr=>∃ x:Nat,x<=4/\i=.int .i64 x/\Hid (f9 .i64 3 w.heap.size wr (.slice w.heap.size 16 16) ((o8 D 16 K).set K (eU l 4 u v (y*4+x))))/\Hid (ae [] w wr)) (fun i _=>4-(intOf i).toNat)
       case atStart=>exact ⟨0,Qa,rfl,I,M⟩
       case round =>
        obtain ⟨x,hx,rfl,O,HQx⟩:=hrel;by_cases JpJ:x<4
        ·have Zi:(x:Int)<4:=Qa
         have WL:(0:Int)<=(x:Int):=Qa;have Hx:=lh JpJ;obtain ⟨m,hm⟩:∃ m,m=y*4+x:=⟨_,rfl⟩
         have hmN:m<16:=Qa;have e3:IntKind.i64.wrap ((y:Int)*4)=(y:Int)*4:=Qe;have e4:(y:Int)*4+(x:Int)=(m:Int):=Qa;have e6:IntKind.i64.wrap (m:Int)=(m:Int):=Qe;have hm0:(0:Int)<=(m:Int):=Qa;have hmi:(m:Int)<16:=Qa;rw [<- hm] at O;have QJ:((o8 D 16 K).set K (eU l 4 u v m)).length=16:=by rw [PF];exact qy V Qa
         have cx:=O.cellS QJ.symm (i:=K) Qa;have fx:=O.frzS QJ.symm K;have cb:=HQx.cell (N.out m hmN) Qb;have hpb:=se HB 4 u v m (eC HL);have htb:=uD (n:=4) (u:=u) (v:=v) HB (show m<l.length by rw [HL.out];omega);have Zm:=HB.out m (eC HL);have hps:eU l 4 u v (m+1)=eU l 4 u v m+kg l 4 u v m:=rfl;have hte:kg l 4 u v m=l.getD m 0*jP u x*jP v y:=by unfold kg;rw [show m % 4=x by omega,show m / 4=y by omega]
         have hgp:((o8 D 16 K).set K (eU l 4 u v m)).getD K 0=eU l 4 u v m:=by
          rw [Pd,PT (by rw [qy V.out Qa];omega)]
          rfl
         rw [hgp] at cx;have hmb:(m:Int)*6266880<=15*6266880:=B2 Qa Qa;have JkM:=nT u x;have Jvr:=nT v y;have HSu:=lh (fun W=>nI u x Qa Qa W);have HSv:=lh (fun W=>nI v y Qa Qa W);generalize l.getD m 0=c at *
         generalize jP u x=s1 at *
         generalize jP v y=s2 at *
         generalize kg l 4 u v m=T at *
         obtain ⟨c1,Sq⟩:∃ c1,c1=c*s1:=⟨_,rfl⟩
         have Jug:-6266880<=c1/\c1<=6266880:=by rcases JkM with e | e <;> rw [e] at Sq <;> omega
         rw [<- Sq] at hte;have n1:IntKind.i64.wrap (c*s1)=c1:=by rw [<- Sq,Pk];omega
         have n2:IntKind.i64.wrap (c1*s2)=T:=by rw [<- hte,Pk];omega
         have hqb:-401080320<=eU l 4 u v (m+1)/\eU l 4 u v (m+1)<=401080320:=Qa;have n3:IntKind.i64.wrap (eU l 4 u v m+T)=eU l 4 u v (m+1):=by rw [<- hps,Pk];omega
         have Hpx:Hid (y*4+(x+1)=m+1):=lh Qa;generalize hqq:eU l 4 u v (m+1)=q at *
         have QS:i7 .i64 q:=by simp only [i7];omega
         obtain ⟨Ru,Rz⟩:=O.storeS QJ.symm QS K;rw [List.set_set] at Ru;have Su:=lh Ru;have Te:=lh Rz;have Hqq:=lh hqq;generalize eU l 4 u v m=p at *
         exact KO
        ·obtain rfl:x=4:=Qa
         have Zi:¬ ((4:Nat):Int)<4:=Qa;go_wp2_with fail;exact ⟨⟨y+1,Qa,Qh,by rw [show (y+1)*4=y*4+4 by omega];exact O,HQx⟩,Qf⟩
      ·obtain rfl:y=4:=Qa
       have Zt:¬ ((4:Nat):Int)<4:=Qa;have hK:=HK.out;have hD:=HDa.out K Qa;rw [show K % 4=u by omega,show K / 4=v by omega] at hD;have Vl:=BC V (show K<16 by omega);rw [hD] at Vl;have Sx:Hid (f9 .i64 3 w.heap.size wr (.slice w.heap.size 16 16) (o8 D 16 (K+1))):=lh (ea Vl I);clear hD Vl hK;go_wp2_with fail;exact ⟨⟨u+1,Qa,Qh,by rw [show v*4+(u+1)=K+1 by have:=HK.out;omega];exact Sx,M⟩,Qf⟩
    ·obtain rfl:u=4:=Qa
     have hui:¬ ((4:Nat):Int)<4:=Qa;go_wp2_with fail;exact ⟨⟨v+1,Qa,Qh,by rw [show (v+1)*4=v*4+4 by omega];exact E,J⟩,Qf⟩
  ·obtain rfl:v=4:=Qa
   have hvi:¬ ((4:Nat):Int)<4:=Qa;go_wp2_with fail;refine QF.out _ _ ⟨⟨_,rfl,?_⟩,L.out⟩;have:=F.out;rw [show 4*4=16 from rfl,Fv V.out] at this;exact this
theorem tI {lo hi:Nat} {v:Value} {l:List Int} {w:World} (h:aj .i64 lo hi w v l) (Z:l.length=64) (hb:dg 6266880 l):Calls prog 205 #[v,.int .i64 8] w fun e w'=>((∃ v',e=.returned v'/\f9 .i64 3 w.heap.size w' v' (ik 8 l))/\ae [] w w'):=by
 refine aK fun Q QF=>?_
 obtain ⟨a,cap,rfl,-,-,RO,QR⟩:=h.open;obtain ⟨b,off,rfl,-,-⟩:=RO 0 Qa;have N:=lh (fun m (hm:m<64)=>QR b off rfl m Qa);have Hb0:=lh (s4 (N.out 0 Qa));have HB:=lh hb;have HL:=lh Z;have V:=lh (dY 8 l);have HDa:=lh (fun k (hk:k<64)=>uB (n:=8) (by rw [Z]) hk);rw [Z];clear h Z hb RO QR;generalize ik 8 l=D at *
 have Uv:∀ Y:World,(Instr.makeSlice 22 (.int .i64 64) (.int .i64 64)).run prog Y=.ok (.slice (some ⟨Y.heap.size,0,none⟩) 64 64) (Y.alloc (.cells (madeCells #[()] 64) 3)):=fun Y=>run_make_row' (P:=prog) 22 3 (.int .i64 0) 8 EI.ut Qc rfl .i64 .i64 64 Qa Qa Y
 have XR:=gB .i64 3 w 64 Qj;have HM:Hid (f9 .i64 3 w.heap.size (w.alloc (.cells (madeCells #[()] 64) 3)) (.slice w.heap.size 64 64) (o8 D 64 0)):=lh (by rw [show o8 D 64 0=List.replicate 64 0 by simp [o8]];exact XR);have QO:=lh (ae.new w (.cells (madeCells #[()] 64) 3));have hw8:IntKind.i64.wrap (8*8)=64:=Ql;clear XR;go_enter func205,ntmps205;go_wp2_with fail;clear Uv;generalize Rs:World.alloc w _=W1 at *
 clear Rs;go_loopw [6,7,8,9] (fun i _ _ _ wr=>∃ v:Nat,v<=8/\i=.int .i64 v/\Hid (f9 .i64 3 w.heap.size wr (.slice w.heap.size 64 64) (o8 D 64 (v*8)))/\Hid (ae [] w wr)) (fun i _ _ _ _=>8-(intOf i).toNat)
 case atStart=>exact ⟨0,Qa,rfl,by rw [Nat.zero_mul];exact HM,QO⟩
 case round =>
  obtain ⟨v,hv,rfl,F,L⟩:=hrel;by_cases JBF:v<8
  ·have hvi:(v:Int)<8:=Qa
   have hv0:(0:Int)<=(v:Int):=Qa;go_wp2_with fail;go_loopw [7,8,9] (fun i _ _ wr=>∃ u:Nat,u<=8/\i=.int .i64 u/\Hid (f9 .i64 3 w.heap.size wr (.slice w.heap.size 64 64) (o8 D 64 (v*8+u)))/\Hid (ae [] w wr)) (fun i _ _ _=>8-(intOf i).toNat)
   case atStart=>exact ⟨0,Qa,rfl,F,L⟩
   case round =>
    obtain ⟨u,hu,rfl,E,J⟩:=hrel;by_cases JBB:u<8
    ·have hui:(u:Int)<8:=Qa
     have hu0:(0:Int)<=(u:Int):=Qa;obtain ⟨K,hK⟩:∃ K,K=v*8+u:=⟨_,rfl⟩
     rw [<- hK] at E;have e1:IntKind.i64.wrap ((v:Int)*8)=(v:Int)*8:=Qe;have e2:(v:Int)*8+(u:Int)=(K:Int):=Qa;have e5:IntKind.i64.wrap (K:Int)=(K:Int):=Qe;have hK0:(0:Int)<=(K:Int):=Qa;have hKi:(K:Int)<64:=Qa;have HO0:Hid (f9 .i64 3 w.heap.size wr (.slice w.heap.size 64 64) ((o8 D 64 K).set K (eU l 8 u v (0*8)))):=lh (by rw [Nat.zero_mul,show eU l 8 u v 0=0 from rfl,BD V.out Qa];exact E);have HK:=lh hK;clear hK;go_wp2_with fail;go_loopw [8,9] (fun i _ wr=>∃ y:Nat,y<=8/\i=.int .i64 y/\Hid (f9 .i64 3 w.heap.size wr (.slice w.heap.size 64 64) ((o8 D 64 K).set K (eU l 8 u v (y*8))))/\Hid (ae [] w wr)) (fun i _ _=>8-(intOf i).toNat)
     case atStart=>exact ⟨0,Qa,rfl,HO0,J⟩
     case round =>
      obtain ⟨y,hy,rfl,I,M⟩:=hrel;by_cases JBI:y<8
      ·have Zt:(y:Int)<8:=Qa
       have Vo:(0:Int)<=(y:Int):=Qa;go_wp2_with fail;go_loopw [9] (fun i wr=>∃ x:Nat,x<=8/\i=.int .i64 x/\Hid (f9 .i64 3 w.heap.size wr (.slice w.heap.size 64 64) ((o8 D 64 K).set K (eU l 8 u v (y*8+x))))/\Hid (ae [] w wr)) (fun i _=>8-(intOf i).toNat)
       case atStart=>exact ⟨0,Qa,rfl,I,M⟩
       case round =>
        obtain ⟨x,hx,rfl,O,HQx⟩:=hrel;by_cases JpJ:x<8
        ·have Zi:(x:Int)<8:=Qa
         have WL:(0:Int)<=(x:Int):=Qa;have Hx:=lh JpJ;obtain ⟨m,hm⟩:∃ m,m=y*8+x:=⟨_,rfl⟩
         have hmN:m<64:=Qa;have e3:IntKind.i64.wrap ((y:Int)*8)=(y:Int)*8:=Qe;have e4:(y:Int)*8+(x:Int)=(m:Int):=Qa;have e6:IntKind.i64.wrap (m:Int)=(m:Int):=Qe;have hm0:(0:Int)<=(m:Int):=Qa;have hmi:(m:Int)<64:=Qa;rw [<- hm] at O;have QJ:((o8 D 64 K).set K (eU l 8 u v m)).length=64:=by rw [PF];exact qy V Qa
         have cx:=O.cellS QJ.symm (i:=K) Qa;have fx:=O.frzS QJ.symm K;have cb:=HQx.cell (N.out m hmN) Qb;have hpb:=se HB 8 u v m (eC HL);have htb:=uD (n:=8) (u:=u) (v:=v) HB (show m<l.length by rw [HL.out];omega);have Zm:=HB.out m (eC HL);have hps:eU l 8 u v (m+1)=eU l 8 u v m+kg l 8 u v m:=rfl;have hte:kg l 8 u v m=l.getD m 0*jP u x*jP v y:=by unfold kg;rw [show m % 8=x by omega,show m / 8=y by omega]
         have hgp:((o8 D 64 K).set K (eU l 8 u v m)).getD K 0=eU l 8 u v m:=by
          rw [Pd,PT (by rw [qy V.out Qa];omega)]
          rfl
         rw [hgp] at cx;have hmb:(m:Int)*6266880<=63*6266880:=B2 Qa Qa;have JkM:=nT u x;have Jvr:=nT v y;have HSu:=lh (fun W=>nI u x Qa Qa W);have HSv:=lh (fun W=>nI v y Qa Qa W);generalize l.getD m 0=c at *
         generalize jP u x=s1 at *
         generalize jP v y=s2 at *
         generalize kg l 8 u v m=T at *
         obtain ⟨c1,Sq⟩:∃ c1,c1=c*s1:=⟨_,rfl⟩
         have Jug:-6266880<=c1/\c1<=6266880:=by rcases JkM with e | e <;> rw [e] at Sq <;> omega
         rw [<- Sq] at hte;have n1:IntKind.i64.wrap (c*s1)=c1:=by rw [<- Sq,Pk];omega
         have n2:IntKind.i64.wrap (c1*s2)=T:=by rw [<- hte,Pk];omega
         have hqb:-401080320<=eU l 8 u v (m+1)/\eU l 8 u v (m+1)<=401080320:=Qa;have n3:IntKind.i64.wrap (eU l 8 u v m+T)=eU l 8 u v (m+1):=by rw [<- hps,Pk];omega
         have Hpx:Hid (y*8+(x+1)=m+1):=lh Qa;generalize hqq:eU l 8 u v (m+1)=q at *
         have QS:i7 .i64 q:=by simp only [i7];omega
         obtain ⟨Ru,Rz⟩:=O.storeS QJ.symm QS K;rw [List.set_set] at Ru;have Su:=lh Ru;have Te:=lh Rz;have Hqq:=lh hqq;generalize eU l 8 u v m=p at *
         exact KO
        ·obtain rfl:x=8:=Qa
         have Zi:¬ ((8:Nat):Int)<8:=Qa;go_wp2_with fail;exact ⟨⟨y+1,Qa,Qh,by rw [show (y+1)*8=y*8+8 by omega];exact O,HQx⟩,Qf⟩
      ·obtain rfl:y=8:=Qa
       have Zt:¬ ((8:Nat):Int)<8:=Qa;have hK:=HK.out;have hD:=HDa.out K Qa;rw [show K % 8=u by omega,show K / 8=v by omega] at hD;have Vl:=BC V (show K<64 by omega);rw [hD] at Vl;have Sx:Hid (f9 .i64 3 w.heap.size wr (.slice w.heap.size 64 64) (o8 D 64 (K+1))):=lh (ea Vl I);clear hD Vl hK;go_wp2_with fail;exact ⟨⟨u+1,Qa,Qh,by rw [show v*8+(u+1)=K+1 by have:=HK.out;omega];exact Sx,M⟩,Qf⟩
    ·obtain rfl:u=8:=Qa
     have hui:¬ ((8:Nat):Int)<8:=Qa;go_wp2_with fail;exact ⟨⟨v+1,Qa,Qh,by rw [show (v+1)*8=v*8+8 by omega];exact E,J⟩,Qf⟩
  ·obtain rfl:v=8:=Qa
   have hvi:¬ ((8:Nat):Int)<8:=Qa;go_wp2_with fail;refine QF.out _ _ ⟨⟨_,rfl,?_⟩,L.out⟩;have:=F.out;rw [show 8*8=64 from rfl,Fv V.out] at this;exact this
end
def mM (I S:List Int) (k:Nat):List Int:=I.take k ++ S.drop k
theorem Aq {I S:List Int} {N k:Nat} (D:I.length=N) (E:S.length=N) (F:k<=N):(mM I S k).length=N:=by simp [mM];omega
theorem EF {I S:List Int} {N k:Nat} (D:I.length=N) (E:S.length=N) (F:k<N):(mM I S k).getD k 0=S.getD k 0:=by
 unfold mM;rw [Pd,Pt Qs,Po,Nat.min_eq_left Qa,Nat.sub_self,PA,Pd]
 rfl
theorem wE {I S:List Int} {N k:Nat} (D:I.length=N) (E:S.length=N) (F:k<N):(mM I S k).set k (I.getD k 0)=mM I S (k+1):=by
 unfold mM;have h1:(I.take k).length=k:=Qs;rw [List.set_append_right _ _ Qa,h1,Nat.sub_self,Py (show k<S.length by omega),Pi,UJ Qa,PM,Pd,Pe Qa]
 rfl
theorem uH {l:List Int} {B:Int} (h:dg B l) {x y:Int} (hx:x<=-B) (E:B<=y):aO l x y=true:=by
 unfold aO;rw [t6];intro z D;obtain ⟨i,hi,rfl⟩:=List.mem_iff_getElem.1 D;have:=h i hi;rw [Pd,Pe hi] at this;simp only [Option.getD_some] at this;simp;omega
theorem lu {n:Nat} (E:n=4\/n=8) {l:List Int} (D:l.length=n*n):bS l=(ik n l).map fun v=>(v+((n*n:Nat):Int) / 2) / ((n*n:Nat):Int):=by
 unfold bS;rw [eo E D,D]
 rfl
theorem uC {n:Nat} {l:List Int} (E:l.length=n*n) (h:dg 6266880 l) (I:n*n<=64):dg 401080320 (ik n l):=by
 intro k D;rw [dY] at D;rw [uB E D];have:=se h n (k % n) (k / n) (n*n) Qa;have F:((n*n:Nat):Int)*6266880<=64*6266880:=B2 Qa Qa;omega
section
theorem KF {p:Prop} (h:p:=by
 rw [hm] at QX;clear hm;have hre:=QP.rowAt HE2 (eW Hgw);obtain ⟨z0,z1,y0,y1,-⟩:=aL hre;have Hre:=lh hre;clear hre;go_wp2_with fail;obtain ⟨QK,QV⟩:=aJ (x:=.int .i64 0) (y:=.slice none 0 0) Hre;refine TV (aA results170 _ _ w.heap.size _ _ _ _ _ rfl rfl QK underlying39 rfl (aG _ rfl)) rfl (QF.out _ _ ⟨⟨_,rfl,?_⟩,?_⟩)
 ·exact (QX.only QV (fun x hx hh=>by rw [i5] at hx;subst hx;simp only [Value.ownBlock] at hh;injection hh with hh;have:=Hgw.out;omega)).lower QO.size
 ·exact ((QT.trans QP (U:=[]) Qb (fun x hx QH=>by rw [i5] at hx;have:=Hgw.out;omega)).trans QV (U:=[]) Qb (fun x hx QH=>Qo))):p:=h
theorem KG {p:Prop} (h:p:=by
 clear Ru Rz QS Vl hia QJ QH;go_wp2_with fail;refine (HDn.out _).mono ?_;rintro e w' ⟨rfl,rfl⟩;go_wp2_with fail;exact ⟨⟨k+1,by have:=Sj.out;omega,Qh,Su,lh (QP.trans Te (fun _ h _=>h) (fun _ h _=>h))⟩,by simp [intOf];have:=Sj.out;omega⟩):p:=h
theorem vd {lo hi:Nat} {v:Value} {l:List Int} {w:World} (h:aj .i64 lo hi w v l) (J:l.length=16) (M:dg 6266880 l):Calls prog 170 #[v] w fun e w'=>((∃ v',e=.returned (.tuple #[v',.agg #[(),d8]])/\f9 .i64 3 w.heap.size w' v' (bS l))/\ae [] w w'):=by
 refine aK fun Q QF=>?_
 have Z:=ae.new w (.cells #[(),d8] 39);have Rg:Hid ((w.alloc (.cells #[(),d8] 39)).heap[w.heap.size]?=some (.cells #[(),d8] 39)):=Sd w _;have TF:Hid ((w.alloc (.cells #[(),d8] 39)).heap.size=w.heap.size+1):=lh Qb;have N:=lh (fun (W:World) (o:ae [] (w.alloc (.cells #[(),d8] 39)) W)=>h.quiet (Z.q o));have YF:=lh (uH M (show (-16777216:Int)<=-6266880 by omega) (show (6266880:Int)<=16777216 by omega));have F:=lh (fun (W:World) (o:ae [] (w.alloc (.cells #[(),d8] 39)) W)=>tH (N.out W o) J M);have Y:Hid (∀ W,Calls prog 204 #[.int .i64 16] W fun e w'=>e=.returned (.int .i64 4)/\W=w'):=lh (fun W=>nH 16 Qa W);have D:=lh (show (ik 4 l).length=16 from dY 4 l);have V:=lh (uC (n:=4) J M Qa);have E:Hid ((bS l).length=16):=lh (by rw [gY,J]);have O:Hid (∀ k,k<16->(bS l).getD k 0=((ik 4 l).getD k 0+8) / 16):=lh (fun k hk=>by
  rw [lu (n:=4) Qa J,Pd,Pz,Pe (dn dY hk),Pd,Pe (dn dY hk)]
  rfl)
 obtain ⟨a,cap,rfl,-⟩:=h.open;rw [J] at N F |-
 have QO:=lh Z;clear h M Z;generalize ik 4 l=S at *
 generalize bS l=I at *
 go_enter func170,ntmps170;go_wp2_with fail;generalize Rs:World.alloc w _=W1 at *
 clear Rs;refine (Y.out _).mono ?_;rintro e w' ⟨rfl,rfl⟩;go_wp2_with fail;refine (bQ (-16777216) 16777216 (N.out W1 (AY))).mono ?_;rintro e w' ⟨rfl,rfl⟩;rw [YF.out];go_wp2_with fail;refine (F.out W1 (AY)).mono ?_;rintro e w2 ⟨⟨v2,rfl,L⟩,QN⟩;obtain ⟨g,Sk,rfl,ST,Rj⟩:=L.form (j0 D.out);rw [D.out] at L |-
 have WI:=lh L;have QT:=lh (QO.q QN);have HE2:=lh (QN.row Rg);have Hg:=lh (VL ST Rj);have Hgw:Hid (w.heap.size<g):=lh (j0 TF.out);clear L QN ST Rj;go_wp2_with fail;go_loopw [6] (fun i wr=>∃ k:Nat,k<=16/\i=.int .i64 k/\Hid (f9 .i64 3 W1.heap.size wr (.slice g 16 Sk) (mM I S k))/\Hid (ae [g] w2 wr)) (fun i _=>16-(intOf i).toNat)
 case atStart=>exact ⟨0,Qa,rfl,lh (by rw [show mM I S 0=S by simp [mM]];exact WI),lh (AY)⟩
 case round =>
  obtain ⟨k,hk,rfl,QX,QP⟩:=hrel;by_cases QH:k<16
  ·have Rt:(k:Int)<16:=Qa
   have RA:(0:Int)<=(k:Int):=Qa;have QJ:=Aq (k:=k) E D Qa;have cx:=QX.cellS QJ.symm (i:=k) Qa;have fx:=QX.frzS QJ.symm k;rw [EF E.out D.out QH] at cx;have Vl:=wE E D QH;have hia:=O.out k QH;have hsb:=V.out k (bC D QH);rw [hia] at Vl;generalize S.getD k 0=s at *
   have hd0:wrap64 (4*4)=16:=by unfold wrap64;omega
   have hd1:IntKind.i64.wrap (4*4)=16:=Ql;have hd2:(16:Int).tdiv 2=8:=Ql;have n1:IntKind.i64.wrap (s+8)=s+8:=Qe;have HDn:Hid (∀ W,Calls prog 215 #[.int .i64 (s+8),.int .i64 16] W fun e w'=>e=.returned (.int .i64 ((s+8) / 16))/\W=w'):=lh (fun W=>wk (s+8) 16 Qa Qa W);have QS:i7 .i64 ((s+8) / 16):=by simp only [i7];omega
   obtain ⟨Ru,Rz⟩:=QX.storeS QJ.symm QS k;rw [Vl] at Ru;have Su:=lh Ru;have Te:=lh Rz;have Sj:=lh QH;generalize (s+8) / 16=q at *
   exact KG
  ·obtain rfl:k=16:=Qa
   have Rt:¬ ((16:Nat):Int)<16:=Qa;have hm:mM I S 16=I:=by unfold mM;rw [C1 (eC D),Px,YN (eC E)]
   exact KF
theorem ve {lo hi:Nat} {v:Value} {l:List Int} {w:World} (h:aj .i64 lo hi w v l) (J:l.length=64) (M:dg 6266880 l):Calls prog 170 #[v] w fun e w'=>((∃ v',e=.returned (.tuple #[v',.agg #[(),d8]])/\f9 .i64 3 w.heap.size w' v' (bS l))/\ae [] w w'):=by
 refine aK fun Q QF=>?_
 have Z:=ae.new w (.cells #[(),d8] 39);have Rg:Hid ((w.alloc (.cells #[(),d8] 39)).heap[w.heap.size]?=some (.cells #[(),d8] 39)):=Sd w _;have TF:Hid ((w.alloc (.cells #[(),d8] 39)).heap.size=w.heap.size+1):=lh Qb;have N:=lh (fun (W:World) (o:ae [] (w.alloc (.cells #[(),d8] 39)) W)=>h.quiet (Z.q o));have YF:=lh (uH M (show (-16777216:Int)<=-6266880 by omega) (show (6266880:Int)<=16777216 by omega));have F:=lh (fun (W:World) (o:ae [] (w.alloc (.cells #[(),d8] 39)) W)=>tI (N.out W o) J M);have Y:Hid (∀ W,Calls prog 204 #[.int .i64 64] W fun e w'=>e=.returned (.int .i64 8)/\W=w'):=lh (fun W=>nH 64 Qa W);have D:=lh (show (ik 8 l).length=64 from dY 8 l);have V:=lh (uC (n:=8) J M Qa);have E:Hid ((bS l).length=64):=lh (by rw [gY,J]);have O:Hid (∀ k,k<64->(bS l).getD k 0=((ik 8 l).getD k 0+32) / 64):=lh (fun k hk=>by
  rw [lu (n:=8) Qa J,Pd,Pz,Pe (dn dY hk),Pd,Pe (dn dY hk)]
  rfl)
 obtain ⟨a,cap,rfl,-⟩:=h.open;rw [J] at N F |-
 have QO:=lh Z;clear h M Z;generalize ik 8 l=S at *
 generalize bS l=I at *
 go_enter func170,ntmps170;go_wp2_with fail;generalize Rs:World.alloc w _=W1 at *
 clear Rs;refine (Y.out _).mono ?_;rintro e w' ⟨rfl,rfl⟩;go_wp2_with fail;refine (bQ (-16777216) 16777216 (N.out W1 (AY))).mono ?_;rintro e w' ⟨rfl,rfl⟩;rw [YF.out];go_wp2_with fail;refine (F.out W1 (AY)).mono ?_;rintro e w2 ⟨⟨v2,rfl,L⟩,QN⟩;obtain ⟨g,Sk,rfl,ST,Rj⟩:=L.form (j0 D.out);rw [D.out] at L |-
 have WI:=lh L;have QT:=lh (QO.q QN);have HE2:=lh (QN.row Rg);have Hg:=lh (VL ST Rj);have Hgw:Hid (w.heap.size<g):=lh (j0 TF.out);clear L QN ST Rj;go_wp2_with fail;go_loopw [6] (fun i wr=>∃ k:Nat,k<=64/\i=.int .i64 k/\Hid (f9 .i64 3 W1.heap.size wr (.slice g 64 Sk) (mM I S k))/\Hid (ae [g] w2 wr)) (fun i _=>64-(intOf i).toNat)
 case atStart=>exact ⟨0,Qa,rfl,lh (by rw [show mM I S 0=S by simp [mM]];exact WI),lh (AY)⟩
 case round =>
  obtain ⟨k,hk,rfl,QX,QP⟩:=hrel;by_cases QH:k<64
  ·have Rt:(k:Int)<64:=Qa
   have RA:(0:Int)<=(k:Int):=Qa;have QJ:=Aq (k:=k) E D Qa;have cx:=QX.cellS QJ.symm (i:=k) Qa;have fx:=QX.frzS QJ.symm k;rw [EF E.out D.out QH] at cx;have Vl:=wE E D QH;have hia:=O.out k QH;have hsb:=V.out k (bC D QH);rw [hia] at Vl;generalize S.getD k 0=s at *
   have hd0:wrap64 (8*8)=64:=by unfold wrap64;omega
   have hd1:IntKind.i64.wrap (8*8)=64:=Ql;have hd2:(64:Int).tdiv 2=32:=Ql;have n1:IntKind.i64.wrap (s+32)=s+32:=Qe;have HDn:Hid (∀ W,Calls prog 215 #[.int .i64 (s+32),.int .i64 64] W fun e w'=>e=.returned (.int .i64 ((s+32) / 64))/\W=w'):=lh (fun W=>wk (s+32) 64 Qa Qa W);have QS:i7 .i64 ((s+32) / 64):=by simp only [i7];omega
   obtain ⟨Ru,Rz⟩:=QX.storeS QJ.symm QS k;rw [Vl] at Ru;have Su:=lh Ru;have Te:=lh Rz;have Sj:=lh QH;generalize (s+32) / 64=q at *
   exact KG
  ·obtain rfl:k=64:=Qa
   have Rt:¬ ((64:Nat):Int)<64:=Qa;have hm:mM I S 64=I:=by unfold mM;rw [C1 (eC D),Px,YN (eC E)]
   exact KF
end
def ez (p r:List Int):List Int:=List.zipWith (fun a v=>fj (a+v)) p r
theorem jt {p r:List Int} (h:p.length=r.length):(ez p r).length=p.length:=by simp [ez,h]
theorem Ck {p r:List Int} (h:p.length=r.length) {k:Nat} (D:k<p.length):(ez p r).take (k+1)=(ez p r).take k ++ [fj (p.getD k 0+r.getD k 0)]:=by
 rw [UJ (by rw [jt h];exact D)]
 congr 2
 simp [ez,List.getElem_zipWith,Pd,D,show k<r.length by omega]
section
theorem lw {lo hi lo' hi':Nat} {pv rv:Value} {p r:List Int} {w:World} (hp:aj .i64 lo hi w pv p) (hr:aj .i64 lo' hi' w rv r) (L:p.length=r.length) (hn:p.length<=64) (hs:ar p) (hb:dg 401080320 r):Calls prog 108 #[pv,rv] w fun e w'=>((∃ v',e=.returned v'/\f9 .i64 3 w.heap.size w' v' (ez p r))/\ae [] w w'):=by
 refine aK fun Q QF=>?_
 have HN:=lh (fun k (hk:k<p.length)=>Ck L hk);have UK:=lh (jt L);have HP:=lh hp;have HR:=lh hr;have HS:=lh hs;have HB:=lh hb;have Hl:=lh L;obtain ⟨pa,RK,rfl,-⟩:=hp.open;obtain ⟨ra0,JFC,rfl,-⟩:=hr.open;rw [<- L];rw [<- L] at HR;have Vd:(p.length:Int)<=64:=Qa;clear hp hr hs hb L;generalize ez p r=D at *
 go_enter func108,ntmps108;go_wp2_with fail;go_loopw [6,5] (fun i y wr=>∃ k:Nat,k<=p.length/\i=.int .i64 k/\Hid (f9 .i64 3 w.heap.size wr y (D.take k))/\Hid (bj w.heap.size y)/\Hid (ae [] w wr)) (fun i _ _=>p.length-(intOf i).toNat)
 case atStart=>exact ⟨0,Qa,rfl,lh (f9.nil _ _ _ _),lh (bj.nil _),lh (AY)⟩
 case round =>
  obtain ⟨k,hk,rfl,O,SU,N⟩:=hrel;have V:(D.take k).length=k:=by rw [Po,UK.out];omega
  obtain ⟨ra,VK,rfl,-⟩:=O.ints.open;rw [V] at O SU |-
  by_cases M:k<p.length
  ·have Rt:(k:Int)<(p.length:Int):=Qa
   have RA:(0:Int)<=(k:Int):=Qa;obtain ⟨bp,op,JFx,J,-,-,F⟩:=HP.at M;injection J with J e2 e3
   subst J;subst e3;obtain ⟨br,or,JFB,J,-,-,I⟩:=HR.at (i:=k) (j0 Hl.out);injection J with J e4 e3
   subst J;subst e3;have Vl:=HN.out k M;have cp:=N.cell F Qb;have cr:=N.cell I Qb;have Hcp:=lh F;have Hcr:=lh I;clear F I;have ha:=HS.at k;have hc:=HB.out k (j0 Hl.out);generalize p.getD k 0=a at *
   generalize r.getD k 0=c at *
   have hq:=jE (a+c);obtain ⟨q,Y⟩:∃ q,fj (a+c)=q:=⟨_,rfl⟩
   rw [Y] at Vl hq;have hw:IntKind.i64.wrap (a+c)=a+c:=Qe;have UF:∀ z∈[q],i7 .i64 z:=by simp only [i5,n7,i7];omega
   have RI:=lh (fun (W:World)=>aU (k:=.i64) (w:=W) (t:=3) (l:=[q]) rfl Qj UF 1 rfl rfl);have TU:=lh (show ((D.take k).length+[q].length)*8<=140737488355328 by rw [V];simp;omega);have Ra:Hid ((D.take k ++ [q]).length=k+1):=lh (by rw [Pn,V];rfl);have Hnx:=lh Vl;have Sj:=lh M;have Tn:=lh (show w.heap.size<=(wr.alloc (.cells #[q] 3)).heap.size by have:=N.size;simp;omega);have HFr:=lh SU;clear UF Vl ha hc hq V e2 e4 M;go_wp2_with fail;refine Tf (S:=(fun w'=>w'.cell? ⟨bp,op+k,none⟩=some (.int .i64 a)/\w'.cell? ⟨br,or+k,none⟩=some (.int .i64 c))) Qc ?_ (fun hHeld=>?_)
   ·exact ⟨cp,cr⟩
   refine tk 0 13 ?_;refine tk 1 14 ?_;refine tk 2 15 ?_;refine tk 3 16 ?_;refine tk 4 17 ?_;refine tk 5 18 ?_;refine tk 6 19 ?_;refine tk 7 20 ?_;refine tk 8 21 ?_;refine tk 9 22 ?_;refine j6 10 23 fun K hK=>?_
   go_simp;refine (wh _ _).mono ?_;rintro e w' ⟨rfl,rfl⟩;simp only [Y];refine ko hK ⟨cp,cr⟩ fun hHeld=>?_;clear hK K
   refine j6 11 24 fun K hK=>?_
   go_simp;refine ko hK ⟨(ae.new wr (.cells #[q] 3)).cell cp Qb,(ae.new wr (.cells #[q] 3)).cell cr Qb⟩ fun hHeld=>?_;clear hK K
   refine j6 12 25 fun K hK=>?_
   refine ck rfl (.tmp 13) (.tmp 24) _ rfl EI ((O.quiet (ae.new wr _)).quiet (AY).drew) rfl ((RI.out wr).quiet (AY).drew) rfl TU Tn (fun v1 w6 Z Rc=>?_);obtain ⟨x1,SV,RZ,_⟩:=Z.ints.open;subst RZ;rw [Ra.out] at Z Rc |-
   have SD:=lh Z;have Sa:=lh Rc;have E:=(N.q (ae.new wr (.cells #[q] 3)).drew).acc Rc HFr
   (have HD6:=lh E);clear Z Rc
   refine ko hK ⟨E.cell Hcp Qb,E.cell Hcr.out Qb⟩ fun hHeld=>?_;clear hK K
   refine tk 13 5 ?_;refine Wn Qc ?_ _;go_wp2_with fail;refine ⟨⟨k+1,by have:=Sj.out;omega,Qh,lh (bC Hnx SD),lh (Sa.from_ SU Tn),lh ?_⟩,by simp [intOf];have:=Sj.out;omega⟩;exact HD6
  ·obtain rfl:k=p.length:=Qa
   have Rt:¬ (p.length:Int)<(p.length:Int):=Qa;rw [YN (eC UK)] at O;clear V M;go_wp2_with fail;exact QF.out _ _ ⟨⟨_,rfl,O.out⟩,N.out⟩
theorem iC {l:List Int} (I:l.length=16\/l.length=64) (h:dg 6266880 l):dg 401080320 (bS l):=by
 obtain ⟨n,D,E⟩:∃ n,(n=4\/n=8)/\l.length=n*n:=I.elim (fun e=>⟨4,.inl rfl,e⟩) (fun e=>⟨8,.inr rfl,e⟩);have J:=uC E h (by rcases D with rfl | rfl <;> omega);intro k F;rw [gY] at F;have h1:=J k (by rw [dY];omega);rw [lu D E,Pd,Pz,Pe (by rw [dY];omega)];rw [Pd,Pe (by rw [dY];omega)] at h1;simp only [Option.getD_some,Option.map_some] at h1 |-
 generalize (ik n l)[k]'_=s at *
 rcases D with rfl | rfl
 ·show -401080320<=(s+(16:Int) / 2) / 16/\(s+(16:Int) / 2) / 16<=401080320
  omega
 ·show -401080320<=(s+(64:Int) / 2) / 64/\(s+(64:Int) / 2) / 64<=401080320
  omega
theorem nG {lo hi:Nat} {v:Value} {l:List Int} {w:World} (h:aj .i64 lo hi w v l) (M:l.length=16\/l.length=64) (L:cE l) (n:Nat) (N:n<=15):Calls prog 109 #[v,n] w fun e w'=>((∃ v',e=.returned v'/\f9 .i64 3 w.heap.size w' v' (ce l n))/\dg 401080320 (ce l n)/\ae [] w w'):=by
 refine aK fun Q QF=>?_
 have HV:=lh (Aj h Qa L n N);have F:=ei l n;have D:=jb L N;have HA:Hid (dg 401080320 (ce l n)):=iC (dn F M) D;have HI:Hid (∀ (lo1 hi1:Nat) (u:Value) (W:World),aj .i64 lo1 hi1 W u (cM l n)->Calls prog 170 #[u] W fun e w'=>(∃ v',e=.returned (.tuple #[v',.agg #[(),d8]])/\f9 .i64 3 W.heap.size w' v' (bS (cM l n)))/\ae [] W w'):=lh (fun _ _ _ _ hu=>by
  rcases M with e | e
  ·exact vd hu (by rw [F,e]) D
  ·exact ve hu (by rw [F,e]) D)
 have HD:Hid (ce l n=bS (cM l n)):=lh rfl;have J:Hid (0<(cM l n).length):=lh (by rw [F];omega);obtain ⟨a,cap,rfl,-⟩:=h.open;clear h M L N F D;generalize ce l n=RD at *
 generalize cM l n=V at *
 generalize bS V=I at *
 go_enter func109,ntmps109;go_wp2_with fail;refine HV.mono ?_;rintro e w1 ⟨⟨v1,rfl,E⟩,O⟩;obtain ⟨g,Sk,rfl,-,-⟩:=E.form J;have Y:=O.q (ae.new w1 (.cells #[(),d8] 39));have HO:=lh (E.quiet (ae.new w1 (.cells #[(),d8] 39)));have QT:=lh Y;clear E O Y;go_wp2_with fail;generalize VZ:World.alloc w1 _=W2 at *
 clear VZ;refine (HI.out _ _ _ W2 HO.ints).mono ?_;rintro e w3 ⟨⟨v3,rfl,E⟩,Z⟩;have Ui:=lh (E.quiet (ae.new w3 (.cells #[(),d8] 39)));have QW:=lh (Z.q (ae.new w3 (.cells #[(),d8] 39)));clear E Z;go_wp2_with fail;refine QF.out _ _ ⟨⟨_,rfl,?_⟩,HA.out,QT.q QW.out⟩;rw [HD.out];exact Ui.lower QT.size
end
end Go.Proofs.YthcafdfdglfabaaGreatDoor
