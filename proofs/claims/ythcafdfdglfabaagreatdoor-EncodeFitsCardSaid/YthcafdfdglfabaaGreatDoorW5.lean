/- Joined texts: EContG, EBlk, ELev. Conditions: each part names its own. -/
import Derived.Test.YthcafdfdglfabaaGreatDoorW2
namespace Go.Proofs.YthcafdfdglfabaaGreatDoor
open Go.RowKit
set_option linter.unusedVariables false
set_option linter.unusedSimpArgs false
set_option maxRecDepth 100000
set_option maxHeartbeats 16000000
section
variable {f:Nat} {g:Int->Bool} {lo hi:Nat} {v:Value} {l:List Int} {w:World}
theorem zG (ef:∀ (args:Array Value) (w:World),(callFunc f args).run Tryz.prog w=.ok (.enter f args) w) (Xt:∀ (x:Int) (w:World),Calls Tryz.prog f #[x] w fun e w'=>e=.returned (.bool (g x))/\w=w') (h:ah .i64 lo hi w v l) (hl:l.length<=1000000000) :
  Calls Tryz.prog 182 #[v,.func (.func f) #[] #[]] w fun e w'=>(∃ i:Int,e=.returned (.int .i64 i)/\(0<=i↔l.any g=true)/\-1<=i/\i<=1000000000)/\ae [] w w':=by
 obtain ⟨a,cap,rfl,Qq,PI,Pd,MZ⟩:=h.open;have Sp:=lh Pd;have NX:=lh MZ;have HF:=lh Xt;have Hl:=lh hl;have Qn:(l.length:Int)<=9223372036854775807:=Mf;clear h Pd MZ PI Qq hl Xt;go_enter Tryz.func182,Tryz.ntmps182;go_wp2_with fail;go_loopw [8] (fun i wr=>∃ k:Nat,k<=l.length/\i=.int .i64 k/\Hid ((l.drop k).any g=l.any g)/\ae [] w wr) (fun i _=>l.length-(intOf i).toNat)
 case atStart=>exact ⟨0,Mf,rfl,lh rfl,ae.refl _ _⟩
 case round =>
  obtain ⟨k,hk,rfl,Hk,hq⟩:=hrel;by_cases MO:k<l.length
  ·obtain ⟨b,off,rfl,_,_⟩:=Sp.out k MO
   have c0:=hq.cell (NX.out b off rfl k MO) Mg;have hx:(0:Int)<=(k:Int):=Mf;have OB:(k:Int)<(l.length:Int):=Mf;have OS:=lh (jw (f:=g) MO);generalize l.getD k 0=x at *
   cases Sm:g x with
   | true =>
    have Hx:=lh Sm;clear Sm;go_wp2_with fail;refine (HF.out _ _).mono ?_;rintro e w2 ⟨rfl,rfl⟩;rw [Hx.out];go_wp2_with fail;go_ret;refine ⟨⟨k,rfl,?_,Mf,by have:=Hl.out;omega⟩,hq⟩;rw [<- Hk.out,OS.out,Hx.out];simp
   | false =>
    have Hx:=lh Sm;clear Sm;go_wp2_with fail;refine (HF.out _ _).mono ?_;rintro e w2 ⟨rfl,rfl⟩;rw [Hx.out];have Pq:Hid ((l.drop (k+1)).any g=l.any g):=lh (by rw [<- Hk.out,OS.out,Hx.out];rfl);go_wp2_with fail;exact ⟨⟨k+1,Mf,Mm,Pq,hq⟩,Mk⟩
  ·obtain rfl:k=l.length:=Mf
   have hx:¬ (l.length:Int)<(l.length:Int):=Mf;have Hz:Hid (l.any g=false):=lh (by rw [<- Hk.out,List.drop_length];rfl);go_wp2_with fail;go_ret;refine ⟨⟨-1,rfl,?_,Mf,Mf⟩,hq⟩
   first | rw [Hz.out] | rw [<- List.any_eq_true,Hz.out]
   simp
theorem jn (ef:∀ (args:Array Value) (w:World),(callFunc f args).run Tryz.prog w=.ok (.enter f args) w) (Xt:∀ (x:Int) (w:World),Calls Tryz.prog f #[x] w fun e w'=>e=.returned (.bool (g x))/\w=w') (h:ah .i64 lo hi w v l) (hl:l.length<=1000000000) :
  Calls Tryz.prog 122 #[v,.func (.func f) #[] #[]] w fun e w'=>e=.returned (.bool (l.any g))/\ae [] w w':=by
 have H:=lh (zG ef Xt h hl);clear h hl Xt;generalize l.any g=B at *
 go_enter Tryz.func122,Tryz.ntmps122
 go_wp2_with (first | (go_at_call 182;refine H.mono ?_;rintro e w1 ⟨⟨i,rfl,hi1,RK,XF⟩,MP⟩) | fail)
 go_ret;exact ⟨aK (by rw [Bool.eq_iff_iff,<- hi1];try simp),MP⟩
end
def CJ (x:Int):Bool:=decide (x < -1048576) || decide (1048576<x)
section
theorem td (x:Int) (w:World):Calls Tryz.prog 220 #[x] w fun e w'=>e=.returned (.bool (CJ x))/\w=w':=by
 go_enter Tryz.func220,Tryz.ntmps220;go_wp2_with fail
 all_goals
  go_ret;exact ⟨aK (by unfold CJ;simp;try omega),rfl⟩
theorem uF {l:List Int} (h:au l):l.any CJ=false:=by
 rw [List.any_eq_false];intro x hx;have:=h x hx;simp only [CJ,Bool.or_eq_true,decide_eq_true_eq];omega
theorem wj {lo hi lo' hi':Nat} {u v:Value} {a b:List Int} {w:World} (ha:ah .i64 lo hi w u a) (hb:ah .i64 lo' hi' w v b) (hl:b.length=a.length) (hm:a.length<=1000) (sa:au a) (sb:au b) :
  Calls Tryz.prog 184 #[u,v] w fun e w'=>e=.returned .nilIface/\ae [] w w':=by
 have ef:=fun args w=>MuLone.run_callFunc_enter Tryz.func220 Mh rfl args w
 have HA:=lh (jn ef td ha Mf);have HB:=lh (fun (W:World) (o:ae [] w W)=>jn ef td (hb.quiet o) Mf);rw [uF sa] at HA;rw [uF sb] at HB;obtain ⟨p,pc,rfl,-⟩:=ha.open;obtain ⟨q,qc,rfl,-⟩:=hb.open;rw [hl] at HB |-
 clear ef ha hb;go_enter Tryz.func184,Tryz.ntmps184;go_wp2_with fail;go_at_call 122;refine HA.mono ?_;rintro e w1 ⟨rfl,MP⟩;have MT:=lh MP;clear MP;go_wp2_with fail;go_at_call 122;refine (HB.out w1 MT).mono ?_;rintro e w2 ⟨rfl,MV⟩;have Na:=lh MV;clear MV;go_wp2_with fail;go_ret;exact ⟨rfl,MT.q Na.out⟩
theorem CF {a b:List Int} {k:Nat} (h:k<a.length) (hl:b.length=a.length):(dH a b)[k]?=some (a.getD k 0-b.getD k 0):=by
 unfold dH;rw [List.getElem?_zipWith,Lf h,Lf Mf,Le,Lf h,Le,Lf Mf]
 rfl
theorem Ef {l:List Int} {k:Nat} {x:Int} (h:l[k]?=some x):l.take (k+1)=l.take k ++ [x]:=by
 obtain ⟨h1,h2⟩:=List.getElem?_eq_some_iff.1 h;rw [List.take_succ_eq_append_getElem h1,h2]
theorem JE {lo hi lo' hi':Nat} {u v:Value} {a b:List Int} {w:World} (ha:ah .i64 lo hi w u a) (hb:ah .i64 lo' hi' w v b) (hl:b.length=a.length) (hm:a.length<=64) (sa:au a) (sb:au b) :
  Calls Tryz.prog 127 #[u,v] w fun e w'=>∃ v',e=.returned (.tuple #[v',.nilIface])/\Own .i64 3 w.heap.size w' v' (dH a b)/\ae [] w w':=by
 refine aN fun Q MM=>?_
 have XO:=lh (wj ha hb hl Mf sa sb);have JnN:=lh (fun (k:Nat) (h:k<a.length)=>CF h hl);have Hsa:=lh sa;have Hsb:=lh sb;obtain ⟨p,pc,rfl,-,-,Pd,MZ⟩:=ha.open;obtain ⟨q,qc,rfl,-,-,WZ,Sz⟩:=hb.open;obtain ⟨n,hn⟩:∃ n,n=a.length:=⟨_,rfl⟩
 rw [hl,<- hn] at WZ Sz XO |-
 rw [<- hn] at Pd MZ JnN hm;have HL:Hid ((dH a b).length=n):=lh (by rw [fe hn.symm (hl.trans hn.symm)]);have Sp:=lh Pd;have NX:=lh MZ;have Jjh:=lh WZ;have ZX:=lh Sz;clear ha hb hl sa sb Pd MZ WZ Sz hn;generalize dH a b=S at *
 go_enter Tryz.func127,Tryz.ntmps127;go_wp2_with fail;go_at_call 184;refine XO.mono ?_;rintro e w1 ⟨rfl,hq⟩;have MT:=lh hq;clear hq;go_wp2_with fail;go_loopw [7,18] (fun y i wr=>∃ k:Nat,k<=n/\i=.int .i64 k/\Hid (Own .i64 3 w.heap.size wr y (S.take k))/\Hid (bB w.heap.size y)/\Hid (ae [] w wr)) (fun _ i _=>n-(intOf i).toNat)
 case atStart=>exact ⟨0,Mf,rfl,lh (Own.nil _ _ _ _),lh (bB.nil _),MT⟩
 case round =>
  obtain ⟨k,hk,rfl,Wl,Wk,QL⟩:=hrel;by_cases MO:k<n
  ·have Ny:(k:Int)<(n:Int):=Mf
   have NU:(0:Int)<=(k:Int):=Mf;obtain ⟨b1,JkQ,rfl,_,_⟩:=Sp.out k MO;obtain ⟨b2,JkR,rfl,_,_⟩:=Jjh.out k MO;have ca:=QL.cell (NX.out b1 JkQ rfl k MO) Mg;have cb:=QL.cell (ZX.out b2 JkR rfl k MO) Mg;have hx:=Hsa.at k;have hy:=Hsb.at k;have Sq:=lh (Ef (JnN.out k MO));generalize a.getD k 0=x at *
   generalize b.getD k 0=y at *
   have MX:∀ z∈[x-y],InK .i64 z:=by simp only [mSg,forall_eq,InK];omega
   have Oa:=lh (fun (W:World)=>bg (k:=.i64) (w:=W) (t:=3) (l:=[x-y]) rfl Mo MX 1 rfl rfl);have Qj:=lh (show ((S.take k).length+[x-y].length)*8<=140737488355328 by simp;omega);have Ni:=lh (show (S.take k ++ [x-y]).length=k+1 by rw [Ln,Lp,HL.out];simp;omega);have PG:=lh (fun (o:Obj)=>(show w.heap.size<=(wr.alloc o).heap.size by have:=QL.size;simp;omega));obtain ⟨Ue,OB⟩:=hx;obtain ⟨Sr,YX⟩:=hy;clear MX
   go_wp2_with (first
    | (at_builtin;refine aw rfl (.tmp 23) (.tmp 30) _ rfl EI (Wl.quiet (ae.new _ _)) rfl (Oa.out _) rfl Qj (PG.out _) (fun v1 w3 MN Nu=>?_);obtain ⟨x1,OW,OB,_⟩:=MN.ints.open;subst OB;rw [Ni.out] at MN Nu |-;have Oy:=lh MN;have Od:=lh Nu;clear MN Nu)
    | fail)
   exact ⟨⟨k+1,Mf,Mm,lh (by rw [Sq.out];exact Oy),lh (Od.from_ Wk (PG.out _)),lh ((QL.q (ae.new _ _)).acc Od Wk)⟩,Mk⟩
  ·obtain rfl:k=n:=Mf
   have Ny:¬ (k:Int)<(k:Int):=Mf;have HO:=lh Wl;rw [List.take_of_length_le (by rw [HL.out];exact Lm _)] at HO;go_wp2_with fail;exact MM.out _ _ ⟨_,rfl,HO.out,QL.out⟩
theorem yu {a b:List Int} {k:Nat} (h:k<a.length) (hl:b.length=a.length):dl (a.take (k+1)) (b.take (k+1))=dl (a.take k) (b.take k)+max (a.getD k 0-b.getD k 0) (b.getD k 0-a.getD k 0):=by
 have h2:k<b.length:=Mf;have e1:a.getD k 0=a[k]:=by rw [Le,Lf h];rfl
 have e2:b.getD k 0=b[k]:=by rw [Le,Lf h2];rfl
 unfold dl;rw [List.take_succ_eq_append_getElem h,List.take_succ_eq_append_getElem h2,List.zipWith_append Mq,List.sum_append,e1,e2];simp
theorem rX {a b:List Int} (sa:au a) (sb:au b):∀ k,0<=dl (a.take k) (b.take k)/\dl (a.take k) (b.take k)<=255*k:=by
 intro k
 induction k generalizing a b with
 | zero=>simp [dl]
 | succ k ih =>
  cases a with
  | nil=>simp [dl];omega
  | cons x a =>
   cases b with
   | nil=>simp [dl];omega
   | cons y b =>
    have hx:=sa x (List.mem_cons_self ..);have hy:=sb y (List.mem_cons_self ..);have:=ih (a:=a) (b:=b) (fun z hz=>sa z (Lx _ hz)) (fun z hz=>sb z (Lx _ hz));simp only [dl,List.take_succ_cons,List.zipWith_cons_cons,List.sum_cons] at this |-
    omega
theorem Cy {lo hi lo' hi':Nat} {u v:Value} {a b:List Int} {w:World} (ha:ah .i64 lo hi w u a) (hb:ah .i64 lo' hi' w v b) (hl:b.length=a.length) (hm:a.length<=64) (sa:au a) (sb:au b) :
  Calls Tryz.prog 134 #[u,v] w fun e w'=>e=.returned (.tuple #[.int .i64 (dl a b),.nilIface])/\ae [] w w':=by
 refine aN fun Q MM=>?_
 have XO:=lh (wj ha hb hl Mf sa sb);have Ws:=lh (fun (k:Nat) (h:k<a.length)=>yu h hl);have VI:=lh (rX sa sb);have Hsa:=lh sa;have Hsb:=lh sb;obtain ⟨p,pc,rfl,-,-,Pd,MZ⟩:=ha.open;obtain ⟨q,qc,rfl,-,-,WZ,Sz⟩:=hb.open;obtain ⟨n,hn⟩:∃ n,n=a.length:=⟨_,rfl⟩
 rw [hl,<- hn] at WZ Sz XO |-
 rw [<- hn] at Pd MZ Ws hm;have Pm:Hid (dl (a.take n) (b.take n)=dl a b):=lh (by rw [List.take_of_length_le Mf,List.take_of_length_le Mf]);have Sp:=lh Pd;have NX:=lh MZ;have Jjh:=lh WZ;have ZX:=lh Sz;have H0:Hid (dl (a.take 0) (b.take 0)=0):=lh (by simp [dl]);clear ha hb hl sa sb Pd MZ WZ Sz hn;rw [<- Pm.out] at MM;clear Pm;generalize hT:(fun k=>dl (a.take k) (b.take k))=T at *
 have hTk:∀ k,dl (a.take k) (b.take k)=T k:=fun k=>by rw [<- hT]
 simp only [hTk] at MM Ws VI H0;clear hT hTk;go_enter Tryz.func134,Tryz.ntmps134;go_wp2_with fail;go_at_call 184;refine XO.mono ?_;rintro e w1 ⟨rfl,hq⟩;have MT:=lh hq;clear hq;go_wp2_with fail;go_loopw [7,18] (fun y i wr=>∃ k:Nat,k<=n/\i=.int .i64 k/\y=.int .i64 (T k)/\Hid (ae [] w wr)) (fun _ i _=>n-(intOf i).toNat)
 case atStart=>exact ⟨0,Mf,rfl,by rw [H0.out],MT⟩
 case round =>
  obtain ⟨k,hk,rfl,rfl,QL⟩:=hrel;by_cases MO:k<n
  ·have Ny:(k:Int)<(n:Int):=Mf
   have NU:(0:Int)<=(k:Int):=Mf;obtain ⟨b1,JkQ,rfl,_,_⟩:=Sp.out k MO;obtain ⟨b2,JkR,rfl,_,_⟩:=Jjh.out k MO;have ca:=QL.cell (NX.out b1 JkQ rfl k MO) Mg;have cb:=QL.cell (ZX.out b2 JkR rfl k MO) Mg;have hx:=Hsa.at k;have hy:=Hsb.at k;have ht:=VI.out k;have HT:=lh (Ws.out k MO);generalize a.getD k 0=x at *
   generalize b.getD k 0=y at *
   generalize hc:T k=c at *
   obtain ⟨Ue,OB⟩:=hx;obtain ⟨Sr,YX⟩:=hy;obtain ⟨ht0,ht1⟩:=ht;have ht2:c<=100000:=Mf;clear hc ht1;go_wp2_with fail
   go_quiet (fail)
   go_wp2_with fail;exact ⟨⟨k+1,Mf,Mm,by rw [HT.out];congr 1;omega,lh (QL.drewN _)⟩,Mk⟩
  ·obtain rfl:k=n:=Mf
   have Ny:¬ (k:Int)<(k:Int):=Mf;go_wp2_with fail;exact MM.out _ _ ⟨rfl,QL.out⟩
end
section
theorem pm {n:Nat} (hn:n<=15):1<=bh n/\bh n<=384:=by
 rcases sy hn with rfl | rfl | rfl | rfl | rfl | rfl | rfl | rfl | rfl | rfl | rfl | rfl | rfl | rfl | rfl | rfl <;> decide
theorem oU {a s:Int} (h0:0<=a) (h1:a<=20000000) (hs:1<=s):0<=a / s/\a / s<=20000000 :=
 ⟨Int.ediv_nonneg h0 Mf,Int.le_trans (Int.ediv_le_self _ h0) h1⟩
theorem DM (c:Int) (n:Nat) (hn:n<=15) (hc:-16777216<=c/\c<=16777216) (w:World) :
  Calls Tryz.prog 188 #[c,n] w fun e w'=>e=.returned (.tuple #[.int .i64 (fz n c),.nilIface])/\ae [] w w':=by
 refine aN fun Q MM=>?_
 have hs:=pm hn;have HS:=lh (oK n hn);have HL:Hid (fz n c=if c<0 then -((bh n / 2-c) / bh n) else (c+bh n / 2) / bh n):=lh rfl;generalize bh n=s at *
 generalize fz n c=R at *
 obtain ⟨s0,s1⟩:=hs;obtain ⟨c0,c1⟩:=hc;have e1:s.tdiv 2=s / 2:=Int.tdiv_eq_ediv_of_nonneg Mf;have n1:¬ c < -16777216:=Mf;have n2:¬ (16777216:Int)<c:=Mf;have n3:¬ s=0:=Mf;go_enter Tryz.func188,Tryz.ntmps188;go_wp2_with fail;go_at_call 187;refine (HS.out _).mono ?_;rintro e w1 ⟨rfl,hq⟩;have HQ:=lh hq;clear hq HS;obtain ⟨h2,hh2⟩:∃ z,z=s / 2:=⟨_,rfl⟩
 rw [<- hh2] at e1 HL;have b2:0<=h2/\h2<=192:=Mf;have HH:=lh hh2;clear hh2;obtain ⟨b0,b1⟩:=b2;by_cases Xc:c<0
 ·rw [if_pos Xc] at HL
  have e2:(h2-c).tdiv s=(h2-c) / s:=Int.tdiv_eq_ediv_of_nonneg Mf;have hb:=oU (a:=h2-c) (s:=s) Mf Mf s0;have HB:=lh hb;have a1:IntKind.i64.wrap (h2-c)=h2-c:=Mi;have a0:IntKind.i64.wrap h2=h2:=Mi;generalize (h2-c) / s=q at *
  have a2:IntKind.i64.wrap q=q:=by rw [Ll];have:=HB.out;omega
  have a3:IntKind.i64.wrap (-q)=-q:=by rw [Ll];have:=HB.out;omega
  clear hb;go_wp2_with fail;refine MM.out _ _ ⟨?_,HQ.out⟩;rw [HL.out]
  first | rfl | simp
 ·rw [if_neg Xc] at HL
  have e2:(c+h2).tdiv s=(c+h2) / s:=Int.tdiv_eq_ediv_of_nonneg Mf;have hb:=oU (a:=c+h2) (s:=s) Mf Mf s0;have HB:=lh hb;have a1:IntKind.i64.wrap (c+h2)=c+h2:=Mi;have a0:IntKind.i64.wrap h2=h2:=Mi;generalize (c+h2) / s=q at *
  have a2:IntKind.i64.wrap q=q:=by rw [Ll];have:=HB.out;omega
  clear hb;go_wp2_with fail;refine MM.out _ _ ⟨?_,HQ.out⟩;rw [HL.out]
  first | rfl | simp
theorem Bp {c:Int} {n:Nat} (hn:n<=15) (hc:-16777216<=c/\c<=16777216):InK .i64 (fz n c):=by
 have hs:=pm hn;unfold fz;generalize bh n=s at *
 simp only [InK]
 split
 ·have:=oU (a:=s / 2-c) (s:=s) Mf Mf hs.1;omega
 ·have:=oU (a:=c+s / 2) (s:=s) Mf Mf hs.1;omega
theorem zY {lo hi:Nat} {v:Value} {l:List Int} {w:World} (h:ah .i64 lo hi w v l) (hl:l.length<=64) (Nj:∀ x∈l,-16777216<=x/\x<=16777216) (n:Nat) (hn:n<=15) :
  Calls Tryz.prog 129 #[v,n] w fun e w'=>∃ v',e=.returned (.tuple #[v',.nilIface])/\Own .i64 3 w.heap.size w' v' (l.map (fz n))/\ae [] w w':=by
 refine aN fun Q MM=>?_
 obtain ⟨la,Nn,rfl,-,-,Pd,MZ⟩:=h.open;have Sp:=lh Pd;have NX:=lh MZ;clear h Pd MZ;have UI:=lh Nj;have PX:=lh (fun (c:Int) (hc:-16777216<=c/\c<=16777216)=>Bp hn hc);go_enter Tryz.func129,Tryz.ntmps129;go_wp2_with fail;go_at_call 187;refine (oK n hn _).mono ?_;rintro e w1 ⟨rfl,hq⟩;have MT:=lh hq;clear hq;have HV:=lh (fun (x:Int) (hx:-16777216<=x/\x<=16777216) (W:World)=>DM x n hn hx W);generalize hL:fz n=L at *
 clear hL;generalize bh n=st at *
 go_wp2_with fail;go_loopw [8,23] (fun y i wr=>∃ k:Nat,k<=l.length/\i=.int .i64 k/\Hid (Own .i64 3 w.heap.size wr y ((l.take k).map L))/\Hid (bB w.heap.size y)/\Hid (ae [] w wr)) (fun _ i _=>l.length-(intOf i).toNat)
 case atStart=>exact ⟨0,Mf,rfl,lh (Own.nil _ _ _ _),lh (bB.nil _),MT⟩
 case round =>
  obtain ⟨k,hk,rfl,Wl,Wk,QL⟩:=hrel;by_cases MO:k<l.length
  ·have Ny:(k:Int)<(l.length:Int):=Mf
   have NU:(0:Int)<=(k:Int):=Mf;obtain ⟨b,off,rfl,_,_⟩:=Sp.out k MO;have hc:=QL.cell (NX.out b off rfl k MO) Mg;have hx:=UI.out (l.getD k 0) (by rw [Le,Lf MO];exact LM _);have Sq:Hid ((l.take (k+1)).map L=(l.take k).map L ++ [L (l.getD k 0)]):=lh (by
    rw [List.take_succ_eq_append_getElem MO,LS,Le,Lf MO];rfl)
   generalize l.getD k 0=x at *
   have HVx:=lh (HV.out x hx);have MX:∀ y∈[L x],InK .i64 y:=by simp only [mSg,forall_eq];exact PX.out x hx
   generalize L x=lx at *
   have Oa:=lh (fun (W:World)=>bg (k:=.i64) (w:=W) (t:=3) (l:=[lx]) rfl Mo MX 1 rfl rfl);have Qj:=lh (show (((l.take k).map L).length+[lx].length)*8<=140737488355328 by simp;omega);have Ni:=lh (show (((l.take k).map L) ++ [lx]).length=k+1 by simp;omega);clear MX;go_wp2_with fail;go_at_call 188;refine (HVx.out _).mono ?_;rintro e w2 ⟨rfl,MV⟩;have Na:=lh MV;have Sb:=lh (Wl.quiet MV);have PG:=lh (fun (o:Obj)=>(show w.heap.size<=(w2.alloc o).heap.size by have:=QL.size;have:=MV.size;simp;omega));clear MV hc
   go_wp2_with (first
    | (at_builtin;refine aw rfl (.tmp 36) (.tmp 38) _ rfl EI (Sb.quiet (ae.new _ _)) rfl (Oa.out _) rfl Qj (PG.out _) (fun v1 w3 MN Nu=>?_);obtain ⟨x1,OW,OB,_⟩:=MN.ints.open;subst OB;rw [Ni.out] at MN Nu |-;have Oy:=lh MN;have Od:=lh Nu;clear MN Nu)
    | fail)
   exact ⟨⟨k+1,Mf,Mm,lh (by rw [Sq.out];exact Oy),lh (Od.from_ Wk (PG.out _)),lh (((QL.q Na).q (ae.new _ _)).acc Od Wk)⟩,Mk⟩
  ·obtain rfl:k=l.length:=Mf
   have Ny:¬ (l.length:Int)<(l.length:Int):=Mf;rw [List.take_length] at Wl;go_wp2_with fail;exact MM.out _ _ ⟨_,rfl,Wl.out,QL.out⟩
theorem wR {lo hi:Nat} {v:Value} {l:List Int} {w:World} (h:ah .i64 lo hi w v l) (hl:l.length=16\/l.length=64) (hb:∀ x∈l,-255<=x/\x<=255) :
  Calls Tryz.prog 128 #[v] w fun e w'=>∃ v',e=.returned (.tuple #[v',.nilIface])/\Own .i64 3 w.heap.size w' v' (bL l)/\ae [] w w':=by
 have HC:=lh (oM h hl (most:=65536) Mf (fun x hx=>by have:=hb x hx;omega));have HT:=lh (fun (wx:World) (o:ae [] w wx)=>yM (h.quiet o) hl (fun k hk=>by
  have:=hb (l.getD k 0) (by rw [Le,Lf hk];exact LM _);omega))
 obtain ⟨b,off,cap,rfl,_,_,_⟩:=h.at (i:=0) Mf;clear h hb hl;generalize bL l=T at *
 go_enter Tryz.func128,Tryz.ntmps128;go_wp2_with fail;go_at_call 185;refine HC.mono ?_;rintro e w1 ⟨rfl,MP⟩;have MT:=lh MP;clear MP;go_wp2_with fail;go_at_call 186;refine (HT.out w1 MT).mono ?_;rintro e w2 ⟨v2,rfl,MQ,UT,hq⟩;have HO:=lh MQ;have Na:=lh (MT.q hq);have HZ:=lh MT.size;clear MQ hq UT;go_wp2_with fail;go_ret2;exact ⟨v2,rfl,HO.lower HZ.out,Na.out⟩
theorem lq {n:Nat} (hn:n=4\/n=8) {l:List Int} (hl:l.length=n*n) (h:∀ x∈l,-255<=x/\x<=255):∀ x∈bL l,-16777216<=x/\x<=16777216:=by
 intro x hx;have:=pp hn hl Mf h x hx;rcases hn with rfl | rfl <;> simp at this <;> omega
theorem mH {n:Nat} (hn:n=4\/n=8) {lo hi lo' hi':Nat} {u v:Value} {b p:List Int} {w:World} (hb:ah .i64 lo hi w u b) (hp:ah .i64 lo' hi' w v p) (lb:b.length=n*n) (lp:p.length=n*n) (sb:au b) (sp:au p) (q:Nat) (hq:q<=15) :
  Calls Tryz.prog 70 #[u,v,q] w fun e w'=>∃ v',e=.returned v'/\Own .i64 3 w.heap.size w' v' (bA b p q)/\ae [] w w':=by
 refine aN fun Q MM=>?_
 have Vs:n*n=16\/n*n=64:=by rcases hn with rfl | rfl <;> simp
 have HS:=lh (JE hb hp Mf Mf sb sp);have Uo:=fe lb lp;have HF:=lh (fun (lo hi:Nat) (v:Value) (wx:World) (hx:ah .i64 lo hi wx v (dH b p))=>wR hx Mf (oL sb sp));have HL:=lh (fun (lo hi:Nat) (v:Value) (wx:World) (hx:ah .i64 lo hi wx v (bL (dH b p)))=>zY hx (by rw [eG];omega) (lq hn Uo (oL sb sp)) q hq);have HE:Hid (bA b p q=(bL (dH b p)).map (fz q)):=lh rfl;have H1:Hid (0<(dH b p).length):=lh Mf;have H2:Hid (0<(bL (dH b p)).length):=lh (by rw [eG];omega);obtain ⟨m,hm⟩:∃ m,m=n*n:=⟨_,rfl⟩
 rw [<- hm] at lb lp;obtain ⟨x,xc,rfl,-⟩:=hb.open;obtain ⟨y,yc,rfl,-⟩:=hp.open;rw [lb,lp] at HS;rw [lb,lp];generalize (bL (dH b p)).map (fz q)=L at *
 generalize bL (dH b p)=T at *
 generalize dH b p=S at *
 clear hb hp lb lp sb sp Uo hn hm Vs;go_enter Tryz.func70,Tryz.ntmps70;go_wp2_with fail;go_at_call 127;refine HS.mono ?_;rintro e w1 ⟨v1,rfl,MN,MP⟩;obtain ⟨g1,gc1,rfl,-,-⟩:=MN.form H1;have Oy:=lh MN;have MT:=lh MP;clear MN MP;go_wp2_with fail;go_at_call 128;refine (HF.out _ _ _ w1 Oy.ints).mono ?_;rintro e w2 ⟨v2,rfl,Om,MV⟩;obtain ⟨g2,gc2,rfl,-,-⟩:=Om.form H2;have Sb:=lh Om;have Na:=lh (MT.q MV);clear Om MV;go_wp2_with fail;go_at_call 129;refine (HL.out _ _ _ w2 Sb.ints).mono ?_;rintro e w3 ⟨v3,rfl,Re,Nb⟩;have Ql:=lh Re;have Nf:=lh Nb;clear Re Nb;go_wp2_with fail;refine MM.out _ _ ⟨v3,rfl,?_,Na.q Nf.out⟩;rw [HE.out];exact Ql.lower Na.size
end
end Go.Proofs.YthcafdfdglfabaaGreatDoor
