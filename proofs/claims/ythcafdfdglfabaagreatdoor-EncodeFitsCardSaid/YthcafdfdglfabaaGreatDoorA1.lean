/- Joined texts: DKMay, DRPl, DRHf. Conditions: each part names its own. -/
import Derived.Test.YthcafdfdglfabaaGreatDoorK5
namespace Go.Proofs.YthcafdfdglfabaaGreatDoor
open Go.RowKit
set_option linter.unusedVariables false
set_option linter.unusedSimpArgs false
set_option maxRecDepth 100000
set_option maxHeartbeats 16000000
theorem BB {p:Prop} (h:p:=by
 go_enter Tryz.func88,Tryz.ntmps88;go_wp2
 all_goals
  go_ret;exact ⟨aK (by unfold eA;rw [Bool.eq_iff_iff];simp;try omega),rfl⟩):p:=h
theorem fk (n:Int) (w:World) :
  Calls Tryz.prog 88 #[n] w fun e w'=>e=.returned (.bool (eA n))/\w=w':=by
 by_cases h8:8<=n
 ·by_cases h32:n<=32
  all_goals
   exact BB
 ·exact BB
section
theorem gU {lo hi:Nat} {pv:Value} {l:List Int} {w:World} (W H:Int) (h:ah .i64 lo hi w pv l) :
  Calls Tryz.prog 60 #[.agg #[W,H,pv]] w fun e w'=>e=.returned (.bool (dV ⟨W,H,l⟩))/\ae [] w w':=by
 obtain ⟨a,cap,rfl,hlc,PI,_⟩:=h.open;have Qn:(l.length:Int)<=9223372036854775807:=by unfold maxLen at PI;omega
 have MP:ae [] w (w.alloc (.cells #[W,H,.slice a l.length cap] 24)):=ae.new w _;have HQ:=lh MP;have Hh:=lh h;clear h PI hlc MP;cases hW:eA W with
 | false =>
  have Hr:Hid (dV ⟨W,H,l⟩=false):=lh (by simp [dV,hW]);have HW:=lh hW;clear hW;go_enter Tryz.func60,Tryz.ntmps60
  go_wp2_with (first | (go_at_call 88;refine (fk _ _).mono ?_;rintro e w' ⟨rfl,rfl⟩;rw [HW.out]) | fail)
  go_ret;exact ⟨aK (by rw [Hr.out]),HQ.out⟩
 | true =>
  cases hH:eA H with
  | false =>
   have Hr:Hid (dV ⟨W,H,l⟩=false):=lh (by simp [dV,hH]);have HW:=lh hW;have HH:=lh hH;clear hW hH;go_enter Tryz.func60,Tryz.ntmps60
   go_wp2_with (first | (go_at_call 88;refine (fk _ _).mono ?_;rintro e w' ⟨rfl,rfl⟩;(first | rw [HW.out] | rw [HH.out])) | fail)
   go_ret;exact ⟨aK (by rw [Hr.out]),HQ.out⟩
  | true =>
   have bW:=of_decide_eq_true hW;have bH:=of_decide_eq_true hH;have Hr:Hid (dV ⟨W,H,l⟩=(decide ((l.length:Int)=W*H) && aX l 0 255)):=lh (by simp [dV,hW,hH]);have HW:=lh hW;have HH:=lh hH;clear hW hH;obtain ⟨W',rfl⟩:=Int.eq_ofNat_of_zero_le (by omega:0<=W);obtain ⟨H',rfl⟩:=Int.eq_ofNat_of_zero_le (by omega:0<=H);have hn:W'*H'<=1024:=Lz (Nat.mul_le_mul (by omega:W'<=32) (by omega:H'<=32)) Mn;have VZ:(W':Int)*(H':Int)=((W'*H':Nat):Int):=by rw [Int.natCast_mul]
   have WW:=lh VZ;by_cases he:l.length=W'*H'
   ·have Hs:=lh (fun (wx:World) (o:ae [] w wx)=>bS 0 255 (Hh.quiet o))
    have Hr2:Hid (dV ⟨(W':Int),(H':Int),l⟩=aX l 0 255):=lh (by rw [Hr.out,WW.out,he];simp);rw [he] at HQ Hs |-
    generalize W'*H'=n at *
    clear he Qn bW bH Hr WW;generalize aX l 0 255=b at *
    go_enter Tryz.func60,Tryz.ntmps60
    go_wp2_with (first | (go_at_call 88;refine (fk _ _).mono ?_;rintro e w' ⟨rfl,rfl⟩;(first | rw [HW.out] | rw [HH.out])) | (go_at_call 61;refine (Hs.out _ HQ).mono ?_;rintro e w2 ⟨rfl,rfl⟩) | fail)
    go_ret;exact ⟨aK (by rw [Hr2.out]),HQ.out⟩
   ·have Hr2:Hid (dV ⟨(W':Int),(H':Int),l⟩=false):=lh (by rw [Hr.out,WW.out];simp;omega)
    have OT:((l.length:Int) == ((W'*H':Nat):Int))=false:=Mp;generalize W'*H'=n at *
    clear he bW bH Hr WW;go_enter Tryz.func60,Tryz.ntmps60
    go_wp2_with (first | (go_at_call 88;refine (fk _ _).mono ?_;rintro e w' ⟨rfl,rfl⟩;(first | rw [HW.out] | rw [HH.out])) | fail)
    go_ret;exact ⟨aK (by rw [Hr2.out]),HQ.out⟩
end
section
theorem vJ {p:Prop} (h:p:=by
 go_enter Tryz.func154,Tryz.ntmps154;go_wp2_with fail;go_ret;exact ⟨aK (by rw [HR.out,Bool.eq_iff_iff];simp;try omega),HQ.out⟩):p:=h
theorem lH (W H x y n:Int) (pv:Value) (w:World) (hW:8<=W/\W<=32) (hH:8<=H/\H<=32) (hn:4<=n/\n<=8) :
  Calls Tryz.prog 154 #[.agg #[W,H,pv],x,y,n] w fun e w'=>e=.returned (.bool (gA W H x y n))/\ae [] w w':=by
 have MP:ae [] w (w.alloc (.cells #[W,H,pv] 24)):=ae.new w _;have HQ:=lh MP;clear MP;obtain ⟨w1,w2⟩:=hW;obtain ⟨h1,h2⟩:=hH;obtain ⟨n1,n2⟩:=hn;have HR:Hid (gA W H x y n=decide (0<=x/\0<=y/\x<=W-n/\y<=H-n)):=lh rfl;generalize gA W H x y n=b at *
 by_cases hx:0<=x
 ·by_cases hy:0<=y
  ·by_cases Sm:x<=W-n
   ·by_cases hyy:y<=H-n
    all_goals
     exact vJ
   ·exact vJ
  ·exact vJ
 ·exact vJ
theorem DJ {lo hi:Nat} {pv:Value} {l:List Int} {w:World} (W H w0 h0:Int) (fv:Value) (h:ah .i64 lo hi w pv l) :
  Calls Tryz.prog 87 #[.agg #[w0,h0,fv],.agg #[W,H,pv]] w fun e w'=>e=.returned (.bool (eP ⟨W,H,l⟩ w0 h0))/\ae [] w w':=by
 obtain ⟨a,cap,rfl,hlc,PI,_⟩:=h.open;have MP:ae [] w ((w.alloc (.cells #[w0,h0,fv] 24)).alloc (.cells #[W,H,.slice a l.length cap] 24)):=(ae.new w _).alloc _;have HR:Hid (eP ⟨W,H,l⟩ w0 h0=(dV ⟨W,H,l⟩ && decide (W=w0) && decide (H=h0))):=lh rfl;have HM:=lh (gU W H (h.quiet MP));have f0:=ag ((ae.new (w.alloc _) (.cells #[W,H,.slice a l.length cap] 24)).row (heap_alloc_new w (.cells #[w0,h0,fv] 24)));have f:=ag (heap_alloc_new (w.alloc (.cells #[w0,h0,fv] 24)) (.cells #[W,H,.slice a l.length cap] 24));simp only [World.size_alloc] at f;have HF:=lh f;have Xt:=lh f0;have HQ:=lh MP;clear h PI hlc MP f f0;generalize dV ⟨W,H,l⟩=b at *
 generalize l.length=n at *
 go_enter Tryz.func87,Tryz.ntmps87;go_wp2_with fail;go_at_call 60;refine HM.mono ?_;rintro e w2 ⟨rfl,MV⟩;have c0:=MV.cell HF.1 Mg;have c1:=MV.cell HF.2.1 Mg;have d0:=MV.cell Xt.1 Mg;have d1:=MV.cell Xt.2.1 Mg;have Na:=lh MV;clear MV;cases b with
 | false =>
  go_wp2_with fail;go_ret;exact ⟨aK (by rw [HR.out];rfl),HQ.q Na.out⟩
 | true =>
  by_cases hW:W=w0
  ·subst hW
   go_wp2_with fail
   all_goals
    go_ret;exact ⟨aK (by rw [HR.out,Bool.eq_iff_iff];simp),HQ.q Na.out⟩
  ·have hb:(W == w0)=false:=by rw [beq_eq_false_iff_ne];exact hW
   have Hn:=lh hW;clear hW;go_wp2_with fail;go_ret;exact ⟨aK (by rw [HR.out];simp [Hn.out]),HQ.q Na.out⟩
theorem tN (v:Int) (w:World):Calls Tryz.prog 157 #[v] w fun e w'=>e=.returned (.int .i64 (ep v))/\w=w':=by
 go_enter Tryz.func157,Tryz.ntmps157;go_wp2
 all_goals
  go_ret;exact ⟨dN (by unfold ep;first | rfl | omega | (split <;> omega)),rfl⟩
theorem CZ {lo hi:Nat} {v:Value} {l:List Int} {w:World} (h:ah .i64 lo hi w v l) (hl:l.length<=1000000000) :
  Calls Tryz.prog 27 #[v] w fun e w'=>∃ v',e=.returned v'/\Own .i64 3 w.heap.size w' v' l/\ae [] w w':=by
 go_enter Tryz.func27,Tryz.ntmps27
 go_wp2_with (at_builtin;refine aw rfl (.tmp 3) (.tmp 4) _ rfl EI (qq (l:=[]) rfl Mg Mg 0 rfl) rfl (h.quiet ((ae.refl _ _).alloc _)) rfl ?c1 ?c2 (fun v1 w1 MN Nu=>?_))
 case c1=>simp;omega
 case c2=>simp
 go_ret;exact ⟨v1,rfl,by simpa using MN,((ae.refl _ _).alloc _).acc Nu (bB.lit (Lm _))⟩
end
section
theorem wH (a:Int) (h:-1000<=a/\a<=1000) (w:World):Calls Tryz.prog 208 #[a] w fun e w'=>e=.returned (.int .i64 (a / 2))/\w=w':=by
 have ax:=bJ a;have Hr:Hid ((a-a % 2).tdiv 2=a / 2):=lh (by rw [Int.tdiv_eq_ediv];omega);have hm:0<=a % 2/\a % 2<=1:=Mf;obtain ⟨h0,h1⟩:=h;obtain ⟨m0,m1⟩:=hm;generalize a % 2=m at *
 generalize a / 2=r at *
 go_enter Tryz.func208,Tryz.ntmps208;go_wp2_with fail;go_ret;exact ⟨dN Hr,rfl⟩
theorem vH {p:Prop} (h:p:=by
 clear em ex MR i2 i3 i4;go_enter Tryz.func209,Tryz.ntmps209;go_wp2_with fail;go_ret;exact ⟨dN HR.symm,HQ.out⟩):p:=h
theorem Gw {p:Prop} (h:p:=by
 rw [<- hMe] at i1 i2 hc;clear hMe;rcases (by omega:x<0\/(0<=x/\x<=W-1)\/(0<=x/\W-1<x)) with hx | ⟨hx,OB⟩ | ⟨hx,OB⟩
 ·have ex:min (max x 0) (W-1)=0:=Mf
  rw [ex] at i2 hc;rw [Int.add_zero] at i2 hc;have t0:0<=M:=Mf;have t1:M<(N:Int):=Mf;have hS:wrap64 (M)=M:=by unfold wrap64;omega
  exact vH
 ·have ex:min (max x 0) (W-1)=x:=Mf
  rw [ex] at i2 hc;have t0:0<=M+x:=Mf;have t1:M+x<(N:Int):=Mf;have hS:wrap64 (M+x)=M+x:=by unfold wrap64;omega
  exact vH
 ·have ex:min (max x 0) (W-1)=(W-1):=Mf
  rw [ex] at i2 hc;have t0:0<=M+(W-1):=Mf;have t1:M+(W-1)<(N:Int):=Mf;have hS:wrap64 (M+(W-1))=M+(W-1):=by unfold wrap64;omega
  exact vH):p:=h
theorem Ak {p:Prop} (h:p:=by
 exact vH):p:=h
theorem Jc {lo hi:Nat} {pv:Value} {w:World} {f:ai} (MU:FrOk f) (h:ah .i64 lo hi w pv f.pix) (x y:Int) :
  Calls Tryz.prog 209 #[.agg #[f.W,f.H,pv],x,y] w fun e w'=>e=.returned (.int .i64 (atD f x y))/\ae [] w w':=by
 obtain ⟨a,cap,rfl,-⟩:=h.open;have hq:=ae.new w (.cells #[f.W,f.H,.slice a f.pix.length cap] 24);have hI:=h.quiet hq;have HQ:=lh hq;have hW:8<=f.W/\f.W<=32:=⟨MU.w0,MU.w1⟩
 have hH:8<=f.H/\f.H<=32:=⟨MU.h0,MU.h1⟩
 obtain ⟨i1,i2,i3,i4⟩:=qh hW hH x y;have MR:=MU.len;obtain ⟨b,off,Te,hv,-,-,hc⟩:=hI.at (i:=(min (max y 0) (f.H-1)*f.W+min (max x 0) (f.W-1)).toNat) Mf;injection hv with e1 e2 e3
 subst e1;subst e3;have HR:Hid (atD f x y=f.pix.getD (min (max y 0) (f.H-1)*f.W+min (max x 0) (f.W-1)).toNat 0):=lh rfl;generalize f.pix.getD (min (max y 0) (f.H-1)*f.W+min (max x 0) (f.W-1)).toNat 0=v at *
 generalize f.pix.length=N at *
 generalize f.W=W at *
 generalize f.H=H at *
 clear hI MU h hq;have hH0:0<=H-1:=Mf;have hW0:0<=W-1:=Mf;have hw0:wrap64 0=0:=by unfold wrap64;omega
 obtain ⟨NB,Tg⟩:=hW;obtain ⟨hH1,hH2⟩:=hH;rcases (by omega:y<0\/(0<=y/\y<=H-1)\/(0<=y/\H-1<y)) with hy | ⟨hy,YX⟩ | ⟨hy,YX⟩
 ·have em:min (max y 0) (H-1)=0:=Mf
  rw [em] at i1 i2 hc;rw [Int.zero_mul] at i1 i2 hc;simp only [Int.zero_add] at i2 hc;rcases (by omega:x<0\/(0<=x/\x<=W-1)\/(0<=x/\W-1<x)) with hx | ⟨hx,OB⟩ | ⟨hx,OB⟩
  ·have ex:min (max x 0) (W-1)=0:=Mf
   rw [ex] at i2 hc;rw [Int.toNat_zero,Nat.add_zero] at hc;have t0:0<=0:=Mf;have t1:0<(N:Int):=Mf;exact Ak
  ·have ex:min (max x 0) (W-1)=x:=Mf
   rw [ex] at i2 hc;have t0:0<=x:=Mf;have t1:x<(N:Int):=Mf;exact Ak
  ·have ex:min (max x 0) (W-1)=(W-1):=Mf
   rw [ex] at i2 hc;rw [show (W-1).toNat=W.toNat-1 by omega] at hc;have t0:0<=(W-1):=Mf;have t1:(W-1)<(N:Int):=Mf;exact Ak
 ·have em:min (max y 0) (H-1)=y:=Mf
  rw [em] at i1 i2 hc;obtain ⟨M,hMe⟩:∃ M,M=y*W:=⟨_,rfl⟩
  have hM:wrap64 (y*W)=M:=by rw [<- hMe] at i1 i2 |-;unfold wrap64;omega
  exact Gw
 ·have em:min (max y 0) (H-1)=(H-1):=Mf
  rw [em] at i1 i2 hc;obtain ⟨M,hMe⟩:∃ M,M=(H-1)*W:=⟨_,rfl⟩
  have hM:wrap64 ((H-1)*W)=M:=by rw [<- hMe] at i1 i2 |-;unfold wrap64;omega
  exact Gw
theorem Gx {p:Prop} (h:p:=by
 rintro e w2 ⟨rfl,MV⟩;have Na:=lh (MT.q MV);clear MV;go_wp2_with fail;refine MM.out _ _ ⟨dN (by rw [HR.out];simp;try omega),Na.out⟩):p:=h
theorem Du {lo hi:Nat} {pv:Value} {w:World} {f:ai} (MU:FrOk f) (h:ah .i64 lo hi w pv f.pix) (hx hy:Int) (Ue:-1000<=hx/\hx<=1000) (Sr:-1000<=hy/\hy<=1000) :
  Calls Tryz.prog 153 #[.agg #[f.W,f.H,pv],hx,hy] w fun e w'=>e=.returned (.int .i64 (ja f hx hy))/\ae [] w w':=by
 refine aN fun Q MM=>?_
 obtain ⟨a,cap,rfl,-⟩:=h.open;have hq:=ae.new w (.cells #[f.W,f.H,.slice a f.pix.length cap] 24);have HRw:Hid ((w.alloc (.cells #[f.W,f.H,.slice a f.pix.length cap] 24)).heap[w.heap.size]?=some (.cells #[f.W,f.H,.slice a f.pix.length cap] 24 (0,0))):=lh (heap_alloc_new w _);have HQ:=lh hq;have H1:=lh (fun x y (wx:World) (o:ae [] w wx)=>Jc MU (h.quiet o) x y);have HD1:=lh (wH hx Ue);have Zd:=lh (wH hy Sr);obtain ⟨X,hX⟩:∃ X,X=hx / 2:=⟨_,rfl⟩
 obtain ⟨Y,hY⟩:∃ Y,Y=hy / 2:=⟨_,rfl⟩
 have eX:hx / 2=X:=hX.symm;have eY:hy / 2=Y:=hY.symm;have HR:Hid (ja f hx hy=if hx % 2=0/\hy % 2=0 then atD f X Y
  else if hy % 2=0 then (atD f X Y+atD f (X+1) Y+1) / 2
  else if hx % 2=0 then (atD f X Y+atD f X (Y+1)+1) / 2
  else (atD f X Y+atD f (X+1) Y+atD f X (Y+1)+atD f (X+1) (Y+1)+2) / 4):=lh (by rw [hX,hY];rfl)
 have i00:=ii MU.sam X Y;have i10:=ii MU.sam (X+1) Y;have i01:=ii MU.sam X (Y+1);have i11:=ii MU.sam (X+1) (Y+1);have c00:=lh (H1.out X Y);have c10:=lh (H1.out (X+1) Y);have c01:=lh (H1.out X (Y+1));have c11:=lh (H1.out (X+1) (Y+1));have bX:-500<=X/\X<=500:=Mf;have bY:-500<=Y/\Y<=500:=Mf;generalize atD f X Y=v00 at *
 generalize atD f (X+1) Y=Zu at *
 generalize atD f X (Y+1)=v01 at *
 generalize atD f (X+1) (Y+1)=v11 at *
 obtain ⟨a00,b00⟩:=i00;obtain ⟨a10,b10⟩:=i10;obtain ⟨a01,b01⟩:=i01;obtain ⟨a11,b11⟩:=i11;obtain ⟨bX0,bX1⟩:=bX;obtain ⟨bY0,bY1⟩:=bY;have ax:=bJ hx;have ay:=bJ hy;have hx2:hx % 2=0\/hx % 2=1:=Mf;have hy2:hy % 2=0\/hy % 2=1:=Mf;rw [eX] at HD1;rw [eY] at Zd;clear h hq hX hY H1 Ue Sr eX eY;rcases hx2 with ex | ex <;> rcases hy2 with ey | ey
 ·rw [ex,ey] at HR
  rw [ex] at ax;rw [ey] at ay;clear ex ey;go_enter Tryz.func153,Tryz.ntmps153;go_wp2_with fail;go_at_call 208;refine (HD1.out _).mono ?_;rintro e w1 ⟨rfl,rfl⟩;go_wp2_with fail;go_at_call 208;refine (Zd.out _).mono ?_;rintro e w1 ⟨rfl,rfl⟩;go_wp2_with fail;go_at_call 209;refine (c00.out _ HQ).mono ?_;rintro e w1 ⟨rfl,MP⟩;have MT:=lh (HQ.q MP);have Nq:=lh (MP.row HRw);obtain ⟨r0,r1,r2⟩:=ag Nq;clear MP;go_wp2_with fail;refine MM.out _ _ ⟨dN (by rw [HR.out];simp),MT.out⟩
 ·rw [ex,ey] at HR
  rw [ex] at ax;rw [ey] at ay;clear ex ey;go_enter Tryz.func153,Tryz.ntmps153;go_wp2_with fail;go_at_call 208;refine (HD1.out _).mono ?_;rintro e w1 ⟨rfl,rfl⟩;go_wp2_with fail;go_at_call 208;refine (Zd.out _).mono ?_;rintro e w1 ⟨rfl,rfl⟩;go_wp2_with fail;go_at_call 209;refine (c00.out _ HQ).mono ?_;rintro e w1 ⟨rfl,MP⟩;have MT:=lh (HQ.q MP);have Nq:=lh (MP.row HRw);obtain ⟨r0,r1,r2⟩:=ag Nq;clear MP;go_wp2_with fail;go_at_call 209;refine (c01.out _ MT).mono ?_;exact Gx
 ·rw [ex,ey] at HR
  rw [ex] at ax;rw [ey] at ay;clear ex ey;go_enter Tryz.func153,Tryz.ntmps153;go_wp2_with fail;go_at_call 208;refine (HD1.out _).mono ?_;rintro e w1 ⟨rfl,rfl⟩;go_wp2_with fail;go_at_call 208;refine (Zd.out _).mono ?_;rintro e w1 ⟨rfl,rfl⟩;go_wp2_with fail;go_at_call 209;refine (c00.out _ HQ).mono ?_;rintro e w1 ⟨rfl,MP⟩;have MT:=lh (HQ.q MP);have Nq:=lh (MP.row HRw);obtain ⟨r0,r1,r2⟩:=ag Nq;clear MP;go_wp2_with fail;go_at_call 209;refine (c10.out _ MT).mono ?_;exact Gx
 ·rw [ex,ey] at HR
  rw [ex] at ax;rw [ey] at ay;clear ex ey;go_enter Tryz.func153,Tryz.ntmps153;go_wp2_with fail;go_at_call 208;refine (HD1.out _).mono ?_;rintro e w1 ⟨rfl,rfl⟩;go_wp2_with fail;go_at_call 208;refine (Zd.out _).mono ?_;rintro e w1 ⟨rfl,rfl⟩;go_wp2_with fail;go_at_call 209;refine (c00.out _ HQ).mono ?_;rintro e w1 ⟨rfl,MP⟩;have MT:=lh (HQ.q MP);have Nq:=lh (MP.row HRw);obtain ⟨r0,r1,r2⟩:=ag Nq;clear MP;have wX:IntKind.i64.wrap (X+1)=X+1:=Mi;have wY:IntKind.i64.wrap (Y+1)=Y+1:=Mi;have e1:IntKind.i64.wrap (v00+Zu)=v00+Zu:=Mi;have e2:IntKind.i64.wrap (v00+Zu+v01)=v00+Zu+v01:=Mi;have e3:IntKind.i64.wrap (v00+Zu+v01+v11)=v00+Zu+v01+v11:=Mi;have e4:IntKind.i64.wrap (v00+Zu+v01+v11+2)=v00+Zu+v01+v11+2:=Mi;go_wp2_with fail;have HQa:=lh (ae.refl [] w1);refine wp_region_held_drew (S:=(fun w'=>w'.cell? ⟨w.heap.size,0,none⟩=some (.int .i64 f.W)/\w'.cell? ⟨w.heap.size,1,none⟩=some (.int .i64 f.H)/\w'.cell? ⟨w.heap.size,2,none⟩=some (.slice a f.pix.length cap))) Mh ?_ (fun hHeld=>?_)
  ·exact ⟨r0,r1,r2⟩
  refine tk 0 31 ?_;refine tk 1 32 ?_;refine tk 2 33 ?_;refine tk 3 34 ?_;refine tk 4 35 ?_;refine tk 7 38 ?_;refine tk 8 39 ?_;refine tk 9 40 ?_;refine tk 10 41 ?_;refine tk 13 44 ?_;refine tk 14 45 ?_;refine tk 15 46 ?_;refine tk 16 47 ?_;refine tk 17 48 ?_;refine rdy (rdc 5 36 (fun K hK=>?_) .nil);go_simp
  try simp only [wX,wY]
  go_at_call 209;refine (c10.out _ MT.drew).mono ?_;rintro e w2 ⟨rfl,MV⟩;have Na:=lh ((MT.drew).q MV);have Rn:=(HQa.drew.q MV).row Nq;have Jkv:=HQa.drew.q MV;clear MV;refine hK.out _ _ ?_ (fun hHeld=>?_)
  ·exact ag Rn
  clear hK K
  try simp only [Act.put,Lg,Lj,Lk]
  refine tk 6 37 ?_;refine rdy (rdc 11 42 (fun K hK=>?_) .nil);go_simp
  try simp only [wX,wY]
  go_at_call 209;refine (c01.out _ Na).mono ?_;rintro e w3 ⟨rfl,Nb⟩;have Nf:=lh ((Na.out).q Nb);have Ps:=(Jkv.q Nb).row Nq;have Jkw:=Jkv.q Nb;clear Nb;refine hK.out _ _ ?_ (fun hHeld=>?_)
  ·exact ag Ps
  clear hK K
  try simp only [Act.put,Lg,Lj,Lk]
  refine tk 12 43 ?_;refine rdy (rdc 18 49 (fun K hK=>?_) .nil);go_simp
  try simp only [wX,wY]
  go_at_call 209;refine (c11.out _ Nf).mono ?_;rintro e w4 ⟨rfl,Ng⟩;have NI:=lh ((Nf.out).q Ng);have hr4:=(Jkw.q Ng).row Nq;have JuB:=Jkw.q Ng;clear Ng;refine hK.out _ _ ?_ (fun hHeld=>?_)
  ·exact ag hr4
  clear hK K
  try simp only [Act.put,Lg,Lj,Lk]
  refine tk 19 50 ?_;refine tk 20 51 ?_;refine tk 21 52 ?_;refine tk 22 6 ?_;refine wpAnyH_done Mh ?_ _;clear Jkv Jkw JuB Rn Ps hr4
  try simp only [e1,e2,e3,e4]
  go_wp2_with fail;refine MM.out _ _ ⟨dN (by rw [HR.out];simp;rw [Int.tdiv_eq_ediv_of_nonneg Mf,Ll];omega),NI.out⟩
end
end Go.Proofs.YthcafdfdglfabaaGreatDoor
