/- Joined texts: DFrA, DKMay, DRPl, DRHf, DRBl, DSqK, DSqL, DSqO, DSqI, DSqA. Conditions: each part names its own. -/
import Derived.Test.YthcafdfdglfabaaGreatDoorS4
set_option maxRecDepth 100000
set_option maxHeartbeats 16000000
namespace Go.Proofs.YthcafdfdglfabaaGreatDoor
open Tryz
open Go.RowKit
set_option linter.unusedVariables false
set_option linter.unusedSimpArgs false
theorem eI {w:World} {g:Nat} {a b c x y z:Value} {t:TypeId} (h:w.heap[g]?=some (.cells #[a,b,c] t)) :
  (((w.setCell ⟨g,0,none⟩ x).setCell ⟨g,1,none⟩ y).setCell ⟨g,2,none⟩ z).heap[g]?=some (.cells #[x,y,z] t)/\ae [g] w (((w.setCell ⟨g,0,none⟩ x).setCell ⟨g,1,none⟩ y).setCell ⟨g,2,none⟩ z):=by
 have h1:=WG w g 0 _ _ x h;have D:=WG _ g 1 _ _ y h1;have E:=WG _ g 2 _ _ z D;exact ⟨E,(((AY).setCell Qb _).setCell Qb _).setCell Qb _⟩
section
variable {lo hi lo' hi':Nat} {dv pv:Value} {w:World} {c:bw} {prev:ah} {l:List Int} {W H:Int}
end
theorem EN {p:Prop} (h:p:=by
 go_enter func88,ntmps88;go_wp2
 all_goals
  go_ret;exact ⟨aC (by unfold fu;rw [m9];simp;try omega),rfl⟩):p:=h
theorem fT (n:Int) (w:World) :
  Calls prog 88 #[n] w fun e w'=>e=.returned (.bool (fu n))/\w=w':=by
 by_cases h8:8<=n
 ·by_cases D:n<=32
  all_goals
   exact EN
 ·exact EN
section
theorem gZ {lo hi:Nat} {pv:Value} {l:List Int} {w:World} (W H:Int) (h:aj .i64 lo hi w pv l) :
  Calls prog 60 #[.agg #[W,H,pv]] w fun e w'=>e=.returned (.bool (cT ⟨W,H,l⟩))/\ae [] w w':=by
 obtain ⟨a,cap,rfl,V,RN,_⟩:=h.open;have Th:(l.length:Int)<=9223372036854775807:=by unfold maxLen at RN;omega
 have Z:ae [] w (w.alloc (.cells #[W,H,.slice a l.length cap] 24)):=ae.new w _;have L:=lh Z;have Hh:=lh h;clear h RN V Z;cases hW:fu W with
 | false =>
  have I:Hid (cT ⟨W,H,l⟩=false):=lh (by simp [cT,hW]);have M:=lh hW;clear hW;go_enter func60,ntmps60
  go_wp2_with (first | (go_at_call 88;refine (fT _ _).mono ?_;rintro e w' ⟨rfl,rfl⟩;rw [M.out]) | fail)
  go_ret;exact ⟨aC (by rw [I.out]),L.out⟩
 | true =>
  cases hH:fu H with
  | false =>
   have I:Hid (cT ⟨W,H,l⟩=false):=lh (by simp [cT,hH]);have M:=lh hW;have N:=lh hH;clear hW hH;go_enter func60,ntmps60
   go_wp2_with (first | (go_at_call 88;refine (fT _ _).mono ?_;rintro e w' ⟨rfl,rfl⟩;(first | rw [M.out] | rw [N.out])) | fail)
   go_ret;exact ⟨aC (by rw [I.out]),L.out⟩
  | true =>
   have bW:=A2 hW;have bH:=A2 hH;have I:Hid (cT ⟨W,H,l⟩=(decide ((l.length:Int)=W*H) && aO l 0 255)):=lh (by simp [cT,hW,hH]);have M:=lh hW;have N:=lh hH;clear hW hH;obtain ⟨E,rfl⟩:=A0 (by omega:0<=W);obtain ⟨D,rfl⟩:=A0 (by omega:0<=H);have hn:E*D<=1024:=Pw (A8 (by omega:E<=32) (by omega:D<=32)) Ql;have ZM:(E:Int)*(D:Int)=((E*D:Nat):Int):=by rw [A9]
   have F:=lh ZM;by_cases O:l.length=E*D
   ·have Y:=lh (fun (wx:World) (o:ae [] w wx)=>bQ 0 255 (Hh.quiet o))
    have J:Hid (cT ⟨(E:Int),(D:Int),l⟩=aO l 0 255):=lh (by rw [I.out,F.out,O];simp);rw [O] at L Y |-
    generalize E*D=n at *
    clear O Th bW bH I F;generalize aO l 0 255=b at *
    go_enter func60,ntmps60
    go_wp2_with (first | (go_at_call 88;refine (fT _ _).mono ?_;rintro e w' ⟨rfl,rfl⟩;(first | rw [M.out] | rw [N.out])) | (go_at_call 61;refine (Y.out _ L).mono ?_;rintro e w2 ⟨rfl,rfl⟩) | fail)
    go_ret;exact ⟨aC (by rw [J.out]),L.out⟩
   ·have J:Hid (cT ⟨(E:Int),(D:Int),l⟩=false):=lh (by rw [I.out,F.out];simp;omega)
    have RX:((l.length:Int) == ((E*D:Nat):Int))=false:=Qk;generalize E*D=n at *
    clear O bW bH I F;go_enter func60,ntmps60
    go_wp2_with (first | (go_at_call 88;refine (fT _ _).mono ?_;rintro e w' ⟨rfl,rfl⟩;(first | rw [M.out] | rw [N.out])) | fail)
    go_ret;exact ⟨aC (by rw [J.out]),L.out⟩
end
section
theorem yu {p:Prop} (h:p:=by
 go_enter func154,ntmps154;go_wp2_with fail;go_ret;exact ⟨aC (by rw [HR.out,m9];simp;try omega),HQ.out⟩):p:=h
theorem nD (W H x y n:Int) (pv:Value) (w:World) (F:8<=W/\W<=32) (E:8<=H/\H<=32) (I:4<=n/\n<=8) :
  Calls prog 154 #[.agg #[W,H,pv],x,y,n] w fun e w'=>e=.returned (.bool (io W H x y n))/\ae [] w w':=by
 have D:ae [] w (w.alloc (.cells #[W,H,pv] 24)):=ae.new w _;have HQ:=lh D;clear D;obtain ⟨w1,Y⟩:=F;obtain ⟨h1,M⟩:=E;obtain ⟨O,V⟩:=I;have HR:Hid (io W H x y n=decide (0<=x/\0<=y/\x<=W-n/\y<=H-n)):=lh rfl;generalize io W H x y n=b at *
 by_cases hx:0<=x
 ·by_cases N:0<=y
  ·by_cases L:x<=W-n
   ·by_cases J:y<=H-n
    all_goals
     exact yu
   ·exact yu
  ·exact yu
 ·exact yu
theorem GM {lo hi:Nat} {pv:Value} {l:List Int} {w:World} (W H w0 h0:Int) (F:Value) (h:aj .i64 lo hi w pv l) :
  Calls prog 87 #[.agg #[w0,h0,F],.agg #[W,H,pv]] w fun e w'=>e=.returned (.bool (ej ⟨W,H,l⟩ w0 h0))/\ae [] w w':=by
 obtain ⟨a,cap,rfl,O,RN,_⟩:=h.open;have M:ae [] w ((w.alloc (.cells #[w0,h0,F] 24)).alloc (.cells #[W,H,.slice a l.length cap] 24)):=(ae.new w _).alloc _;have L:Hid (ej ⟨W,H,l⟩ w0 h0=(cT ⟨W,H,l⟩ && decide (W=w0) && decide (H=h0))):=lh rfl;have Z:=lh (gZ W H (h.quiet M));have Y:=ag ((ae.new (w.alloc _) (.cells #[W,H,.slice a l.length cap] 24)).row (Sd w (.cells #[w0,h0,F] 24)));have f:=ag (Sd (w.alloc (.cells #[w0,h0,F] 24)) (.cells #[W,H,.slice a l.length cap] 24));simp only [World.size_alloc] at f;have V:=lh f;have E:=lh Y;have J:=lh M;clear h RN O M f Y;generalize cT ⟨W,H,l⟩=b at *
 generalize l.length=n at *
 go_enter func87,ntmps87;go_wp2_with fail;refine Z.mono ?_;rintro e w2 ⟨rfl,D⟩;have c0:=D.cell V.1 Qb;have c1:=D.cell V.2.1 Qb;have d0:=D.cell E.1 Qb;have d1:=D.cell E.2.1 Qb;have N:=lh D;clear D;cases b with
 | false =>
  go_wp2_with fail;go_ret;exact ⟨aC (by rw [L.out];rfl),J.q N.out⟩
 | true =>
  by_cases I:W=w0
  ·subst I
   go_wp2_with fail
   all_goals
    go_ret;exact ⟨aC (by rw [L.out,m9];simp),J.q N.out⟩
  ·have hb:(W == w0)=false:=dn A5 I
   have Hn:=lh I;clear I;go_wp2_with fail;go_ret;exact ⟨aC (by rw [L.out];simp [Hn.out]),J.q N.out⟩
theorem wh (v:Int) (w:World):Calls prog 157 #[v] w fun e w'=>e=.returned (.int .i64 (fj v))/\w=w':=by
 go_enter func157,ntmps157;go_wp2
 all_goals
  go_ret;exact ⟨ee (by unfold fj;first | rfl | omega | (split <;> omega)),rfl⟩
theorem FU {lo hi:Nat} {v:Value} {l:List Int} {w:World} (h:aj .i64 lo hi w v l) (I:l.length<=1000000000) :
  Calls prog 27 #[v] w fun e w'=>∃ v',e=.returned v'/\f9 .i64 3 w.heap.size w' v' l/\ae [] w w':=by
 go_enter func27,ntmps27
 go_wp2_with (at_builtin;refine au rfl (.tmp 3) (.tmp 4) _ rfl EI (nO (l:=[]) rfl Qb Qb 0 rfl) rfl (h.quiet ((AY).alloc _)) rfl ?c1 ?c2 (fun F w1 D E=>?_))
 case c1=>simp;omega
 case c2=>simp
 go_ret;exact ⟨F,rfl,by simpa using D,((AY).alloc _).acc E (bj.lit (Pm _))⟩
end
section
theorem zv (a:Int) (h:-1000<=a/\a<=1000) (w:World):Calls prog 208 #[a] w fun e w'=>e=.returned (.int .i64 (a / 2))/\w=w':=by
 have F:=bK a;have D:Hid ((a-a % 2).tdiv 2=a / 2):=lh (by rw [Int.tdiv_eq_ediv];omega);have E:0<=a % 2/\a % 2<=1:=Qa;obtain ⟨h0,h1⟩:=h;obtain ⟨I,m1⟩:=E;generalize a % 2=m at *
 generalize a / 2=r at *
 go_enter func208,ntmps208;go_wp2_with fail;go_ret;exact ⟨ee D,rfl⟩
theorem yr {p:Prop} (h:p:=by
 clear em ex QJ i2 i3 i4;go_enter func209,ntmps209;go_wp2_with fail;go_ret;exact ⟨ee HR.symm,HQ.out⟩):p:=h
theorem KB {p:Prop} (h:p:=by
 rw [<- hMe] at i1 i2 hc;clear hMe;rcases (by omega:x<0\/(0<=x/\x<=W-1)\/(0<=x/\W-1<x)) with hx | ⟨hx,RZ⟩ | ⟨hx,RZ⟩
 ·have ex:min (max x 0) (W-1)=0:=Qa
  rw [ex] at i2 hc;rw [Int.add_zero] at i2 hc;have t0:0<=M:=Qa;have t1:M<(N:Int):=Qa;have hS:wrap64 (M)=M:=by unfold wrap64;omega
  exact yr
 ·have ex:min (max x 0) (W-1)=x:=Qa
  rw [ex] at i2 hc;have t0:0<=M+x:=Qa;have t1:M+x<(N:Int):=Qa;have hS:wrap64 (M+x)=M+x:=by unfold wrap64;omega
  exact yr
 ·have ex:min (max x 0) (W-1)=(W-1):=Qa
  rw [ex] at i2 hc;have t0:0<=M+(W-1):=Qa;have t1:M+(W-1)<(N:Int):=Qa;have hS:wrap64 (M+(W-1))=M+(W-1):=by unfold wrap64;omega
  exact yr):p:=h
theorem DB {p:Prop} (h:p:=by
 exact yr):p:=h
theorem Ms {lo hi:Nat} {pv:Value} {w:World} {f:ah} (D:FrOk f) (h:aj .i64 lo hi w pv f.pix) (x y:Int) :
  Calls prog 209 #[.agg #[f.W,f.H,pv],x,y] w fun e w'=>e=.returned (.int .i64 (m5 f x y))/\ae [] w w':=by
 obtain ⟨a,cap,rfl,-⟩:=h.open;have E:=ae.new w (sT f a cap);have I:=h.quiet E;have HQ:=lh E;have J:8<=f.W/\f.W<=32:=⟨D.w0,D.w1⟩
 have F:8<=f.H/\f.H<=32:=⟨D.h0,D.h1⟩
 obtain ⟨i1,i2,i3,i4⟩:=rU J F x y;have QJ:=D.len;obtain ⟨b,off,VW,hv,-,-,hc⟩:=I.at (i:=(min (max y 0) (f.H-1)*f.W+min (max x 0) (f.W-1)).toNat) Qa;injection hv with e1 e2 e3
 subst e1;subst e3;have HR:Hid (m5 f x y=f.pix.getD (min (max y 0) (f.H-1)*f.W+min (max x 0) (f.W-1)).toNat 0):=lh rfl;generalize f.pix.getD (min (max y 0) (f.H-1)*f.W+min (max x 0) (f.W-1)).toNat 0=v at *
 generalize f.pix.length=N at *
 generalize f.W=W at *
 generalize f.H=H at *
 clear I D h E;have L:0<=H-1:=Qa;have Z:0<=W-1:=Qa;have hw0:wrap64 0=0:=by unfold wrap64;omega
 obtain ⟨Rs,VZ⟩:=J;obtain ⟨O,V⟩:=F;rcases (by omega:y<0\/(0<=y/\y<=H-1)\/(0<=y/\H-1<y)) with hy | ⟨hy,XW⟩ | ⟨hy,XW⟩
 ·have em:min (max y 0) (H-1)=0:=Qa
  rw [em] at i1 i2 hc;rw [Int.zero_mul] at i1 i2 hc;simp only [Int.zero_add] at i2 hc;rcases (by omega:x<0\/(0<=x/\x<=W-1)\/(0<=x/\W-1<x)) with hx | ⟨hx,RZ⟩ | ⟨hx,RZ⟩
  ·have ex:min (max x 0) (W-1)=0:=Qa
   rw [ex] at i2 hc;rw [Int.toNat_zero,Nat.add_zero] at hc;have t0:0<=0:=Qa;have t1:0<(N:Int):=Qa;exact DB
  ·have ex:min (max x 0) (W-1)=x:=Qa
   rw [ex] at i2 hc;have t0:0<=x:=Qa;have t1:x<(N:Int):=Qa;exact DB
  ·have ex:min (max x 0) (W-1)=(W-1):=Qa
   rw [ex] at i2 hc;rw [show (W-1).toNat=W.toNat-1 by omega] at hc;have t0:0<=(W-1):=Qa;have t1:(W-1)<(N:Int):=Qa;exact DB
 ·have em:min (max y 0) (H-1)=y:=Qa
  rw [em] at i1 i2 hc;obtain ⟨M,hMe⟩:∃ M,M=y*W:=⟨_,rfl⟩
  have Y:wrap64 (y*W)=M:=by rw [<- hMe] at i1 i2 |-;unfold wrap64;omega
  exact KB
 ·have em:min (max y 0) (H-1)=(H-1):=Qa
  rw [em] at i1 i2 hc;obtain ⟨M,hMe⟩:∃ M,M=(H-1)*W:=⟨_,rfl⟩
  have Y:wrap64 ((H-1)*W)=M:=by rw [<- hMe] at i1 i2 |-;unfold wrap64;omega
  exact KB
theorem KE {p:Prop} (h:p:=by
 rintro e w2 ⟨rfl,QN⟩;have QT:=lh (QO.q QN);clear QN;go_wp2_with fail;refine QF.out _ _ ⟨ee (by rw [HR.out];simp;try omega),QT.out⟩):p:=h
theorem Gy {lo hi:Nat} {pv:Value} {w:World} {f:ah} (Z:FrOk f) (h:aj .i64 lo hi w pv f.pix) (hx hy:Int) (WL:-1000<=hx/\hx<=1000) (Vo:-1000<=hy/\hy<=1000) :
  Calls prog 153 #[.agg #[f.W,f.H,pv],hx,hy] w fun e w'=>e=.returned (.int .i64 (jV f hx hy))/\ae [] w w':=by
 refine aK fun Q QF=>?_
 obtain ⟨a,cap,rfl,-⟩:=h.open;have hq:=ae.new w (sT f a cap);have I:Hid ((w.alloc (sT f a cap)).heap[w.heap.size]?=some (.cells (sT f a cap) 24)):=Sd w _;have L:=lh hq;have O:=lh (fun x y (wx:World) (o:ae [] w wx)=>Ms Z (h.quiet o) x y);have E:=lh (zv hx WL);have ZY:=lh (zv hy Vo);obtain ⟨X,hX⟩:∃ X,X=hx / 2:=⟨_,rfl⟩
 obtain ⟨Y,hY⟩:∃ Y,Y=hy / 2:=⟨_,rfl⟩
 have eX:hx / 2=X:=hX.symm;have eY:hy / 2=Y:=hY.symm;have HR:Hid (jV f hx hy=if hx % 2=0/\hy % 2=0 then m5 f X Y
  else if hy % 2=0 then (m5 f X Y+m5 f (X+1) Y+1) / 2
  else if hx % 2=0 then (m5 f X Y+m5 f X (Y+1)+1) / 2
  else (m5 f X Y+m5 f (X+1) Y+m5 f X (Y+1)+m5 f (X+1) (Y+1)+2) / 4):=lh (by rw [hX,hY];rfl)
 have i00:=jd Z.sam X Y;have i10:=jd Z.sam (X+1) Y;have i01:=jd Z.sam X (Y+1);have i11:=jd Z.sam (X+1) (Y+1);have J:=lh (O.out X Y);have c10:=lh (O.out (X+1) Y);have c01:=lh (O.out X (Y+1));have c11:=lh (O.out (X+1) (Y+1));have bX:-500<=X/\X<=500:=Qa;have bY:-500<=Y/\Y<=500:=Qa;generalize m5 f X Y=v00 at *
 generalize m5 f (X+1) Y=v10 at *
 generalize m5 f X (Y+1)=v01 at *
 generalize m5 f (X+1) (Y+1)=v11 at *
 obtain ⟨a00,b00⟩:=i00;obtain ⟨a10,b10⟩:=i10;obtain ⟨a01,b01⟩:=i01;obtain ⟨a11,b11⟩:=i11;obtain ⟨bX0,bX1⟩:=bX;obtain ⟨bY0,bY1⟩:=bY;have ax:=bK hx;have ay:=bK hy;have hx2:hx % 2=0\/hx % 2=1:=Qa;have hy2:hy % 2=0\/hy % 2=1:=Qa;rw [eX] at E;rw [eY] at ZY;clear h hq hX hY O WL Vo eX eY;rcases hx2 with ex | ex <;> rcases hy2 with ey | ey
 ·rw [ex,ey] at HR
  rw [ex] at ax;rw [ey] at ay;clear ex ey;go_enter func153,ntmps153;go_wp2_with fail;refine (E.out _).mono ?_;rintro e w1 ⟨rfl,rfl⟩;go_wp2_with fail;refine (ZY.out _).mono ?_;rintro e w1 ⟨rfl,rfl⟩;go_wp2_with fail;refine (J.out _ L).mono ?_;rintro e w1 ⟨rfl,D⟩;have QO:=lh (L.q D);have F:=lh (D.row I);obtain ⟨r0,r1,r2⟩:=ag F;clear D;go_wp2_with fail;refine QF.out _ _ ⟨ee (by rw [HR.out];simp),QO.out⟩
 ·rw [ex,ey] at HR
  rw [ex] at ax;rw [ey] at ay;clear ex ey;go_enter func153,ntmps153;go_wp2_with fail;refine (E.out _).mono ?_;rintro e w1 ⟨rfl,rfl⟩;go_wp2_with fail;refine (ZY.out _).mono ?_;rintro e w1 ⟨rfl,rfl⟩;go_wp2_with fail;refine (J.out _ L).mono ?_;rintro e w1 ⟨rfl,D⟩;have QO:=lh (L.q D);have F:=lh (D.row I);obtain ⟨r0,r1,r2⟩:=ag F;clear D;go_wp2_with fail;refine (c01.out _ QO).mono ?_;exact KE
 ·rw [ex,ey] at HR
  rw [ex] at ax;rw [ey] at ay;clear ex ey;go_enter func153,ntmps153;go_wp2_with fail;refine (E.out _).mono ?_;rintro e w1 ⟨rfl,rfl⟩;go_wp2_with fail;refine (ZY.out _).mono ?_;rintro e w1 ⟨rfl,rfl⟩;go_wp2_with fail;refine (J.out _ L).mono ?_;rintro e w1 ⟨rfl,D⟩;have QO:=lh (L.q D);have F:=lh (D.row I);obtain ⟨r0,r1,r2⟩:=ag F;clear D;go_wp2_with fail;refine (c10.out _ QO).mono ?_;exact KE
 ·rw [ex,ey] at HR
  rw [ex] at ax;rw [ey] at ay;clear ex ey;go_enter func153,ntmps153;go_wp2_with fail;refine (E.out _).mono ?_;rintro e w1 ⟨rfl,rfl⟩;go_wp2_with fail;refine (ZY.out _).mono ?_;rintro e w1 ⟨rfl,rfl⟩;go_wp2_with fail;refine (J.out _ L).mono ?_;rintro e w1 ⟨rfl,D⟩;have QO:=lh (L.q D);have F:=lh (D.row I);obtain ⟨r0,r1,r2⟩:=ag F;clear D;have wX:IntKind.i64.wrap (X+1)=X+1:=Qe;have wY:IntKind.i64.wrap (Y+1)=Y+1:=Qe;have e1:IntKind.i64.wrap (v00+v10)=v00+v10:=Qe;have e2:IntKind.i64.wrap (v00+v10+v01)=v00+v10+v01:=Qe;have e3:IntKind.i64.wrap (v00+v10+v01+v11)=v00+v10+v01+v11:=Qe;have e4:IntKind.i64.wrap (v00+v10+v01+v11+2)=v00+v10+v01+v11+2:=Qe;go_wp2_with fail;have V:=lh (ae.refl [] w1);refine Tf (S:=(fun w'=>w'.cell? ⟨w.heap.size,0,none⟩=some (.int .i64 f.W)/\w'.cell? ⟨w.heap.size,1,none⟩=some (.int .i64 f.H)/\w'.cell? ⟨w.heap.size,2,none⟩=some (.slice a f.pix.length cap))) Qc ?_ (fun hHeld=>?_)
  ·exact ⟨r0,r1,r2⟩
  refine tk 0 31 ?_;refine tk 1 32 ?_;refine tk 2 33 ?_;refine tk 3 34 ?_;refine tk 4 35 ?_;refine tk 7 38 ?_;refine tk 8 39 ?_;refine tk 9 40 ?_;refine tk 10 41 ?_;refine tk 13 44 ?_;refine tk 14 45 ?_;refine tk 15 46 ?_;refine tk 16 47 ?_;refine tk 17 48 ?_;refine j6 5 36 fun K hK=>?_
  go_simp
  try simp only [wX,wY]
  refine (c10.out _ QO.drew).mono ?_;rintro e w2 ⟨rfl,QN⟩;have QT:=lh ((QO.drew).q QN);have UT:=(V.drew.q QN).row F;have M:=V.drew.q QN;clear QN;refine ko hK (ag UT) fun hHeld=>?_;clear hK K
  refine tk 6 37 ?_;refine j6 11 42 fun K hK=>?_
  go_simp
  try simp only [wX,wY]
  refine (c01.out _ QT).mono ?_;rintro e w3 ⟨rfl,QQ⟩;have QW:=lh ((QT.out).q QQ);have SM:=(M.q QQ).row F;have N:=M.q QQ;clear QQ;refine ko hK (ag SM) fun hHeld=>?_;clear hK K
  refine tk 12 43 ?_;refine j6 18 49 fun K hK=>?_
  go_simp
  try simp only [wX,wY]
  refine (c11.out _ QW).mono ?_;rintro e w4 ⟨rfl,QY⟩;have Rh:=lh ((QW.out).q QY);have hr4:=(N.q QY).row F;have JBs:=N.q QY;clear QY;refine ko hK (ag hr4) fun hHeld=>?_;clear hK K
  refine tk 19 50 ?_;refine tk 20 51 ?_;refine tk 21 52 ?_;refine tk 22 6 ?_;refine Wn Qc ?_ _;clear M N JBs UT SM hr4
  try simp only [e1,e2,e3,e4]
  go_wp2_with fail;refine QF.out _ _ ⟨ee (by rw [HR.out];simp;rw [TY Qa,Pk];omega),Rh.out⟩
end
theorem ck {P:Program} {w:World} {o:Oper} {a:Act} {K:Act->World->Prop} {Q:Exit->Act->World->Prop} (D:o.guard=none) (s x:Operand) (t:TypeId)
  (L:o.op=.call { callee:=.builtin .append,args:=#[s,x],argTypes:=#[t,t] })
  {k:IntKind} {e:TypeId} {z:Value} {bytes base lo hi:Nat} {v sv:Value} {l m:List Int} (E:iF P t e z 1 bytes)
  (F:f9 k e base w v l) (N:a.eval s=v) (M:aj k lo hi w sv m) (hx:a.eval x=sv)
  (I:(l.length+m.length)*bytes<=140737488355328) (J:base<=w.heap.size)
  (h:∀ v' w',f9 k e base w' v' (l ++ m)->p9 v w v' w'->K (a.put o.dst v') w'):Oper.wp P o a w K Q:=by
 have h1:=fZ (ops:=#[]) (Q:=Q) (E':=True) D s x t L E F N M hx I J h;rwa [if_pos (by simp [Region.wanted,D])] at h1
def lg (f:ah) (x y vx vy:Int) (k:Nat):List Int:=(List.range k).map fun i:Nat=>jV f (2*(x+((i % 8:Nat):Int))+vx) (2*(y+((i / 8:Nat):Int))+vy)
theorem sB (f:ah) (x y vx vy:Int) (k:Nat):(lg f x y vx vy k).length=k:=by simp [lg]
theorem yP (f:ah) (x y vx vy:Int) (k:Nat):lg f x y vx vy (k+1)=lg f x y vx vy k ++ [jV f (2*(x+((k % 8:Nat):Int))+vx) (2*(y+((k / 8:Nat):Int))+vy)]:=by simp [lg,Zh]
theorem Cc (f:ah) (x y vx vy:Int):lg f x y vx vy 64=aq f x y 8 vx vy:=rfl
section
theorem wo (vx vy:Int) (w:World) (h:-15<=vx/\vx<=15) (g:-15<=vy/\vy<=15) :
  Calls prog 152 #[.agg #[vx,vy]] w fun e w'=>e=.returned (.bool true)/\ae [] w w':=by
 have D:=lh (ae.new w (.cells #[vx,vy] 73));obtain ⟨h1,I⟩:=h;obtain ⟨E,F⟩:=g;go_enter func152,ntmps152;go_wp2_with fail;go_ret;exact ⟨aC rfl,D.out⟩
theorem iw {lo hi:Nat} {pv:Value} {w:World} {f:ah} (QM:FrOk f) (h:aj .i64 lo hi w pv f.pix) (x y vx vy:Int) (hx:0<=x/\x<=32) (hy:0<=y/\y<=32) (Z:-15<=vx/\vx<=15) (hvy:-15<=vy/\vy<=15) :
  Calls prog 94 #[.agg #[f.W,f.H,pv],x,y,.int .i64 8,.agg #[vx,vy]] w fun e w'=>∃ v',e=.returned v'/\f9 .i64 3 w.heap.size w' v' (aq f x y 8 vx vy)/\ae [] w w':=by
 refine aK fun Q QF=>?_
 obtain ⟨a,cap,rfl,-⟩:=h.open;have QN:ae [] w ((w.alloc (sT f a cap)).alloc (.cells #[vx,vy] 73)):=(ae.new w _).alloc _;have Rg:Hid (((w.alloc (sT f a cap)).alloc (.cells #[vx,vy] 73)).heap[w.heap.size]?=some (.cells (sT f a cap) 24)):=lh ((ae.new (w.alloc _) _).row (Sd w _));have SQ:Hid (((w.alloc (sT f a cap)).alloc (.cells #[vx,vy] 73)).heap[w.heap.size+1]?=some (.cells #[vx,vy] 73)):=ak Qb;have hz2:((w.alloc (sT f a cap)).alloc (.cells #[vx,vy] 73)).heap.size=w.heap.size+1+1:=Qb;have HI:=lh (h.quiet QN);have QT:=lh QN;have Xs:=lh hz2;have HM:=lh (fun (W:World) (o:ae [] ((w.alloc (sT f a cap)).alloc (.cells #[vx,vy] 73)) W)=>by have:=gZ f.W f.H (HI.quiet o);rw [show cT ⟨f.W,f.H,f.pix⟩=true from dp.2 QM] at this;exact this);have HV:=lh (fun (W:World)=>wo vx vy W Z hvy);have HH:=lh (fun (W:World) (o:ae [] ((w.alloc (sT f a cap)).alloc (.cells #[vx,vy] 73)) W) (px py:Int) (h1:-1000<=px/\px<=1000) (h2:-1000<=py/\py<=1000)=>Gy QM (HI.quiet o) px py h1 h2);have YJ:=lh (fun px py=>tu QM.sam px py);have HB:=lh (Cc f x y vx vy);obtain ⟨WL,RZ⟩:=hx;obtain ⟨Vo,XW⟩:=hy;obtain ⟨vx0,vx1⟩:=Z;obtain ⟨vy0,vy1⟩:=hvy;clear h QN QM hz2;obtain ⟨r0,r1,r2⟩:=ag Rg;go_enter func94,ntmps94;go_wp2_with fail;generalize VZ:World.alloc (World.alloc w _) _=W2 at *
 clear VZ r0 r1 r2;refine (HM.out W2 (AY)).mono ?_;rintro e w3 ⟨rfl,QQ⟩;obtain ⟨L,I,-⟩:=aL (QQ.row SQ);have QW:=lh QQ;clear QQ;go_wp2_with fail;refine (HV.out w3).mono ?_;rintro e w4 ⟨rfl,QY⟩;have Rh:=lh (QW.q QY);clear QY L I;go_wp2_with fail;go_loopw [12,11] (fun i r wr=>∃ (k:Nat),k<=64/\i=.int .i64 k/\Hid (f9 .i64 3 (w.heap.size+1+1) wr r (lg f x y vx vy k))/\Hid (bj (w.heap.size+1+1) r)/\Hid (ae [] W2 wr)) (fun i _ _=>64-(intOf i).toNat)
 case atStart=>exact ⟨0,Qa,rfl,lh (f9.nil _ _ _ _),lh (bj.nil _),Rh⟩
 case round =>
  obtain ⟨k,hk,rfl,V,SU,O⟩:=hrel;by_cases QH:k<64
  ·have Rt:(k:Int)<64:=Qa
   have RA:(0:Int)<=(k:Int):=Qa;have JvE:IntKind.i64.wrap (8*8)=64:=Ql;have Sy:=lh (yP f x y vx vy k);have J:=sB f x y vx vy k;have eM:(k:Int).tmod 8=((k % 8:Nat):Int):=by rw [PR RA];rfl
   have eD:(k:Int).tdiv 8=((k / 8:Nat):Int):=by rw [TY RA];rfl
   have bM:(0:Int)<=((k % 8:Nat):Int)/\((k % 8:Nat):Int)<=7:=Qa;have bD:(0:Int)<=((k / 8:Nat):Int)/\((k / 8:Nat):Int)<=7:=Qa;generalize ((k % 8:Nat):Int)=M at *
   generalize ((k / 8:Nat):Int)=D at *
   have a1:IntKind.i64.wrap (x+M)=x+M:=Qe;have a2:IntKind.i64.wrap (2*(x+M))=2*(x+M):=Qe;have a3:IntKind.i64.wrap (2*(x+M)+vx)=2*(x+M)+vx:=Qe;have b0:IntKind.i64.wrap D=D:=Qe;have b1:IntKind.i64.wrap (y+D)=y+D:=Qe;have b2:IntKind.i64.wrap (2*(y+D))=2*(y+D):=Qe;have b3:IntKind.i64.wrap (2*(y+D)+vy)=2*(y+D)+vy:=Qe;have Y:=fun W o=>HH.out W o (2*(x+M)+vx) (2*(y+D)+vy) Qa Qa
   have QS:=YJ.out (2*(x+M)+vx) (2*(y+D)+vy);have HC:=lh Y;clear Y;generalize jV f (2*(x+M)+vx) (2*(y+D)+vy)=hv at *
   have UF:∀ z∈[hv],i7 .i64 z:=by simp only [i5,n7,i7];omega
   have RI:=lh (fun (W:World)=>aU (k:=.i64) (w:=W) (t:=3) (l:=[hv]) rfl Qj UF 1 rfl rfl);have TU:=lh (show ((lg f x y vx vy k).length+[hv].length)*8<=140737488355328 by rw [J];simp;omega);have Ra:Hid ((lg f x y vx vy k ++ [hv]).length=k+1):=lh (by rw [Pn,J];rfl);obtain ⟨ra,VK,rfl,-⟩:=V.ints.open;rw [J] at V SU |-
   obtain ⟨r0,r1,r2⟩:=ag (O.row Rg);obtain ⟨L,I,-⟩:=aL (O.row SQ);clear J UF QS bM bD;go_wp2_with fail;refine Tf (S:=(fun w'=>w'.cell? ⟨w.heap.size,0,none⟩=some (.int .i64 f.W)/\w'.cell? ⟨w.heap.size,1,none⟩=some (.int .i64 f.H)/\w'.cell? ⟨w.heap.size,2,none⟩=some (.slice a f.pix.length cap)/\w'.cell? ⟨w.heap.size+1,0,none⟩=some (.int .i64 vx)/\w'.cell? ⟨w.heap.size+1,1,none⟩=some (.int .i64 vy))) Qc ?_ (fun hHeld=>?_)
   ·exact ⟨r0,r1,r2,L,I⟩
   refine tk 0 52 ?_;refine tk 1 53 ?_;refine tk 2 54 ?_;refine tk 3 55 ?_;refine tk 4 56 ?_;refine tk 5 57 ?_;refine tk 6 58 ?_;refine tk 7 59 ?_;refine tk 8 60 ?_;refine tk 9 61 ?_;refine tk 10 62 ?_;refine tk 11 63 ?_;refine tk 12 64 ?_;refine tk 13 65 ?_;refine tk 14 66 ?_;refine tk 15 67 ?_;refine tk 16 68 ?_;refine tk 17 69 ?_;refine tk 18 70 ?_;refine tk 19 71 ?_;refine j6 20 72 fun K hK=>?_
   go_simp;refine (HC.out _ O.drew).mono ?_;rintro e N ⟨rfl,RF⟩;have E:=(ae.refl [] wr).drew.q RF;have Rk:=lh E;have UX:=lh (V.quiet E);have Tn:=lh (show w.heap.size+1+1<=N.heap.size by have:=O.size;have:=E.size;have:=Xs.out;omega);have HFs:Hid (bj W2.heap.size (Value.slice ra k VK)):=lh (bC Xs SU);clear RF;refine ko hK ⟨(E).cell r0 Qb,(E).cell r1 Qb,(E).cell r2 Qb,(E).cell L Qb,(E).cell I Qb⟩ fun hHeld=>?_;clear hK K
   refine j6 21 73 fun K hK=>?_
   go_simp;refine ko hK ⟨(E.q (ae.new N _)).cell r0 Qb,(E.q (ae.new N _)).cell r1 Qb,(E.q (ae.new N _)).cell r2 Qb,(E.q (ae.new N _)).cell L Qb,(E.q (ae.new N _)).cell I Qb⟩ fun hHeld=>?_;clear hK K
   refine j6 22 74 fun K hK=>?_
   refine ck rfl (.tmp 52) (.tmp 73) _ rfl EI (UX.quiet (BS)) rfl (RI.out _) rfl TU (Pw Tn (BS).size) (fun I w6 QG Rc=>?_);obtain ⟨x1,SV,RZ,_⟩:=QG.ints.open;subst RZ;rw [Ra.out] at QG Rc |-
   have SD:=lh QG;have Sa:=lh Rc;have F:=(O.q (Rk.q (ae.new N _))).acc Rc HFs;clear QG Rc;refine hK.out _ _ ?_ (fun hHeld=>?_)
   ·obtain ⟨r0,r1,r2⟩:=ag (F.row Rg);obtain ⟨L,I,-⟩:=aL (F.row SQ);exact ⟨r0,r1,r2,L,I⟩
   clear hK K
   try simp only [Act.put,Pf,Pi,Pj]
   refine tk 23 11 ?_;refine Wn Qc ?_ _;have HD6:=lh F;clear F;go_wp2_with fail;refine ⟨⟨k+1,Qa,Qh,lh ?_,lh (Sa.from_ SU (Pw Tn (BS).size)),HD6⟩,Qf⟩;rw [Sy.out];exact SD
  ·obtain rfl:k=64:=Qa
   have Rt:¬ ((64:Nat):Int)<64:=Qa;have JvE:IntKind.i64.wrap (8*8)=64:=Ql;have J:=sB f x y vx vy 64;obtain ⟨ra,VK,rfl,-⟩:=V.ints.open;rw [J] at V SU |-
   clear J;go_wp2_with fail;refine QF.out _ _ ⟨_,rfl,?_,QT.q O.out⟩;rw [<- HB.out];exact V.lower Qa
end
set_option linter.unusedVariables false
theorem wu {f prev:ah} (h:FrOk f) {s:j4} (g:s.kind<2->ar prev.pix) {x y:Int} (hx:0<=x) (F:x+8<=f.W) (N:0<=y) (E:y+8<=f.H) (D:sw s) (qp:Int):FrOk (bk f prev x y qp s):=by
 unfold bk
 split
 ·rename_i h0
  exact nK h hx F N E (aF _ _ _ _ _ _) (cR (g Qa) _ _ _ _ _)
 rename_i h0
 split
 ·rename_i h1
  refine nK h hx F N E ?_ (kZ _ _ _);rw [gV (by rw [aF,(D.large (.inl h1)).1]),aF]
 rename_i h1
 split
 ·rename_i h2
  exact jl (n:=8) h hx F N E (D.large (.inr h2)).1 Qa _ _
 ·rename_i h2
  have Y:s.kind=3:=by have:=D.kind;omega
  obtain ⟨a,b,c,d⟩:=D.small Y;have step:∀ (g:ah) (i:Nat),i<4->FrOk g->g.W=f.W->g.H=f.H->FrOk (cA x y qp s g i)/\(cA x y qp s g i).W=f.W/\(cA x y qp s g i).H=f.H:=by
   intro g i hi Z M L;refine ⟨(show FrOk (ek g (x+((i % 2:Nat):Int)*4) (y+((i / 2:Nat):Int)*4) 4 (s.modes.getD i 0) qp (s.small.getD i [])) from jl Z Qa Qa Qa Qa ?_ Qa _ _),M,L⟩;exact (d (s.small.getD i []) (by rw [Pd,Pe Qa];exact PG _)).1
  obtain ⟨h0,w0,O⟩:=step f 0 Qa h rfl rfl;obtain ⟨I,w1,V⟩:=step _ 1 Qa h0 w0 O;obtain ⟨J,w2,e2⟩:=step _ 2 Qa I w1 V;exact (step _ 3 Qa J w2 e2).1
set_option linter.unusedVariables false
theorem BL (n:Nat) (q:Int):cM (List.replicate n 0) q=List.replicate n 0:=by simp [cM]
theorem Bl {pix:List Int} {o:Nat} {row:List Int} {i:Nat} (D:o+row.length<=pix.length) (hi:i<o\/o+row.length<=i):(mq pix o row).getD i 0=pix.getD i 0:=by
 unfold mq;simp only [Pd];rcases hi with hi | hi
 ·rw [PM,Pu Qs,PB,if_pos hi]
 ·rw [Pt Qm,PA]
  congr 2
  simp;omega
set_option linter.unusedVariables false
theorem JW {W x y n j i:Nat} {b pix:List Int} (hx:x+n<=W) (M:j<n) (N:(y+n)*W<=pix.length) (hi:¬ (x<=i % W/\i % W<x+n/\y<=i / W/\i / W<y+n)) :
  (gz W x y n b pix j).getD i 0=pix.getD i 0/\(gz W x y n b pix j).length=pix.length:=by
 unfold gz;have L:((b.drop (j*n)).take n).length<=n:=Qm;have F:(((y:Int)+(j:Int))*(W:Int)+(x:Int)).toNat=(y+j)*W+x:=by
  rw [<- PQ,<- A9,<- PQ];exact Int.toNat_natCast _
 rw [F];have e:(y+j+1)*W=(y+j)*W+W:=Nat.succ_mul _ _;have J:(y+j)*W+x+n<=pix.length:=by
  have:(y+j+1)*W<=(y+n)*W:=B8 _ Qa;omega
 generalize (b.drop (j*n)).take n=row at *
 refine ⟨Bl Qa ?_,by unfold mq;simp;omega⟩;by_cases h1:i<(y+j)*W+x
 ·exact .inl h1
 ·right
  by_cases I:i<(y+j)*W+x+n
  ·exfalso
   apply hi
   have D:i / W=y+j:=Nat.div_eq_of_lt_le Qa (by rw [e];omega);have E:=Nat.div_add_mod i W;rw [D,Nat.mul_comm] at E;rw [D];omega
  ·omega
theorem Ak {W x y n i:Nat} {b:List Int} (hx:x+n<=W) (hi:¬ (x<=i % W/\i % W<x+n/\y<=i / W/\i / W<y+n)):∀ (k:Nat) {pix:List Int},k<=n->(y+n)*W<=pix.length ->
  ((List.range k).foldl (gz W x y n b) pix).getD i 0=pix.getD i 0/\((List.range k).foldl (gz W x y n b) pix).length=pix.length
 | 0,pix,_,_=>⟨rfl,rfl⟩
 | k+1,pix,hk,hp=>by
  obtain ⟨a,c⟩:=Ak hx hi k (pix:=pix) Qa hp;rw [Zh,A4];obtain ⟨d,e⟩:=JW (b:=b) (pix:=(List.range k).foldl (gz W x y n b) pix) (j:=k) hx Qa (dn c hp) hi;exact ⟨d.trans a,e.trans c⟩
theorem mL {f:ah} {W x y n i:Nat} {b:List Int} (D:f.W=(W:Int)) (hx:x+n<=W) (E:(y+n)*W<=f.pix.length) (hi:¬ (x<=i % W/\i % W<x+n/\y<=i / W/\i / W<y+n)) :
  (dP f x y n b).pix.getD i 0=f.pix.getD i 0/\(dP f x y n b).pix.length=f.pix.length/\(dP f x y n b).W=f.W/\(dP f x y n b).H=f.H:=by
 obtain ⟨a,c⟩:=Ak (b:=b) hx hi n (Pm _) E;refine ⟨?_,?_,rfl,rfl⟩
 ·show ((List.range n).foldl (gz f.W x y n b) f.pix).getD i 0=_
  rw [D];exact a
 ·show ((List.range n).foldl (gz f.W x y n b) f.pix).length=_
  rw [D];exact c
theorem nW {f:ah} {W x y i k:Nat} {q:Int} {s:j4} (J:k<4) (F:f.W=(W:Int)) (hx:x+8<=W) (L:(y+8)*W<=f.pix.length) (hi:¬ (x<=i % W/\i % W<x+8/\y<=i / W/\i / W<y+8)) :
  (cA x y q s f k).pix.getD i 0=f.pix.getD i 0/\(cA x y q s f k).pix.length=f.pix.length/\(cA x y q s f k).W=f.W/\(cA x y q s f k).H=f.H:=by
 have D:((x:Int)+((k % 2:Nat):Int)*4)=((x+k % 2*4:Nat):Int):=Qa;have E:((y:Int)+((k / 2:Nat):Int)*4)=((y+k / 2*4:Nat):Int):=Qa;unfold cA ek;rw [D,E];have I:(y+k / 2*4+4)*W<=(y+8)*W:=B8 _ Qa;exact mL F Qa Qa Qa
theorem GJ {f p:ah} {W x y i:Nat} {q:Int} {s:j4} (D:f.W=(W:Int)) (hx:x+8<=W) (E:(y+8)*W<=f.pix.length) (hi:¬ (x<=i % W/\i % W<x+8/\y<=i / W/\i / W<y+8)) :
  (bk f p x y q s).pix.getD i 0=f.pix.getD i 0:=by
 unfold bk
 split
 ·exact (mL D hx E hi).1
 ·split
  ·exact (mL D hx E hi).1
  ·split
   ·unfold ek
    exact (mL D hx E hi).1
   ·simp only [Zh,List.range_zero,A4,List.foldl_cons,List.foldl_nil,PL]
    obtain ⟨a0,F,c0,M⟩:=nW (q:=q) (s:=s) (k:=0) Qa D hx E hi;obtain ⟨a1,I,c1,N⟩:=nW (f:=cA x y q s f 0) (q:=q) (s:=s) (k:=1) Qa (c0.trans D) hx (dn F E) hi;obtain ⟨a2,J,c2,O⟩:=nW (f:=cA x y q s (cA x y q s f 0) 1) (q:=q) (s:=s) (k:=2) Qa (c1.trans (c0.trans D)) hx (by rw [I,F];exact E) hi;obtain ⟨a3,L,c3,V⟩:=nW (f:=cA x y q s (cA x y q s (cA x y q s f 0) 1) 2) (q:=q) (s:=s) (k:=3) Qa (c2.trans (c1.trans (c0.trans D))) hx (by rw [J,I,F];exact E) hi;exact a3.trans (a2.trans (a1.trans a0))
set_option linter.unusedVariables false
theorem MR {pix:List Int} {o:Nat} {row:List Int} {i:Nat} (F:o+row.length<=pix.length) (h1:o<=i) (E:i<o+row.length):(mq pix o row).getD i 0=row.getD (i-o) 0:=by
 unfold mq;simp only [Pd];have D:(pix.take o).length=o:=Qs;rw [PM,Pt Qa,D,Pu Qa]
theorem My {W x y n j i:Nat} {b pix:List Int} (I:0<W) (hx:x+n<=W) (L:j<n) (N:(y+n)*W<=pix.length) (M:((b.drop (j*n)).take n).length=n) (hi:x<=i % W/\i % W<x+n) :
  (gz W x y n b pix j).length=pix.length/\(i / W=y+j->(gz W x y n b pix j).getD i 0=((b.drop (j*n)).take n).getD (i % W-x) 0)/\(i / W≠y+j->(gz W x y n b pix j).getD i 0=pix.getD i 0):=by
 unfold gz;have E:(((y:Int)+(j:Int))*(W:Int)+(x:Int)).toNat=(y+j)*W+x:=by
  rw [<- PQ,<- A9,<- PQ];exact Int.toNat_natCast _
 rw [E];have e:(y+j+1)*W=(y+j)*W+W:=Nat.succ_mul _ _;have J:(y+j)*W+x+n<=pix.length:=by
  have:(y+j+1)*W<=(y+n)*W:=B8 _ Qa;omega
 generalize (b.drop (j*n)).take n=row at *
 refine ⟨by unfold mq;simp;omega,fun h=>?_,fun h=>?_⟩
 ·have D:=Nat.div_add_mod i W
  rw [h,Nat.mul_comm] at D;rw [MR Qa Qa Qa]
  congr 1
  omega
 ·apply Bl Qa
  by_cases h1:i<(y+j)*W+x
  ·exact .inl h1
  ·right
   by_cases F:i<(y+j)*W+x+n
   ·exact absurd (Nat.div_eq_of_lt_le Qa (by rw [e];omega)) h
   ·omega
theorem EC {W x y n i:Nat} {b:List Int} (D:0<W) (hx:x+n<=W) (E:∀ j,j<n->((b.drop (j*n)).take n).length=n) (hi:x<=i % W/\i % W<x+n) (F:y<=i / W):∀ (k:Nat) {pix:List Int},k<=n->(y+n)*W<=pix.length ->
  ((List.range k).foldl (gz W x y n b) pix).length=pix.length/\(i / W<y+k->((List.range k).foldl (gz W x y n b) pix).getD i 0=((b.drop ((i / W-y)*n)).take n).getD (i % W-x) 0)
 | 0,pix,_,_=>⟨rfl,fun h=>Qa⟩
 | k+1,pix,hk,hp=>by
  obtain ⟨a,c⟩:=EC D hx E hi F k (pix:=pix) Qa hp;rw [Zh,A4];obtain ⟨d,e,g⟩:=My (b:=b) (pix:=(List.range k).foldl (gz W x y n b) pix) (j:=k) D hx Qa (dn a hp) (E k Qa) hi;refine ⟨d.trans a,fun h=>?_⟩;by_cases hr:i / W=y+k
  ·refine (e hr).trans ?_
   rw [hr,Nat.add_sub_cancel_left]
  ·exact (g hr).trans (c Qa)
set_option linter.unusedVariables false
theorem oo {α β:Type} (g:α->List β) (k:Nat):∀ (l:List α) (j:Nat) (D:j<l.length),(∀ x∈l,(g x).length=k)->((l.flatMap g).drop (j*k)).take k=g l[j]
 | a :: l,0,_,h=>by
  rw [Nat.zero_mul,List.drop_zero,List.flatMap_cons];exact List.take_left' (h a VY)
 | a :: l,j+1,D,h=>by
  have e:(j+1)*k=(g a).length+j*k:=by rw [h a VY,Nat.succ_mul,Nat.add_comm]
  rw [e,List.flatMap_cons,List.drop_append,C1 Qa,PL,Nat.add_sub_cancel_left];exact oo g k l j (by simpa using D) (fun x hx=>h x (Pv _ hx))
end Go.Proofs.YthcafdfdglfabaaGreatDoor
