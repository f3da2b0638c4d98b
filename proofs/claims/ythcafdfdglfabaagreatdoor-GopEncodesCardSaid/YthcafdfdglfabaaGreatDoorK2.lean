/- Joined texts: DCont, DMay, DWhtC, DClone, DBits, DForm, DTurn, DInv, DRac, DModel, DHalf, DHalfB, DModR, DNums, DOrder. Conditions: each part names its own. -/
import Derived.Test.YthcafdfdglfabaaGreatDoorK1
import Derived.Test.YthcafdfdglfabaaGreatDoorC4
import Derived.StillTailTactics
import Derived.Deep.WholeRow
set_option maxRecDepth 100000
set_option maxHeartbeats 16000000
namespace Go.Proofs.YthcafdfdglfabaaGreatDoor
open Tryz
open Go.RowKit
set_option linter.unusedVariables false
set_option linter.unusedSimpArgs false
theorem kB {f:Int->Bool} {l:List Int} {k:Nat} (h:k<l.length):(l.drop k).any f=(f (l.getD k 0) || (l.drop (k+1)).any f):=by
 rw [Py h,List.any_cons]
 congr 2
 simp [h]
def tR (x:Int):Bool:=!jq x
theorem yF (x:Int) (w:World):Calls prog 183 #[x] w fun e w'=>e=.returned (.bool (tR x))/\w=w':=by
 go_enter func183,ntmps183
 go_wp2_with (first | (go_at_call 64;refine (ux _ _).mono ?_;rintro e w1 ⟨rfl,rfl⟩) | fail)
 go_ret;exact ⟨rfl,rfl⟩
theorem yi {p:Prop} (h:p:=by
 obtain rfl:k=l.length:=Qa;have hx:¬ (l.length:Int)<(l.length:Int):=Qa;have Hz:Hid (l.any g=false):=lh (by rw [<- Hk.out,List.drop_length];rfl);go_wp2_with fail;go_ret;refine ⟨⟨-1,rfl,?_,Qa,Qa⟩,hq⟩
 first | rw [Hz.out] | rw [<- List.any_eq_true,Hz.out]
 simp):p:=h
theorem yj {p:Prop} (h:p:=by
 refine (HF.out _ _).mono ?_;rintro e w2 ⟨rfl,rfl⟩;rw [Hx.out];have RU:Hid ((l.drop (k+1)).any g=l.any g):=lh (by rw [<- Hk.out,RV.out,Hx.out];rfl);go_wp2_with fail;exact ⟨⟨k+1,Qa,Qh,RU,hq⟩,Qf⟩):p:=h
theorem ym {p:Prop} (h:p:=by
 refine (HF.out _ _).mono ?_;rintro e w2 ⟨rfl,rfl⟩;rw [Hx.out];go_wp2_with fail;go_ret;refine ⟨⟨k,rfl,?_,Qa,by have:=Hl.out;omega⟩,hq⟩;rw [<- Hk.out,RV.out,Hx.out];simp):p:=h
theorem CZ {lo hi:Nat} {v:Value} {l:List Int} {w:World} (h:aj .i64 lo hi w v l) (I:l.length<=1000000000) :
  Calls prog 182 #[v,.func (.func 183) #[] #[]] w fun e w'=>(∃ i:Int,e=.returned (.int .i64 i)/\(0<=i↔l.any tR=true)/\-1<=i/\i<=1000000000)/\ae [] w w':=by
 obtain ⟨a,cap,rfl,M,J,F,E⟩:=h.open;have N:=lh F;have L:=lh E;have HF:=lh (fun (x:Int) (wx:World)=>yF x wx);have Hl:=lh I;have Y:(l.length:Int)<=9223372036854775807:=Qa;clear h F E J M I;generalize O:tR=g at *
 clear O;go_enter func182,ntmps182;go_wp2_with fail;go_loopw [8] (fun i wr=>∃ k:Nat,k<=l.length/\i=.int .i64 k/\Hid ((l.drop k).any g=l.any g)/\ae [] w wr) (fun i _=>l.length-(intOf i).toNat)
 case atStart=>exact ⟨0,Qa,rfl,lh rfl,AY⟩
 case round =>
  obtain ⟨k,Z,rfl,Hk,hq⟩:=hrel;by_cases D:k<l.length
  ·obtain ⟨b,off,rfl,_,_⟩:=N.out k D
   have c0:=hq.cell (L.out b off rfl k D) Qb;have hx:(0:Int)<=(k:Int):=Qa;have V:(k:Int)<(l.length:Int):=Qa;have RV:=lh (kB (f:=g) D);generalize l.getD k 0=x at *
   cases Wh:g x with
   | true =>
    have Hx:=lh Wh;clear Wh;go_wp2_with fail;go_at_call 183;exact ym
   | false =>
    have Hx:=lh Wh;clear Wh;go_wp2_with fail;go_at_call 183;exact yj
  ·exact yi
theorem yl {p:Prop} (h:p:=by
 go_enter func122,ntmps122
 go_wp2_with (first | (go_at_call 182;refine H.mono ?_;rintro e w1 ⟨⟨i,rfl,hi1,Uq,hi3⟩,QI⟩) | fail)
 go_ret;exact ⟨aC (by rw [m9,<- hi1];try simp),QI⟩):p:=h
theorem uR {lo hi:Nat} {v:Value} {l:List Int} {w:World} (h:aj .i64 lo hi w v l) (D:l.length<=1000000000) :
  Calls prog 122 #[v,.func (.func 183) #[] #[]] w fun e w'=>e=.returned (.bool (l.any tR))/\ae [] w w':=by
 have H:=lh (CZ h D);clear h D;generalize l.any tR=B at *
 exact yl
def Dn (l:List Int):Bool:=l.all fun x=>decide (-16320<=x/\x<=16320)
def jI (x:Int):Bool:=decide (x < -16320) || decide (16320<x)
theorem yV (x:Int) (w:World):Calls prog 224 #[x] w fun e w'=>e=.returned (.bool (jI x))/\w=w':=by
 by_cases h:x < -16320
 ·have D:jI x=true:=by simp [jI,h]
  rw [D];go_enter func224,ntmps224;go_wp2;go_ret;exact ⟨rfl,rfl⟩
 ·have D:jI x=decide (16320<x):=by simp [jI,h]
  rw [D];go_enter func224,ntmps224;go_wp2;go_ret;exact ⟨rfl,rfl⟩
theorem CW {lo hi:Nat} {v:Value} {l:List Int} {w:World} (h:aj .i64 lo hi w v l) (I:l.length<=1000000000) :
  Calls prog 182 #[v,.func (.func 224) #[] #[]] w fun e w'=>(∃ i:Int,e=.returned (.int .i64 i)/\(0<=i↔l.any jI=true)/\-1<=i/\i<=1000000000)/\ae [] w w':=by
 obtain ⟨a,cap,rfl,M,J,F,E⟩:=h.open;have N:=lh F;have L:=lh E;have HF:=lh (fun (x:Int) (wx:World)=>yV x wx);have Hl:=lh I;have Y:(l.length:Int)<=9223372036854775807:=Qa;clear h F E J M I;generalize O:jI=g at *
 clear O;go_enter func182,ntmps182;go_wp2_with fail;go_loopw [8] (fun i wr=>∃ k:Nat,k<=l.length/\i=.int .i64 k/\Hid ((l.drop k).any g=l.any g)/\ae [] w wr) (fun i _=>l.length-(intOf i).toNat)
 case atStart=>exact ⟨0,Qa,rfl,lh rfl,AY⟩
 case round =>
  obtain ⟨k,Z,rfl,Hk,hq⟩:=hrel;by_cases D:k<l.length
  ·obtain ⟨b,off,rfl,_,_⟩:=N.out k D
   have c0:=hq.cell (L.out b off rfl k D) Qb;have hx:(0:Int)<=(k:Int):=Qa;have V:(k:Int)<(l.length:Int):=Qa;have RV:=lh (kB (f:=g) D);generalize l.getD k 0=x at *
   cases Wh:g x with
   | true =>
    have Hx:=lh Wh;clear Wh;go_wp2_with fail;go_at_call 224;exact ym
   | false =>
    have Hx:=lh Wh;clear Wh;go_wp2_with fail;go_at_call 224;exact yj
  ·exact yi
theorem uO {lo hi:Nat} {v:Value} {l:List Int} {w:World} (h:aj .i64 lo hi w v l) (D:l.length<=1000000000) :
  Calls prog 122 #[v,.func (.func 224) #[] #[]] w fun e w'=>e=.returned (.bool (l.any jI))/\ae [] w w':=by
 have H:=lh (CW h D);clear h D;generalize l.any jI=B at *
 exact yl
def m8 (x:Int):Bool:=x != 0
theorem ID (x:Int) (w:World):Calls prog 126 #[x] w fun e w'=>e=.returned (.bool (m8 x))/\w=w':=by
 go_enter func126,ntmps126;go_wp2;go_ret;exact ⟨rfl,rfl⟩
theorem Db {lo hi:Nat} {v:Value} {l:List Int} {w:World} (h:aj .i64 lo hi w v l) (I:l.length<=1000000000) :
  Calls prog 182 #[v,.func (.func 126) #[] #[]] w fun e w'=>(∃ i:Int,e=.returned (.int .i64 i)/\(0<=i↔l.any m8=true)/\-1<=i/\i<=1000000000)/\ae [] w w':=by
 obtain ⟨a,cap,rfl,M,J,F,E⟩:=h.open;have N:=lh F;have L:=lh E;have HF:=lh (fun (x:Int) (wx:World)=>ID x wx);have Hl:=lh I;have Y:(l.length:Int)<=9223372036854775807:=Qa;clear h F E J M I;generalize O:m8=g at *
 clear O;go_enter func182,ntmps182;go_wp2_with fail;go_loopw [8] (fun i wr=>∃ k:Nat,k<=l.length/\i=.int .i64 k/\Hid ((l.drop k).any g=l.any g)/\ae [] w wr) (fun i _=>l.length-(intOf i).toNat)
 case atStart=>exact ⟨0,Qa,rfl,lh rfl,AY⟩
 case round =>
  obtain ⟨k,Z,rfl,Hk,hq⟩:=hrel;by_cases D:k<l.length
  ·obtain ⟨b,off,rfl,_,_⟩:=N.out k D
   have c0:=hq.cell (L.out b off rfl k D) Qb;have hx:(0:Int)<=(k:Int):=Qa;have V:(k:Int)<(l.length:Int):=Qa;have RV:=lh (kB (f:=g) D);generalize l.getD k 0=x at *
   cases Wh:g x with
   | true =>
    have Hx:=lh Wh;clear Wh;go_wp2_with fail;go_at_call 126;exact ym
   | false =>
    have Hx:=lh Wh;clear Wh;go_wp2_with fail;go_at_call 126;exact yj
  ·exact yi
theorem uT {lo hi:Nat} {v:Value} {l:List Int} {w:World} (h:aj .i64 lo hi w v l) (D:l.length<=1000000000) :
  Calls prog 122 #[v,.func (.func 126) #[] #[]] w fun e w'=>e=.returned (.bool (l.any m8))/\ae [] w w':=by
 have H:=lh (Db h D);clear h D;generalize l.any m8=B at *
 exact yl
theorem BM {l:List Int}:(!(l.any tR))=aO l 0 255:=by
 unfold aO tR jq;rw [m9];simp
theorem iX {lo hi:Nat} {v:Value} {l:List Int} {w:World} (h:aj .i64 lo hi w v l) (D:l.length<=1000000000) :
  Calls prog 124 #[v] w fun e w'=>e=.returned (.bool (aO l 0 255))/\ae [] w w':=by
 have H:=lh (uR h D);obtain ⟨a,cap,rfl,_⟩:=h.open;clear h D;go_enter func124,ntmps124;go_wp2_with fail;refine H.mono ?_;rintro e w1 ⟨rfl,E⟩;go_wp2_with fail;go_ret;exact ⟨aC BM,E⟩
theorem Ka {l:List Int}:l.any jI=!Dn l:=by
 unfold Dn jI;rw [m9];simp
 constructor
 ·rintro ⟨x,hx,h⟩;exact ⟨x,hx,Qa⟩
 ·rintro ⟨x,hx,h⟩;exact ⟨x,hx,Qa⟩
theorem uK {lo hi:Nat} {v:Value} {l:List Int} {w:World} (h:aj .i64 lo hi w v l) (D:l.length<=1000000000) :
  Calls prog 69 #[v] w fun e w'=>e=.returned (.bool (!l.any m8))/\ae [] w w':=by
 have H:=lh (uT h D);obtain ⟨a,cap,rfl,_⟩:=h.open;clear h D;go_enter func69,ntmps69;go_wp2_with fail;refine H.mono ?_;rintro e w1 ⟨rfl,E⟩;go_wp2_with fail;go_ret;exact ⟨rfl,E⟩
def li (l:List Int):Option Int:=if l.length≠16/\l.length≠64 then some 14 else if Dn l then none else some 3
def Ng (v:Value):Option Int->Prop
 | none=>v=.nilIface
 | some k=>v=.iface 36 (.int .i64 k)
theorem EL {p:Prop} (h:p:=by
 rw [HL.out,hb] at H;rw [hb] at Hc;clear hb;go_enter func197,ntmps197;go_wp2_with fail;refine H.mono ?_;rintro e w1 ⟨rfl,QI⟩;go_wp2_with fail;go_ret;exact ⟨⟨_,rfl,by rw [Hc.out];rfl⟩,QI⟩):p:=h
theorem kq {lo hi:Nat} {v:Value} {l:List Int} {w:World} (h:aj .i64 lo hi w v l) (F:l.length<=1000000000) :
  Calls prog 197 #[v] w fun e w'=>(∃ u,e=.returned u/\Ng u (li l))/\ae [] w w':=by
 have H:=lh (uO h F);obtain ⟨a,cap,rfl,_⟩:=h.open;clear h;by_cases E:l.length=16\/l.length=64
 ·have D:li l=if Dn l then none else some 3:=if_neg Qa
  have Hc:=lh D;have HL:=lh (Ka (l:=l));clear D;have hi:(l.length:Int)=16\/(l.length:Int)=64:=Qa;clear E;rcases hi with hi | hi
  all_goals
   cases hb:Dn l with
   | true =>
    exact EL
   | false =>
    exact EL
 ·have D:li l=some 14:=if_pos Qa
  have Hc:=lh D;have h1:((l.length:Int) != 16)=true:=Qm;have I:((l.length:Int) != 64)=true:=Qm;clear D E H;go_enter func197,ntmps197;go_wp2_with fail;go_ret;exact ⟨⟨_,rfl,by rw [Hc.out];rfl⟩,AY⟩
theorem ag {w:World} {a b c:Value} {t:TypeId} {g:Nat} (h:w.heap[g]?=some (.cells #[a,b,c] t)) :
  w.cell? ⟨g,0,none⟩=some a/\w.cell? ⟨g,1,none⟩=some b/\w.cell? ⟨g,2,none⟩=some c:=by
 refine ⟨?_,?_,?_⟩ <;> (rw [RG h];rfl)
section
theorem jN {lo hi:Nat} {pv:Value} {l:List Int} {w:World} (W H:Int) (h:aj .i64 lo hi w pv l) :
  Calls prog 62 #[.agg #[W,H,pv]] w fun e w'=>e=.returned (.bool (cT ⟨W,H,l⟩))/\ae [] w w':=by
 obtain ⟨a,cap,rfl,V,RN,_⟩:=h.open;have Th:(l.length:Int)<=9223372036854775807:=by unfold maxLen at RN;omega
 have Z:ae [] w (w.alloc (.cells #[W,H,.slice a l.length cap] 24)):=ae.new w _;have L:=lh Z;have Hh:=lh h;clear h RN V Z;cases hW:fu W with
 | false =>
  have I:Hid (cT ⟨W,H,l⟩=false):=lh (by simp [cT,hW]);have M:=lh hW;clear hW;go_enter func62,ntmps62
  go_wp2_with (first | (go_at_call 63;refine (mW _ _).mono ?_;rintro e w' ⟨rfl,rfl⟩;rw [M.out]) | fail)
  go_ret;exact ⟨aC (by rw [I.out]),L.out⟩
 | true =>
  cases hH:fu H with
  | false =>
   have I:Hid (cT ⟨W,H,l⟩=false):=lh (by simp [cT,hH]);have M:=lh hW;have N:=lh hH;clear hW hH;go_enter func62,ntmps62
   go_wp2_with (first | (go_at_call 63;refine (mW _ _).mono ?_;rintro e w' ⟨rfl,rfl⟩;(first | rw [M.out] | rw [N.out])) | fail)
   go_ret;exact ⟨aC (by rw [I.out]),L.out⟩
  | true =>
   have bW:=A2 hW;have bH:=A2 hH;have I:Hid (cT ⟨W,H,l⟩=(decide ((l.length:Int)=W*H) && aO l 0 255)):=lh (by simp [cT,hW,hH]);have M:=lh hW;have N:=lh hH;clear hW hH;obtain ⟨E,rfl⟩:=A0 (by omega:0<=W);obtain ⟨D,rfl⟩:=A0 (by omega:0<=H);have hn:E*D<=1024:=Pw (A8 (by omega:E<=32) (by omega:D<=32)) Ql;have ZM:(E:Int)*(D:Int)=((E*D:Nat):Int):=by rw [A9]
   have F:=lh ZM;by_cases O:l.length=E*D
   ·have Y:=lh (fun (wx:World) (o:ae [] w wx)=>iX (Hh.quiet o) Qa)
    have J:Hid (cT ⟨(E:Int),(D:Int),l⟩=aO l 0 255):=lh (by rw [I.out,F.out,O];simp);rw [O] at L Y |-
    generalize E*D=n at *
    clear O Th bW bH I F;generalize aO l 0 255=b at *
    go_enter func62,ntmps62
    go_wp2_with (first | (go_at_call 63;refine (mW _ _).mono ?_;rintro e w' ⟨rfl,rfl⟩;(first | rw [M.out] | rw [N.out])) | (go_at_call 124;refine (Y.out _ L).mono ?_;rintro e w2 ⟨rfl,QN⟩;have QT:=lh QN;clear QN) | fail)
    go_ret;exact ⟨aC (by rw [J.out]),L.q QT.out⟩
   ·have J:Hid (cT ⟨(E:Int),(D:Int),l⟩=false):=lh (by rw [I.out,F.out];simp;omega)
    have RX:((l.length:Int) == ((E*D:Nat):Int))=false:=Qk;generalize E*D=n at *
    clear O bW bH I F;go_enter func62,ntmps62
    go_wp2_with (first | (go_at_call 63;refine (mW _ _).mono ?_;rintro e w' ⟨rfl,rfl⟩;(first | rw [M.out] | rw [N.out])) | fail)
    go_ret;exact ⟨aC (by rw [J.out]),L.out⟩
def io (W H x y n:Int):Bool:=decide (0<=x/\0<=y/\x<=W-n/\y<=H-n)
theorem yq {p:Prop} (h:p:=by
 go_enter func132,ntmps132;go_wp2_with fail;go_ret;exact ⟨aC (by rw [HR.out,m9];simp;try omega),HQ.out⟩):p:=h
theorem EH (W H x y n:Int) (pv:Value) (w:World) (F:8<=W/\W<=32) (E:8<=H/\H<=32) (I:4<=n/\n<=8) :
  Calls prog 132 #[.agg #[W,H,pv],x,y,n] w fun e w'=>e=.returned (.bool (io W H x y n))/\ae [] w w':=by
 have D:ae [] w (w.alloc (.cells #[W,H,pv] 24)):=ae.new w _;have HQ:=lh D;clear D;obtain ⟨w1,Y⟩:=F;obtain ⟨h1,M⟩:=E;obtain ⟨O,V⟩:=I;have HR:Hid (io W H x y n=decide (0<=x/\0<=y/\x<=W-n/\y<=H-n)):=lh rfl;generalize io W H x y n=b at *
 by_cases hx:0<=x
 ·by_cases N:0<=y
  ·by_cases L:x<=W-n
   ·by_cases J:y<=H-n
    all_goals
     exact yq
   ·exact yq
  ·exact yq
 ·exact yq
end
def tX (most x:Int):Bool:=decide (x < -most) || decide (most<x)
theorem IB {G:Nat} (most x:Int) {w:World} (F:w.cell? ⟨G,0,none⟩=some (.int .i64 most)) (D:0<=most/\most<=1000000000):Calls prog 221 #[x,.pointer G] w fun e w'=>e=.returned (.bool (tX most x))/\w=w':=by
 have E:wrap64 (-most)=-most:=by unfold wrap64;omega
 by_cases h:x < -most
 ·have D:tX most x=true:=by simp [tX,h]
  rw [D];go_enter func221,ntmps221;go_wp2;go_ret;exact ⟨rfl,rfl⟩
 ·have D:tX most x=decide (most<x):=by simp [tX,h]
  rw [D];go_enter func221,ntmps221;go_wp2;go_ret;exact ⟨rfl,rfl⟩
theorem Da {lo hi:Nat} {v:Value} {l:List Int} {w:World} (most:Int) {G:Nat} (h:aj .i64 lo hi w v l) (V:l.length<=1000000000) (Y:w.cell? ⟨G,0,none⟩=some (.int .i64 most)) (hb:0<=most/\most<=1000000000) :
  Calls prog 182 #[v,.func (.func 221) #[] #[.pointer G]] w fun e w'=>(∃ i:Int,e=.returned (.int .i64 i)/\(0<=i↔l.any (tX most)=true)/\-1<=i/\i<=1000000000)/\ae [] w w':=by
 obtain ⟨a,cap,rfl,Sv,RN,N,M⟩:=h.open;have TT:=lh N;have Rm:=lh M;have J:=lh (fun (x:Int) (wx:World) (o:ae [] w wx)=>IB most x (o.cell Y Qb) hb);have Z:=lh V;have Th:(l.length:Int)<=9223372036854775807:=Qa;clear h N M RN Sv V;generalize hg:(tX most)=g at *
 clear hg Y;go_enter func182,ntmps182;go_wp2_with fail;go_loopw [8] (fun i wr=>∃ k:Nat,k<=l.length/\i=.int .i64 k/\Hid ((l.drop k).any g=l.any g)/\ae [] w wr) (fun i _=>l.length-(intOf i).toNat)
 case atStart=>exact ⟨0,Qa,rfl,lh rfl,AY⟩
 case round =>
  obtain ⟨k,hk,rfl,F,D⟩:=hrel;by_cases I:k<l.length
  ·obtain ⟨b,off,rfl,_,_⟩:=TT.out k I
   have c0:=D.cell (Rm.out b off rfl k I) Qb;have hx:(0:Int)<=(k:Int):=Qa;have RZ:(k:Int)<(l.length:Int):=Qa;have O:=lh (kB (f:=g) I);generalize l.getD k 0=x at *
   cases Wh:g x with
   | true =>
    have E:=lh Wh;clear Wh;go_wp2_with fail;refine (J.out _ _ D).mono ?_;rintro e w2 ⟨rfl,rfl⟩;rw [E.out];go_wp2_with fail;go_ret;refine ⟨⟨k,rfl,?_,Qa,by have:=Z.out;omega⟩,D⟩;rw [<- F.out,O.out,E.out];simp
   | false =>
    have E:=lh Wh;clear Wh;go_wp2_with fail;refine (J.out _ _ D).mono ?_;rintro e w2 ⟨rfl,rfl⟩;rw [E.out];have RU:Hid ((l.drop (k+1)).any g=l.any g):=lh (by rw [<- F.out,O.out,E.out];rfl);go_wp2_with fail;exact ⟨⟨k+1,Qa,Qh,RU,D⟩,Qf⟩
  ·obtain rfl:k=l.length:=Qa
   have hx:¬ (l.length:Int)<(l.length:Int):=Qa;have L:Hid (l.any g=false):=lh (by rw [<- F.out,List.drop_length];rfl);go_wp2_with fail;go_ret;refine ⟨⟨-1,rfl,?_,Qa,Qa⟩,D⟩
   first | rw [L.out] | rw [<- List.any_eq_true,L.out]
   simp
theorem uS {lo hi:Nat} {v:Value} {l:List Int} {w:World} (most:Int) {G:Nat} (h:aj .i64 lo hi w v l) (D:l.length<=1000000000) (J:w.cell? ⟨G,0,none⟩=some (.int .i64 most)) (F:0<=most/\most<=1000000000) :
  Calls prog 122 #[v,.func (.func 221) #[] #[.pointer G]] w fun e w'=>e=.returned (.bool (l.any (tX most)))/\ae [] w w':=by
 have H:=lh (Da most h D J F);clear h D;generalize l.any (tX most)=B at *
 go_enter func122,ntmps122
 go_wp2_with (first | (go_at_call 182;refine H.mono ?_;rintro e w1 ⟨⟨i,rfl,hi1,L,I⟩,E⟩) | fail)
 go_ret;exact ⟨aC (by rw [m9,<- hi1];try simp),E⟩
theorem qC {lo hi:Nat} {v:Value} {l:List Int} {w:World} {most:Int} (h:aj .i64 lo hi w v l) (N:l.length=16\/l.length=64) (M:0<=most/\most<=1000000000) (F:∀ x∈l,-most<=x/\x<=most) :
  Calls prog 185 #[v,most] w fun e w'=>e=.returned .nilIface/\ae [] w w':=by
 have E:=ae.new w (.cells #[most] 3);have D:l.any (tX most)=false:=by
  rw [List.any_eq_false];intro x hx;have:=F x hx;simp only [tX,Bool.or_eq_true,r9];omega
 have H:=lh (uS most (G:=w.heap.size) (h.quiet E) Qa (SF _ _ 0 _ _ (0,0) (LD)) M);rw [D] at H;have O:∀ (I:Fn) (first cap:Array Value) (W:World),(Instr.makeFunc I first cap).run prog W=.ok (.func I first cap) W:=fun _ _ _ _=>rfl
 obtain ⟨a,cap,rfl,_⟩:=h.open;have J:=lh E;clear h D F E;have hi:(l.length:Int)=16\/(l.length:Int)=64:=Qa;clear N;rcases hi with hi | hi
 all_goals
  go_enter func185,ntmps185;go_wp2_with fail;refine H.mono ?_;rintro e w1 ⟨rfl,L⟩;go_wp2_with fail;go_ret;exact ⟨rfl,J.q L⟩
theorem qH {lo hi:Nat} {v:Value} {l:List Int} {w:World} (h:aj .i64 lo hi w v l) (h0:0<l.length) (J:l.length<=1000000) :
  Calls prog 51 #[v] w fun e w'=>∃ v',e=.returned v'/\f9 .i64 3 w.heap.size w' v' l/\ae [] w w':=by
 obtain ⟨b,off,cap,rfl,_,_,_⟩:=h.at h0;have F:(binOp BinOp.eql 22 (.slice (some ⟨b,off,none⟩) l.length cap) (.slice none 0 0)).run prog w=.ok (.bool false) w:=Qc;go_enter func51,ntmps51
 go_wp2_with (at_builtin;refine au rfl (.tmp 5) (.tmp 6) _ rfl EI (nO (l:=[]) rfl Qb Qb 0 rfl) rfl (h.quiet ((AY).alloc _)) rfl ?c1 ?c2 (fun I w1 D E=>?_))
 case c1=>simp;omega
 case c2=>simp
 go_ret;exact ⟨I,rfl,by simpa using D,((AY).alloc _).acc E (bj.lit (Pm _))⟩
theorem GN (n:Int) (D:n=16\/n=64) (w:World):Calls prog 232 #[.int .u64 n] w fun e w'=>e=.returned (.int .i64 (if n=16 then 5 else 7))/\w=w':=by
 rcases D with rfl | rfl
 ·go_enter func232,ntmps232
  go_wp2;exact TV (v:=.int .i64 5) Qc rfl ⟨rfl,rfl⟩
 ·go_enter func232,ntmps232
  go_wp2;exact TV (v:=.int .i64 7) Qc rfl ⟨rfl,rfl⟩
theorem ED (n:Int) (D:n=16\/n=64) (w:World):Calls prog 227 #[.int .u64 n] w fun e w'=>e=.returned (.int .i64 (if n=16 then 5 else 7))/\w=w':=by
 have H:=lh (GN n D);generalize (if n=16 then (5:Int) else 7)=r at *
 go_enter func227,ntmps227
 go_wp2_with (first | (go_at_call 232;refine (H.out _).mono ?_;rintro e w1 ⟨rfl,rfl⟩) | fail)
 go_ret;exact ⟨rfl,rfl⟩
theorem sf {p:Prop} (h:p:=by
 rw [BitVec.ofInt_natCast,BitVec.toNat_ofNat];exact Nat.mod_eq_of_lt Qa):p:=h
theorem sA (a b:Nat) (E:a<1000000) (F:b<1000000):bits .and .i64 (a:Int) (b:Int)=((a &&& b:Nat):Int):=by
 have hx:a &&& b<2 ^ 20:=Nat.and_lt_two_pow _ Qa;have h1:(BitVec.ofInt 64 (a:Int)).toNat=a:=by
  exact sf
 have D:(BitVec.ofInt 64 (b:Int)).toNat=b:=by
  exact sf
 show IntKind.i64.wrap ((BitVec.ofInt 64 (a:Int) &&& BitVec.ofInt 64 (b:Int)).toNat:Int)=_;rw [BitVec.toNat_and,h1,D,Pk];omega
theorem uM (a b:Nat) (E:a<1000000) (F:b<1000000):bits .or .i64 (a:Int) (b:Int)=((a ||| b:Nat):Int):=by
 have hx:a ||| b<2 ^ 20:=Nat.or_lt_two_pow Qa Qa;have h1:(BitVec.ofInt 64 (a:Int)).toNat=a:=by
  exact sf
 have D:(BitVec.ofInt 64 (b:Int)).toNat=b:=by
  exact sf
 show IntKind.i64.wrap ((BitVec.ofInt 64 (a:Int) ||| BitVec.ofInt 64 (b:Int)).toNat:Int)=_;rw [BitVec.toNat_or,h1,D,Pk];omega
theorem f9.form {k:IntKind} {e:TypeId} {base:Nat} {w:World} {v:Value} {l:List Int} (h:f9 k e base w v l) (D:0<l.length):∃ g cap,v=.slice (some ⟨g,0,none⟩) l.length cap/\base<=g/\g<w.heap.size:=by
 rcases h.1.2 with ⟨_,h0⟩ | ⟨g,cap,cur,rfl,hb,hg,_⟩
 ·omega
 ·exact ⟨g,cap,rfl,hb,(l8.1 hg).1⟩
set_option linter.unusedVariables false
set_option linter.unusedSimpArgs false
theorem BJ {lo hi:Nat} {v:Value} {l:List Int} {w:World} (h:aj .i64 lo hi w v l) (hl:l.length=16\/l.length=64) (hb:dg 6266880 l) :
  Calls prog 186 #[v] w fun e w'=>∃ v',e=.returned v'/\f9 .i64 3 w.heap.size w' v' (bN l)/\dg 401080320 (bN l)/\ae [] w w':=by
 refine aK fun Q QF=>?_
 have HC:=lh (qH h Qa Qa);obtain ⟨b,off,cap,rfl,_,_,_⟩:=h.at (i:=0) Qa;go_enter func186,ntmps186;go_wp2_with fail;refine HC.mono ?_;rintro e w2 ⟨v2,rfl,QL,hq⟩;obtain ⟨g,Sk,rfl,ST,Rj⟩:=QL.form Qa;have SG:=lh QL;have QT:=lh hq;have Hb:=lh hb;have Hn:=lh hl;have Hg:=lh (VL ST Rj);have HD:Hid (bN l=gK 7 1 l):=lh rfl;have Th:l.length<=64:=Qa;have Hnn:Hid (l.length=l.length):=lh rfl;clear QL hq hb hl h HC ST Rj;generalize hn:l.length=n at *
 have TE:=lh hn;clear hn;generalize bN l=T at *
 go_wp2_with fail;go_loopw [4,5,16] (fun hv _ _ wr=>∃ (D:Nat) (k:Nat) (B:Int) (V:List Int),hv=.int .i64 D/\Hid (PW n k D B)/\Hid (V.length=n)/\Hid (dg B V)/\Hid (gK k D V=T)/\Hid (f9 .i64 3 w.heap.size wr (.slice g n Sk) V)/\Hid (ae [g] w2 wr)) (fun hv _ _ _=>n-(intOf hv).toNat)
 case atStart=>exact ⟨1,7,6266880,l,rfl,lh (PW.start Hn),TE,Hb,lh HD.symm,SG,lh (AY)⟩
 case round =>
  obtain ⟨D,k,B,V,rfl,HP,L,HB,He,Vq,HQc⟩:=hrel;by_cases QH:D<n
  ·have Tl:(D:Int)<(n:Int):=Qa
   obtain ⟨hp1,hp2,hp3,hp4,hB0,hB1,hh1,JJz⟩:=HP.next QH;have HP':=lh hp1;have Us:=lh hp2;have HPc:=lh hp3;have HPm:=lh hp4;have hwm:wrap64 ((D:Int)*2)=(D:Int)*2:=by unfold wrap64;omega
   have Hwm:=lh hwm;clear hp1 hp2 hp3 hp4 hwm;go_wp2_with fail;go_loopw [5,16] (fun _ i wi=>∃ (j:Nat) (F:List Int),j<=n/\i=.int .i64 j/\Hid (F.length=n)/\Hid (pp B D j F)/\Hid (((List.range n).drop j).foldl (iq D) F=wK D V)/\Hid (f9 .i64 3 w.heap.size wi (.slice g n Sk) F)/\Hid (ae [g] w2 wi)) (fun _ i _=>n-(intOf i).toNat)
   case atStart=>exact ⟨0,V,Qa,rfl,L,lh (Ap HB),lh (by rw [List.drop_zero,wK,L.out]),Vq,HQc⟩
   case round =>
    obtain ⟨j,F,hj,rfl,E,HM,Hf,I,N⟩:=hrel;by_cases J:j<n
    ·have JJC:(j:Int)<(n:Int):=Qa
     have hj0:(0:Int)<=(j:Int):=Qa;have O:=sA j D Qa Qa;have hor:=uM j D Qa Qa;have ho:=OI HPc J;have Z:=lh (HM.step hB0 HPm (bC E Th) (bC E J) (bC E ho));by_cases Y:j &&& D=0
     ·rw [Y] at O
      have JEh:bits BinOp.and .i64 (j:Int) (D:Int)=0:=O;obtain ⟨RX,ha,hbb⟩:=HM.pair HPm (bC E Th) (bC E J) (bC E ho) Y;have M:=lh (GZ (h:=D) (i:=j) (l:=F) Y);have Sy:=lh (wL (h:=D) J F);clear O Y;generalize j ||| D=o at *
      have hoi:(o:Int)<(n:Int):=Qa;have ho0:(0:Int)<=(o:Int):=Qa;have ca:=I.cellS E.symm (i:=j) (bC E J);have cb:=I.cellS E.symm (i:=o) (bC E ho);have fa:=I.frzS E.symm j;have fb:=I.frzS E.symm o;have Uf:(F.set j (F.getD j 0+F.getD o 0)).getD o 0=F.getD o 0:=by rw [sZ (bC E J),if_neg RX]
      generalize hva:F.getD j 0=va at *
      generalize hvb:F.getD o 0=vb at *
      obtain ⟨ha1,YR⟩:=ha;obtain ⟨XP,hb2⟩:=hbb;have Jkv:i7 .i64 (va+vb):=by simp only [i7];omega
      have ZK:i7 .i64 (va-vb):=by simp only [i7];omega
      obtain ⟨Ru,Rz⟩:=I.storeS E.symm Jkv j;obtain ⟨XT,hs4⟩:=Ru.storeS (by rw [PF];exact E.symm) ZK o;have cb2:=Ru.cellS (by rw [PF];exact E.symm) (i:=o) (by rw [PF,E.out];exact ho);rw [Uf] at cb2;have fb2:=Ru.frzS (by rw [PF];exact E.symm) o;have Hva:=lh hva;have Hvb:=lh hvb;have Ui:=lh XT;have QW:=lh (Rz.trans hs4 (U:=[g]) (fun _ h _=>h) (fun _ h _=>h));clear hva hvb Uf Jkv ZK Ru Rz XT hs4;go_wp2_with fail
      go_region
      go_wp2_with fail;refine ⟨⟨j+1,iq D F j,Qa,Qh,lh (dn qO E),Z,lh (by rw [<- Hf.out,Sy.out]),lh ?_,lh (N.trans QW.drew (fun _ h _=>h) (fun _ h _=>h))⟩,Qf⟩;rw [M.out];exact Ui.quiet (AY).drew
     ·have hz':(((j &&& D:Nat):Int) == 0)=false:=Qk
      have M:=lh (Kq (h:=D) (i:=j) (l:=F) Y);have Sy:=lh (wL (h:=D) J F);clear Y;generalize j &&& D=z at *
      clear hor;go_wp2_with fail;exact ⟨⟨j+1,F,Qa,Qh,E,by rw [<- M.out];exact Z,lh (by rw [<- Hf.out,Sy.out,M.out]),I,N⟩,Qf⟩
    ·obtain rfl:j=n:=Qa
     have hx:¬ (j:Int)<(j:Int):=Qa;go_wp2_with fail;refine ⟨⟨2*D,k-1,2*B,F,Qh,HP',E,lh (HM.all hB0),lh ?_,I,N⟩,Qf⟩;have e1:=He.out;rw [Us.out,BI (bC L QH),<- Hf.out,Ks] at e1;exact e1
  ·have Tl:¬ (D:Int)<(n:Int):=Qa
   go_wp2_with fail;have e1:=He.out;rw [Eb (bC L QH)] at e1;subst e1;exact QF.out _ _ ⟨_,rfl,Vq.out,HB.mono HP.bound.2.1,QT.trans HQc.out Qb (fun x hx QH=>by rw [i5] at hx;have:=Hg.1;omega)⟩
theorem dg.all {B:Int} {l:List Int} (h:dg B l):∀ x∈l,-B<=x/\x<=B:=by
 intro x hx;obtain ⟨i,hi,rfl⟩:=List.mem_iff_getElem.1 hx;have:=h i hi;rw [Pd,Pe hi] at this;exact this
theorem fS {D R:List Int} {k:Nat} (h:D.take k=R.take k) (E:k<D.length) (F:D.length=R.length) {x:Int} (hx:x=R.getD k 0):(D.set k x).take (k+1)=R.take (k+1):=by
 subst hx;rw [UJ (dn PF E),List.getElem_set_self,List.take_set,h,UJ Qa,List.set_eq_of_length_le Qm,Pd,Pe Qa]
 rfl
theorem pB {D R:List Int} (h:D.take D.length=R.take D.length) (E:D.length=R.length):D=R:=by
 rw [List.take_length,E,List.take_length] at h;exact h
theorem gY (l:List Int):(bS l).length=l.length:=by simp [bS,fz]
theorem rj (l:List Int) {k:Nat} (h:k<l.length):(bS l).getD k 0=((bN l).getD k 0+(l.length:Int) / 2) / l.length:=by
 have D:k<(bN l).length:=dn fz h
 unfold bS;rw [Pd,Pz,Pe D,Pd,Pe D]
 rfl
theorem xU {l:List Int} (E:l.length=16\/l.length=64) (h:dg 401080320 (bN l)):dg 401080320 (bS l):=by
 intro k D;rw [gY] at D;rw [rj l D];have:=h k (dn fz D);generalize (bN l).getD k 0=x at *
 rcases E with e | e <;> rw [e] <;> omega
theorem Kv {p:Prop} (h:p:=by
 go_wp2_with fail;have RU:=pB (R:=I) (bC Sh Htk) (Sh.trans Hil.symm);subst RU;refine QF.out _ _ ⟨_,rfl,?_,HI.out,QT.trans QP.out Qb (fun x hx QH=>by rw [i5] at hx;have:=Hg.1;omega)⟩;exact QX.lower JyL):p:=h
theorem zR {lo hi:Nat} {v:Value} {l:List Int} {w:World} (h:aj .i64 lo hi w v l) (hl:l.length=16\/l.length=64) (L:dg 6266880 l) :
  Calls prog 202 #[v] w fun e w'=>∃ v',e=.returned (.tuple #[v',.nilIface])/\f9 .i64 3 w.heap.size w' v' (bS l)/\dg 401080320 (bS l)/\ae [] w w':=by
 refine aK fun Q QF=>?_
 have HC:=lh (qC h hl (most:=16777216) Qa (fun x hx=>by have:=L.all x hx;omega));have HT:=lh (fun (wx:World) (o:ae [] w wx)=>BJ (h.quiet o) hl L);obtain ⟨b,off,cap,rfl,_,_,_⟩:=h.at (i:=0) Qa;have Hl:=lh hl;have HA:=lh (fun (t:dg 401080320 (bN l))=>xU hl t);have TT:=lh (fun (k:Nat) (hk:k<l.length)=>rj l hk);have E:=lh (fz l);have Hil:=lh (gY l);have Th:l.length<=64:=Qa;have Xk:16<=l.length:=Qa;clear h L hl;go_enter func202,ntmps202;go_wp2_with fail;refine HC.mono ?_;rintro e w1 ⟨rfl,QI⟩;have Z:=lh QI;clear QI;go_wp2_with fail;refine (HT.out w1 Z).mono ?_;rintro e w2 ⟨v2,rfl,QL,YS,hq⟩;obtain ⟨g,Sk,rfl,ST,Rj⟩:=QL.form (j0 E.out);have HI:=lh (HA.out YS);have Y:=lh YS;rw [E.out] at QL |-
 have HO:=lh QL;have QT:=lh (Z.q hq);have JyL:=lh Z.size;have Hg:=lh (VL (Pw Z.size ST) Rj);clear QL hq ST Rj YS HC HT HA Z;generalize bN l=T at *
 generalize bS l=I at *
 generalize V:l.length=n at *
 have Hn:=lh V;clear V;rcases Hl with V | V
 ·subst V
  go_wp2_with fail;refine (ED 16 Qa _).mono ?_;rintro e w3 ⟨rfl,rfl⟩;rw [if_pos rfl];go_wp2_with fail;go_loopw [23,7] (fun i _ wr=>∃ (k:Nat) (D:List Int),k<=16/\i=.int .i64 k/\Hid (D.length=16)/\Hid (D.take k=I.take k)/\Hid (D.drop k=T.drop k)/\Hid (f9 .i64 3 w1.heap.size wr (.slice g 16 Sk) D)/\Hid (ae [g] w2 wr)) (fun i _ _=>16-(intOf i).toNat)
  case atStart=>exact ⟨0,T,Qa,rfl,E,lh rfl,lh rfl,HO,lh (AY)⟩
  case round =>
   obtain ⟨k,D,hk,rfl,Sh,Htk,F,QX,QP⟩:=hrel;by_cases QH:k<16
   ·have Rt:(k:Int)<16:=Qa
    have RA:(0:Int)<=(k:Int):=Qa;have cx:=QX.cellS Sh.symm (i:=k) (bC Sh QH);have fx:=QX.frzS Sh.symm k;have J:D.getD k 0=T.getD k 0:=by
     have:=congrArg (fun l:List Int=>l.getD 0 0) F;simpa [Pd] using this
    have L:=Y.out k (bC E QH);have O:=TT.out k QH;rw [<- J] at L O;generalize D.getD k 0=x at *
    obtain ⟨XP,hb2⟩:=L;have QS:i7 .i64 ((x+8) / 16):=by simp only [i7];omega
    obtain ⟨Ru,Rz⟩:=QX.storeS Sh.symm QS k;have Su:=lh Ru;have Te:=lh Rz;have M:=lh O;have N:Hid ((D.set k ((x+8) / 16)).drop (k+1)=T.drop (k+1)):=lh (by
     rw [List.drop_set,if_pos Qa];have:=congrArg (fun l:List Int=>l.drop 1) F;simpa [List.drop_drop,Nat.add_comm] using this)
    clear J O QS Ru Rz;go_wp2_with fail;refine ⟨⟨k+1,D.set k ((x+8) / 16),Qa,Qh,lh (dn PF Sh),lh (fS Htk (bC Sh QH) (Sh.trans Hil.symm) ?_),N,Su,lh (QP.trans Te (fun _ h _=>h) (fun _ h _=>h))⟩,Qf⟩;rw [M.out];rfl
   ·obtain rfl:k=16:=Qa
    exact Kv
 ·subst V
  go_wp2_with fail;refine (ED 64 Qa _).mono ?_;rintro e w3 ⟨rfl,rfl⟩;rw [if_neg Ql];go_wp2_with fail;go_loopw [23,7] (fun i _ wr=>∃ (k:Nat) (D:List Int),k<=64/\i=.int .i64 k/\Hid (D.length=64)/\Hid (D.take k=I.take k)/\Hid (D.drop k=T.drop k)/\Hid (f9 .i64 3 w1.heap.size wr (.slice g 64 Sk) D)/\Hid (ae [g] w2 wr)) (fun i _ _=>64-(intOf i).toNat)
  case atStart=>exact ⟨0,T,Qa,rfl,E,lh rfl,lh rfl,HO,lh (AY)⟩
  case round =>
   obtain ⟨k,D,hk,rfl,Sh,Htk,F,QX,QP⟩:=hrel;by_cases QH:k<64
   ·have Rt:(k:Int)<64:=Qa
    have RA:(0:Int)<=(k:Int):=Qa;have cx:=QX.cellS Sh.symm (i:=k) (bC Sh QH);have fx:=QX.frzS Sh.symm k;have J:D.getD k 0=T.getD k 0:=by
     have:=congrArg (fun l:List Int=>l.getD 0 0) F;simpa [Pd] using this
    have L:=Y.out k (bC E QH);have O:=TT.out k QH;rw [<- J] at L O;generalize D.getD k 0=x at *
    obtain ⟨XP,hb2⟩:=L;have QS:i7 .i64 ((x+32) / 64):=by simp only [i7];omega
    obtain ⟨Ru,Rz⟩:=QX.storeS Sh.symm QS k;have Su:=lh Ru;have Te:=lh Rz;have M:=lh O;have N:Hid ((D.set k ((x+32) / 64)).drop (k+1)=T.drop (k+1)):=lh (by
     rw [List.drop_set,if_pos Qa];have:=congrArg (fun l:List Int=>l.drop 1) F;simpa [List.drop_drop,Nat.add_comm] using this)
    clear J O QS Ru Rz;go_wp2_with fail;refine ⟨⟨k+1,D.set k ((x+32) / 64),Qa,Qh,lh (dn PF Sh),lh (fS Htk (bC Sh QH) (Sh.trans Hil.symm) ?_),N,Su,lh (QP.trans Te (fun _ h _=>h) (fun _ h _=>h))⟩,Qf⟩;rw [M.out];rfl
   ·obtain rfl:k=64:=Qa
    exact Kv
theorem Ci (p:Int) (w:World) (h1:1<=p) (D:p<=2047):Calls prog 260 #[p] w fun e w'=>e=.returned (.bool true)/\w=w':=by
 go_enter func260,ntmps260;go_wp2;go_ret;exact ⟨rfl,rfl⟩
theorem ae.setRow {S:List Nat} {w w1:World} (h:ae S w w1) {g:Nat} (J:g<w.heap.size->g∈S) (I:Array Value):ae S w (w1.setRow g I) :=
 ⟨h.os,h.tape,h.output,by rw [size_setRow];exact h.size,fun k D E=>by
  have F:k≠g:=fun e=>E (by rw [e];exact J (ea e D))
  rw [setRow_other _ _ _ _ F];exact h.block k D E⟩
section
variable {P:Program}
theorem az {w:World} {ops:Array Oper} {rest:List Oper} {o:Oper} {a:Act} {Q:Exit->Act->World->Prop} (D:o.guard=none) (x:Operand) (t:TypeId) (F:o.op=.load t x)
  {g:Nat} {c:Array Value} {ty:TypeId} {fr:Nat×Nat} {d:TypeDesc} (hx:a.eval x=.pointer g) (hr:w.heap[g]?=some (.cells c ty fr)) (hu:P.underlying t=some d) (E:(match d with | .struct _ | .array _ _=>true | _=>false)=true)
  (hi:(P.info? t).map (·.size)=some c.size) (h:wpList P ops Q rest (a.put o.dst (.agg c)) w):wpList P ops Q (o :: rest) a w :=
 wpList_plain D fun _ hK=>by
  unfold Oper.wp execOp;simp only [F,hx,Instr.loadAt,Instr.sureAddr,Sem.run_bind,Sem.run_pure,Result.andThen_ok,run_loadVar_row w g ty t c fr d hr hu E hi];exact hK _ _ h
theorem am {w:World} {ops:Array Oper} {rest:List Oper} {o:Oper} {a:Act} {Q:Exit->Act->World->Prop} (D:o.guard=none) (x y:Operand) (t:TypeId) (E:o.op=.store t x y)
  {g:Nat} {c c':Array Value} {ty:TypeId} (hx:a.eval x=.pointer g) (I:a.eval y=.agg c') (hr:w.heap[g]?=some (.cells c ty)) (hi:(P.info? t).map (·.size)=some c'.size) (F:c.size=c'.size) (h1:c'.all (·.oneCell')=true)
  (h:wpList P ops Q rest (a.put o.dst undef) (w.setRow g c')):wpList P ops Q (o :: rest) a w :=
 wpList_plain D fun _ hK=>by
  unfold Oper.wp execOp;simp only [E,hx,I,Instr.storeAt,Instr.sureAddr,Sem.run_bind,Sem.run_pure,Result.andThen_ok,run_storeVar_row w g ty t c c' hr hi F h1];exact hK _ _ h
end
def ou (k:Nat) (a b:Value) (n:Nat):List Value:=List.replicate k a ++ List.replicate (n-k) b
theorem Ga {k n:Nat} (h:k<n) (a b:Value):(ou k a b n).toArray.setIfInBounds k a=(ou (k+1) a b n).toArray:=by
 unfold ou;rw [Pf]
 congr 1
 rw [List.set_append_right _ _ Qb,PE,Nat.sub_self,show n-k=(n-(k+1))+1 by omega,List.replicate_succ,Pi,List.replicate_succ',PM]
 rfl
theorem Jp {k n:Nat} (h:k<n) (a b:Value):(ou k a b n).toArray[k]?=some b:=by
 unfold ou;rw [C4,Pt Qb,PE,Nat.sub_self,show n-k=(n-(k+1))+1 by omega,List.replicate_succ]
 rfl
theorem FJ (w:World):Calls prog 65 #[] w fun e w'=>e=.returned (.agg (List.replicate 64 (.int .i64 1024)).toArray)/\ae [] w w':=by
 refine aK fun Q QF=>?_
 go_enter func65,ntmps65;go_wp2_with fail;generalize D:World.alloc (World.alloc w _) _=W0;have r0:W0.heap[w.heap.size]?=some (.cells (ou 0 (.int .i64 1024) (.int .i64 0) 64).toArray 130):=by
  rw [<- D];exact (A6 _ _ _ Qb).trans (LD)
 have r1:W0.heap[w.heap.size+1]?=some (.cells (ou 0 (.int .i64 1024) (.int .i64 0) 64).toArray 130):=by
  rw [<- D];exact ak Qb
 have Y:ae [] w W0:=by rw [<- D];exact (BS).q (BS)
 have M:=lh (VL r0 (VL r1 Y));clear D r0 r1 Y;go_loopw [2,3] (fun _ i wr=>∃ k:Nat,k<=64/\i=.int .i64 k/\wr.heap[w.heap.size+1]?=some (.cells (ou k (.int .i64 1024) (.int .i64 0) 64).toArray 130)/\ae [w.heap.size+1] W0 wr) (fun _ i _=>64-(intOf i).toNat)
 case atStart=>exact ⟨0,Qa,rfl,M.2.1,AY⟩
 case round =>
  obtain ⟨k,hk,rfl,hr,J⟩:=hrel;by_cases N:k<64
  ·have Tl:(k:Int)<64:=Qa
   have hx:(0:Int)<=(k:Int):=Qa;have c1:wr.cell? ⟨w.heap.size+1,k,none⟩=some (.int .i64 0):=by rw [RG hr];exact Jp N _ _
   have f1:=Sz wr (w.heap.size+1) k _ _ hr;have O:=WG wr (w.heap.size+1) k _ _ (.int .i64 1024) hr;rw [Ga N] at O;have o1:ae [w.heap.size+1] wr (wr.setCell ⟨w.heap.size+1,k,none⟩ (.int .i64 1024)):=(AY).setCell Qb _;have V:=lh (VL O (J.trans o1 (fun g h _=>h) (fun g h _=>h)));clear hr O o1 J;go_wp2_with fail;go_roundw
   case rel=>exact ⟨k+1,Qa,Qh,V.1,V.2⟩
   case measure=>simp [intOf];omega
  ·obtain rfl:k=64:=Qa
   have L:wr.heap[w.heap.size+1]?=some (.cells (List.replicate 64 (.int .i64 1024)).toArray 130):=by rw [hr];simp [ou]
   have r0:=J.rowAt M.1 Qb;have E:(List.replicate 64 (Value.int .i64 1024)).length=64:=Qb;have h1:∀ v∈List.replicate 64 (Value.int .i64 1024),v.oneCell'=true:=fun v hv=>by rw [(List.mem_replicate.1 hv).2];rfl
   generalize List.replicate 64 (Value.int .i64 1024)=C at *
   have I:(C.toArray).all (·.oneCell')=true:=by rw [Array.all_eq_true_iff_forall_mem];intro v hv;exact h1 v Qy
   have F:(prog.info? 130).map (·.size)=some C.toArray.size:=by rw [List.size_toArray,E];kernel_rfl
   have Z:(ou 0 (Value.int .i64 1024) (.int .i64 0) 64).toArray.size=C.toArray.size:=by rw [List.size_toArray,List.size_toArray,E];rfl
   have r2:=m7 wr w.heap.size _ C.toArray _ _ r0;have hO:ae [] w (wr.setRow w.heap.size C.toArray):=(M.2.2.trans J Qb (fun g hg N=>Qd)).setRow (fun h=>absurd h Qa) _;have H:=lh (VL L (VL r0 (VL I (VL F (VL Z (VL r2 hO))))));clear hr L r0 J r2 hO h1 I F Z E
   go_wp2_with (first
    | (refine az rfl (.tmp 1) 130 rfl rfl H.1 underlying130 rfl H.2.2.2.1 ?_)
    | (refine am rfl (.tmp 0) (.tmp 9) 130 rfl rfl rfl H.2.1 H.2.2.2.1 H.2.2.2.2.1 H.2.2.1 ?_)
    | fail)
   refine TV (v:=.agg C.toArray) (results_cell_row results65 _ _ w.heap.size _ _ _ _ rfl H.2.2.2.2.2.1 underlying130 rfl H.2.2.2.1) rfl (QF.out _ _ ⟨rfl,H.2.2.2.2.2.2⟩)
structure Ns (B lo hi:Nat) (w:World) (f:ah):Prop where
 ok:FrOk f
 row:∃ a cap,w.heap[B]?=some (.cells (sT f a cap) 24)/\aj .i64 lo hi w (.slice a f.pix.length cap) f.pix
theorem rU {W H:Int} (I:8<=W/\W<=32) (F:8<=H/\H<=32) (x y:Int):0<=min (max y 0) (H-1)*W/\min (max y 0) (H-1)*W+min (max x 0) (W-1)<W*H/\0<=min (max x 0) (W-1)/\W*H<=1024:=by
 have D:0<=min (max y 0) (H-1)/\min (max y 0) (H-1)<=H-1:=Qa;have hx:0<=min (max x 0) (W-1)/\min (max x 0) (W-1)<=W-1:=Qa;have h1:min (max y 0) (H-1)*W<=(H-1)*W:=B2 D.2 Qa;have E:0<=min (max y 0) (H-1)*W:=Int.mul_nonneg D.1 Qa;have J:W*H<=32*32:=A3 I.2 F.2 Qa Qa;rw [Int.sub_mul,Int.one_mul,Int.mul_comm H W] at h1;refine ⟨E,Qa,hx.1,Qa⟩
theorem sg {p:Prop} (h:p:=by
 clear em ex QJ i2 i3 i4;go_enter func223,ntmps223;go_wp2_with fail;go_ret;exact ⟨ee HR.symm,rfl⟩):p:=h
theorem EM {p:Prop} (h:p:=by
 rw [<- hMe] at i1 i2 hc;clear hMe;rcases (by omega:x<0\/(0<=x/\x<=W-1)\/(0<=x/\W-1<x)) with hx | ⟨hx,RZ⟩ | ⟨hx,RZ⟩
 ·have ex:min (max x 0) (W-1)=0:=Qa
  rw [ex] at i2 hc;rw [Int.add_zero] at i2 hc;have t0:0<=M:=Qa;have t1:M<(N:Int):=Qa;have hS:wrap64 (M)=M:=by unfold wrap64;omega
  exact sg
 ·have ex:min (max x 0) (W-1)=x:=Qa
  rw [ex] at i2 hc;have t0:0<=M+x:=Qa;have t1:M+x<(N:Int):=Qa;have hS:wrap64 (M+x)=M+x:=by unfold wrap64;omega
  exact sg
 ·have ex:min (max x 0) (W-1)=(W-1):=Qa
  rw [ex] at i2 hc;have t0:0<=M+(W-1):=Qa;have t1:M+(W-1)<(N:Int):=Qa;have hS:wrap64 (M+(W-1))=M+(W-1):=by unfold wrap64;omega
  exact sg):p:=h
theorem yo {p:Prop} (h:p:=by
 exact sg):p:=h
theorem Gr {B lo hi:Nat} {w:World} {f:ah} (h:Ns B lo hi w f) (x y:Int) :
  Calls prog 223 #[x,y,.pointer B] w fun e w'=>e=.returned (.int .i64 (m5 f x y))/\w=w':=by
 obtain ⟨D,a,cap,E,I⟩:=h;obtain ⟨c0,c1,c2⟩:=ag E;have J:8<=f.W/\f.W<=32:=⟨D.w0,D.w1⟩
 have F:8<=f.H/\f.H<=32:=⟨D.h0,D.h1⟩
 obtain ⟨i1,i2,i3,i4⟩:=rU J F x y;have QJ:=D.len;obtain ⟨b,off,VW,hv,-,-,hc⟩:=I.at (i:=(min (max y 0) (f.H-1)*f.W+min (max x 0) (f.W-1)).toNat) Qa;injection hv with e1 e2 e3
 subst e1;subst e3;have HR:Hid (m5 f x y=f.pix.getD (min (max y 0) (f.H-1)*f.W+min (max x 0) (f.W-1)).toNat 0):=lh rfl;generalize f.pix.getD (min (max y 0) (f.H-1)*f.W+min (max x 0) (f.W-1)).toNat 0=v at *
 generalize f.pix.length=N at *
 generalize f.W=W at *
 generalize f.H=H at *
 clear E I D;have L:0<=H-1:=Qa;have Z:0<=W-1:=Qa;have hw0:wrap64 0=0:=by unfold wrap64;omega
 obtain ⟨Rs,VZ⟩:=J;obtain ⟨O,V⟩:=F;rcases (by omega:y<0\/(0<=y/\y<=H-1)\/(0<=y/\H-1<y)) with hy | ⟨hy,XW⟩ | ⟨hy,XW⟩
 ·have em:min (max y 0) (H-1)=0:=Qa
  rw [em] at i1 i2 hc;rw [Int.zero_mul] at i1 i2 hc;simp only [Int.zero_add] at i2 hc;rcases (by omega:x<0\/(0<=x/\x<=W-1)\/(0<=x/\W-1<x)) with hx | ⟨hx,RZ⟩ | ⟨hx,RZ⟩
  ·have ex:min (max x 0) (W-1)=0:=Qa
   rw [ex] at i2 hc;rw [Int.toNat_zero,Nat.add_zero] at hc;have t0:0<=0:=Qa;have t1:0<(N:Int):=Qa;exact yo
  ·have ex:min (max x 0) (W-1)=x:=Qa
   rw [ex] at i2 hc;have t0:0<=x:=Qa;have t1:x<(N:Int):=Qa;exact yo
  ·have ex:min (max x 0) (W-1)=(W-1):=Qa
   rw [ex] at i2 hc;rw [show (W-1).toNat=W.toNat-1 by omega] at hc;have t0:0<=(W-1):=Qa;have t1:(W-1)<(N:Int):=Qa;exact yo
 ·have em:min (max y 0) (H-1)=y:=Qa
  rw [em] at i1 i2 hc;obtain ⟨M,hMe⟩:∃ M,M=y*W:=⟨_,rfl⟩
  have Y:wrap64 (y*W)=M:=by rw [<- hMe] at i1 i2 |-;unfold wrap64;omega
  exact EM
 ·have em:min (max y 0) (H-1)=(H-1):=Qa
  rw [em] at i1 i2 hc;obtain ⟨M,hMe⟩:∃ M,M=(H-1)*W:=⟨_,rfl⟩
  have Y:wrap64 ((H-1)*W)=M:=by rw [<- hMe] at i1 i2 |-;unfold wrap64;omega
  exact EM
theorem bK (a:Int):bits BinOp.and .i64 a 1=a % 2:=by
 show IntKind.i64.wrap ((BitVec.ofInt 64 a &&& BitVec.ofInt 64 1).toNat:Int)=_;have h1:(BitVec.ofInt 64 1).toNat=1:=Ql;rw [BitVec.toNat_and,h1,Nat.and_one_is_mod,BitVec.toNat_ofInt,Pk];omega
theorem pX {p:Prop} (h:p:=by
 refine QF.out _ _ ⟨ee (by rw [HR.out];first | rfl | simp),HQ.out⟩):p:=h
theorem JD {lo hi:Nat} {pv:Value} {w:World} {f:ah} (I:FrOk f) (h:aj .i64 lo hi w pv f.pix) (hx D:Int) (WL:-1000<=hx/\hx<=1000) (Vo:-1000<=D/\D<=1000) :
  Calls prog 190 #[.agg #[f.W,f.H,pv],hx,D] w fun e w'=>e=.returned (.int .i64 (jV f hx D))/\ae [] w w':=by
 refine aK fun Q QF=>?_
 obtain ⟨a,cap,rfl,-⟩:=h.open;have hq:=ae.new w (sT f a cap);have HB:Hid (Ns w.heap.size lo hi (w.alloc (sT f a cap)) f):=lh ⟨I,a,cap,LD,h.quiet hq⟩;have F:=lh (fun x y=>Gr HB x y);have HQ:=lh hq;have hmf:∀ (fn:Fn) (first cap:Array Value) (W:World),(Instr.makeFunc fn first cap).run prog W=.ok (.func fn first cap) W:=fun _ _ _ _=>rfl
 obtain ⟨X,V⟩:∃ X,X=hx / 2:=⟨_,rfl⟩
 obtain ⟨Y,Z⟩:∃ Y,Y=D / 2:=⟨_,rfl⟩
 have eX:hx / 2=X:=V.symm;have eY:D / 2=Y:=Z.symm;have HR:Hid (jV f hx D=if hx % 2=0/\D % 2=0 then m5 f X Y
  else if D % 2=0 then (m5 f X Y+m5 f (X+1) Y+1) / 2
  else if hx % 2=0 then (m5 f X Y+m5 f X (Y+1)+1) / 2
  else (m5 f X Y+m5 f (X+1) Y+m5 f X (Y+1)+m5 f (X+1) (Y+1)+2) / 4):=lh (by rw [V,Z];rfl)
 have i00:=jd I.sam X Y;have i10:=jd I.sam (X+1) Y;have i01:=jd I.sam X (Y+1);have i11:=jd I.sam (X+1) (Y+1);have E:=lh (F.out X Y);have L:=lh (F.out (X+1) Y);have J:=lh (F.out X (Y+1));have O:=lh (F.out (X+1) (Y+1));have bX:-500<=X/\X<=500:=Qa;have bY:-500<=Y/\Y<=500:=Qa;generalize m5 f X Y=v00 at *
 generalize m5 f (X+1) Y=v10 at *
 generalize m5 f X (Y+1)=v01 at *
 generalize m5 f (X+1) (Y+1)=v11 at *
 obtain ⟨a00,b00⟩:=i00;obtain ⟨a10,b10⟩:=i10;obtain ⟨a01,b01⟩:=i01;obtain ⟨a11,b11⟩:=i11;obtain ⟨bX0,bX1⟩:=bX;obtain ⟨bY0,bY1⟩:=bY;have M:=bK hx;have N:=bK D;have hx2:hx % 2=0\/hx % 2=1:=Qa;have hy2:D % 2=0\/D % 2=1:=Qa;clear h hq V Z F WL Vo;rcases hx2 with ex | ex <;> rcases hy2 with ey | ey
 ·rw [ex,ey] at HR
  rw [ex] at M;rw [ey] at N;clear ex ey;go_enter func190,ntmps190
  go_wp2_with (first | (go_at_call 223;((with_reducible refine E.out.mono ?_);rintro e w' ⟨rfl,rfl⟩)) | fail)
  exact pX
 ·rw [ex,ey] at HR
  rw [ex] at M;rw [ey] at N;clear ex ey;go_enter func190,ntmps190
  go_wp2_with (first | (go_at_call 223;((with_reducible refine E.out.mono ?_);rintro e w' ⟨rfl,rfl⟩)) | (go_at_call 223;((with_reducible refine J.out.mono ?_);rintro e w' ⟨rfl,rfl⟩)) | fail)
  exact pX
 ·rw [ex,ey] at HR
  rw [ex] at M;rw [ey] at N;clear ex ey;go_enter func190,ntmps190
  go_wp2_with (first | (go_at_call 223;((with_reducible refine E.out.mono ?_);rintro e w' ⟨rfl,rfl⟩)) | (go_at_call 223;((with_reducible refine L.out.mono ?_);rintro e w' ⟨rfl,rfl⟩)) | fail)
  exact pX
 ·rw [ex,ey] at HR
  rw [ex] at M;rw [ey] at N;clear ex ey;go_enter func190,ntmps190
  go_wp2_with (first | (go_at_call 223;((with_reducible refine E.out.mono ?_);rintro e w' ⟨rfl,rfl⟩)) | (go_at_call 223;((with_reducible refine L.out.mono ?_);rintro e w' ⟨rfl,rfl⟩)) | (go_at_call 223;((with_reducible refine J.out.mono ?_);rintro e w' ⟨rfl,rfl⟩)) | (go_at_call 223;((with_reducible refine O.out.mono ?_);rintro e w' ⟨rfl,rfl⟩)) | fail)
  exact pX
section
variable {P:Program}
theorem lM {w:World} {ops:Array Oper} {rest:List Oper} {o:Oper} {a:Act} {Q:Exit->Act->World->Prop} (E:o.guard=none) (t:TypeId) (D:List (Nat×Operand)) (F:o.op=.build t D.toArray) {v:Value}
  (hr:(Instr.build t (D.map fun p=>(p.1,a.eval p.2)).toArray).run P w=.ok v w) (h:wpList P ops Q rest (a.put o.dst v) w):wpList P ops Q (o :: rest) a w :=
 wpList_plain E fun _ hK=>by
  unfold Oper.wp execOp;simp only [F,List.map_toArray,Sem.run_bind,Sem.run_pure,Result.andThen_ok,hr];exact hK _ _ h
end
def eG (p:List Int) (D:Nat):List Value:=p.map (Value.int .i64) ++ [.pointer D]
section
variable {lo hi R D:Nat} {bv:Value} {w w':World} {m:j7} {S:List Nat}
theorem rq {p:List Int} (h:p.length=64) (D:Nat) {c:Nat} (E:c<64):(eG p D).toArray[c]?=some (.int .i64 (p.getD c 0)):=by
 unfold eG;rw [C4,Pu Qm,Pz,Pe Qa];simp [h,E]
theorem xY {p:List Int} (h:p.length=64) (D:Nat):(eG p D).toArray[64]?=some (.pointer D):=by
 unfold eG;rw [C4,Pt Qm];simp [h]
theorem xZ {p:List Int} (h:p.length=64) (D:Nat) {c:Nat} (E:c<64) (x:Int):(eG p D).toArray.setIfInBounds c (.int .i64 x)=(eG (p.set c x) D).toArray:=by
 unfold eG;rw [Pf]
 congr 1
 rw [List.set_append_left _ _ Qm,List.map_set]
end
theorem zo (c:Nat) (D:c<64) (w:World):Calls prog 256 #[c] w fun e w'=>e=.returned (.bool true)/\w=w':=by
 have h0:(0:Int)<=(c:Int):=Qa;have h1:(c:Int)<64:=Qa;go_enter func256,ntmps256;go_wp2;go_ret;exact ⟨rfl,rfl⟩
abbrev cv (R:Nat):Value:=.iface 224 (.pointer R)
theorem qF (v a b:Int) (w:World):Calls prog 142 #[v,a,b] w fun e w'=>e=.returned (.int .i64 (min (max v a) b))/\w=w':=by
 go_enter func142,ntmps142;go_wp2
 all_goals
  go_ret;exact ⟨ee Qa,rfl⟩
def cY (l:List Nat):List Int:=l.map fun x:Nat=>(x:Int)
theorem eQ {β:Type} (g:Nat->List β) (k:Nat):(List.range (k+1)).flatMap g=(List.range k).flatMap g ++ g k:=by rw [Zh,B5];simp
theorem fX (n s:Nat):∀ j,((List.range j).flatMap (bz n s)).length<=j
 | 0=>by simp
 | j+1=>by
  rw [Zh,B5,Pn];have h:=fX n s j;have h1:(([j]:List Nat).flatMap (bz n s)).length<=1:=by
   simp only [List.flatMap_cons,List.flatMap_nil,Px,bz]
   (repeat' split) <;> first | exact Pm _ | exact PX _
  omega
theorem jm (n k:Nat):((List.range k).flatMap fun s=>(List.range (s+1)).flatMap (bz n s)).length<=(k+1)*(k+1):=by
 induction k with
 | zero=>simp
 | succ k ih =>
  rw [Zh,B5,Pn];have h:=fX n k (k+1);have e:([k]:List Nat).flatMap (fun s=>(List.range (s+1)).flatMap (bz n s))=(List.range (k+1)).flatMap (bz n k):=Qb;rw [e];have:(k+1+1)*(k+1+1)=(k+1)*(k+1)+2*k+3:=by rw [Nat.add_mul,Nat.mul_add (k+1)];omega
  omega
theorem pY {p:Prop} (h:p:=by
 have Tn:=lh (fun (o:Obj)=>(show w.heap.size<=(wr.alloc o).heap.size by simp;omega));clear QS
 go_wp2_with (first
  | (at_builtin;refine au rfl (.tmp 43) (.tmp 49) _ rfl EI (HOI.quiet (BS)) rfl (RI.out _) rfl TU (Tn.out _) (fun v1 w1 QG Rc=>?_);obtain ⟨x1,SV,RZ,_⟩:=QG.ints.open;subst RZ;simp only [Pn,List.length_singleton] at QG Rc |-;have SD:=lh QG;have Sa:=lh Rc;clear QG Rc)
  | fail)
 exact ⟨⟨j+1,Qa,Qh,by rw [HPJ.out,QK.out];have:=SD.out;rw [VJ.out] at this;simpa [cY] using this,Sa.from_ HFI.out (Tn.out _),(UM.q (BS)).acc Sa.out HFI.out⟩,Qf⟩):p:=h
theorem iT {p:Prop} (h:p:=by
 go_wp2_with fail;exact ⟨⟨j+1,Qa,Qh,by rw [HPJ.out,QK.out,Px];exact HOI,HFI.out,UM.out⟩,Qf⟩):p:=h
theorem AP {p:Prop} (h:p:=by
 obtain rfl:j=k+1:=Qa;have hji:¬ ((k+1:Nat):Int)<(k:Int)+1:=Qa;go_wp2_with fail;exact ⟨⟨k+1,Qa,Qh,by rw [HP.out];exact HOI,HFI.out,UM.out⟩,Qf⟩):p:=h
theorem Dr (w:World) :
  Calls prog 199 #[.int .i64 4] w fun e w'=>∃ v',e=.returned v'/\f9 .i64 3 w.heap.size w' v' (cY (aD 4))/\ae [] w w':=by
 go_enter func199,ntmps199;go_wp2_with fail;go_loopw [3,17] (fun y s wr=>∃ k:Nat,k<=7/\s=.int .i64 k/\f9 .i64 3 w.heap.size wr y (cY ((List.range k).flatMap fun s=>(List.range (s+1)).flatMap (bz 4 s)))/\bj w.heap.size y/\ae [] w wr) (fun _ s _=>7-(intOf s).toNat)
 case atStart=>exact ⟨0,Qa,rfl,by simpa [cY] using f9.nil _ _ _ _,bj.nil _,AY⟩
 case round =>
  obtain ⟨k,hk,rfl,F,I,J⟩:=hrel;have Y:=lh F;have UA:=lh I;have V:=lh J;clear F I J;by_cases QH:k<7
  ·have Tl:(k:Int)<7:=Qa
   have RA:(0:Int)<=(k:Int):=Qa;have HP:=lh (show (List.range (k+1)).flatMap (fun s=>(List.range (s+1)).flatMap (bz 4 s))=(List.range k).flatMap (fun s=>(List.range (s+1)).flatMap (bz 4 s)) ++ (List.range (k+1)).flatMap (bz 4 k) from eQ _ k);have Ta:=lh (jm 4 k);generalize (List.range k).flatMap (fun s=>(List.range (s+1)).flatMap (bz 4 s))=PRE at *
   go_wp2_with fail;go_loopw [3,22] (fun y i Z=>∃ j:Nat,j<=k+1/\i=.int .i64 j/\f9 .i64 3 w.heap.size Z y (cY (PRE ++ (List.range j).flatMap (bz 4 k)))/\bj w.heap.size y/\ae [] w Z) (fun _ i _=>k+1-(intOf i).toNat)
   case atStart=>exact ⟨0,Qa,rfl,by simpa using Y.out,UA.out,V.out⟩
   case round =>
    obtain ⟨j,hj,rfl,F,I,J⟩:=hrel;have HOI:=lh F;have HFI:=lh I;have UM:=lh J;clear F I J;by_cases hjl:j<k+1
    ·have hji:(j:Int)<(k:Int)+1:=Qa
     have hj0:(0:Int)<=(j:Int):=Qa;have HPJ:=lh (show PRE ++ (List.range (j+1)).flatMap (bz 4 k)=PRE ++ (List.range j).flatMap (bz 4 k) ++ bz 4 k j by rw [Zh,B5,PM];simp);have E:=lh (show (PRE ++ (List.range j).flatMap (bz 4 k)).length<=10000 by have:=fX 4 k j;have:=Ta.out;have Yp:(k+1)*(k+1)<=16*16:=A8 Qa Qa;rw [Pn];omega);generalize PRE ++ (List.range j).flatMap (bz 4 k)=S0 at *
     have hzj:=UM.size;by_cases D:k % 2=0
     ·have N:(k:Int) % 2=0:=Qa
      by_cases hx:j<4
      ·have L:(j:Int)<4:=Qa
       by_cases O:k-j<4
       ·have M:(k:Int)-(j:Int)<4:=Qa
        have QK:Hid (bz 4 k j=[(k-j)*4+j]):=lh (by unfold bz;rw [if_pos D,if_pos D,if_pos ⟨hx,O⟩]);have VJ:Hid ((((k:Int)-(j:Int))*4+((k:Int)-((k:Int)-(j:Int))):Int)=((((k-j)*4+j:Nat)):Int)):=lh Qa;have QS:∀ x∈[(((k:Int)-(j:Int))*4+((k:Int)-((k:Int)-(j:Int))):Int)],i7 .i64 x:=by simp only [i5,n7,i7];omega
        have RI:=lh (fun (W:World)=>aU (k:=.i64) (w:=W) (t:=3) (l:=[(((k:Int)-(j:Int))*4+((k:Int)-((k:Int)-(j:Int))):Int)]) rfl Qj QS 1 rfl rfl);have TU:=lh (show ((cY S0).length+[(((k:Int)-(j:Int))*4+((k:Int)-((k:Int)-(j:Int))):Int)].length)*8<=140737488355328 by have:=E.out;simp [cY];omega);exact pY
       ·have M:¬ (k:Int)-(j:Int)<4:=Qa
        have QK:Hid (bz 4 k j=[]):=lh (by unfold bz;rw [if_pos D,if_pos D,if_neg Qa]);exact iT
      ·have L:¬ (j:Int)<4:=Qa
       have QK:Hid (bz 4 k j=[]):=lh (by unfold bz;rw [if_pos D,if_pos D,if_neg Qa]);exact iT
     ·have N:¬ (k:Int) % 2=0:=Qa
      by_cases hx:k-j<4
      ·have L:(k:Int)-(j:Int)<4:=Qa
       by_cases O:j<4
       ·have M:(j:Int)<4:=Qa
        have QK:Hid (bz 4 k j=[j*4+(k-j)]):=lh (by unfold bz;rw [if_neg D,if_neg D,if_pos ⟨hx,O⟩]);have VJ:Hid (((j:Int)*4+((k:Int)-(j:Int)):Int)=(((j*4+(k-j):Nat)):Int)):=lh Qa;have QS:∀ x∈[((j:Int)*4+((k:Int)-(j:Int)):Int)],i7 .i64 x:=by simp only [i5,n7,i7];omega
        have RI:=lh (fun (W:World)=>aU (k:=.i64) (w:=W) (t:=3) (l:=[((j:Int)*4+((k:Int)-(j:Int)):Int)]) rfl Qj QS 1 rfl rfl);have TU:=lh (show ((cY S0).length+[((j:Int)*4+((k:Int)-(j:Int)):Int)].length)*8<=140737488355328 by have:=E.out;simp [cY];omega);exact pY
       ·have M:¬ (j:Int)<4:=Qa
        have QK:Hid (bz 4 k j=[]):=lh (by unfold bz;rw [if_neg D,if_neg D,if_neg Qa]);exact iT
      ·have L:¬ (k:Int)-(j:Int)<4:=Qa
       have QK:Hid (bz 4 k j=[]):=lh (by unfold bz;rw [if_neg D,if_neg D,if_neg Qa]);exact iT
    ·exact AP
  ·obtain rfl:k=7:=Qa
   have Tl:¬ ((7:Nat):Int)<7:=Qa;go_wp2_with fail;go_ret;exact ⟨_,rfl,Y.out,V.out⟩
theorem Ds (w:World) :
  Calls prog 199 #[.int .i64 8] w fun e w'=>∃ v',e=.returned v'/\f9 .i64 3 w.heap.size w' v' (cY (aD 8))/\ae [] w w':=by
 go_enter func199,ntmps199;go_wp2_with fail;go_loopw [3,17] (fun y s wr=>∃ k:Nat,k<=15/\s=.int .i64 k/\f9 .i64 3 w.heap.size wr y (cY ((List.range k).flatMap fun s=>(List.range (s+1)).flatMap (bz 8 s)))/\bj w.heap.size y/\ae [] w wr) (fun _ s _=>15-(intOf s).toNat)
 case atStart=>exact ⟨0,Qa,rfl,by simpa [cY] using f9.nil _ _ _ _,bj.nil _,AY⟩
 case round =>
  obtain ⟨k,hk,rfl,F,I,J⟩:=hrel;have Y:=lh F;have UA:=lh I;have V:=lh J;clear F I J;by_cases QH:k<15
  ·have Tl:(k:Int)<15:=Qa
   have RA:(0:Int)<=(k:Int):=Qa;have HP:=lh (show (List.range (k+1)).flatMap (fun s=>(List.range (s+1)).flatMap (bz 8 s))=(List.range k).flatMap (fun s=>(List.range (s+1)).flatMap (bz 8 s)) ++ (List.range (k+1)).flatMap (bz 8 k) from eQ _ k);have Ta:=lh (jm 8 k);generalize (List.range k).flatMap (fun s=>(List.range (s+1)).flatMap (bz 8 s))=PRE at *
   go_wp2_with fail;go_loopw [3,22] (fun y i Z=>∃ j:Nat,j<=k+1/\i=.int .i64 j/\f9 .i64 3 w.heap.size Z y (cY (PRE ++ (List.range j).flatMap (bz 8 k)))/\bj w.heap.size y/\ae [] w Z) (fun _ i _=>k+1-(intOf i).toNat)
   case atStart=>exact ⟨0,Qa,rfl,by simpa using Y.out,UA.out,V.out⟩
   case round =>
    obtain ⟨j,hj,rfl,F,I,J⟩:=hrel;have HOI:=lh F;have HFI:=lh I;have UM:=lh J;clear F I J;by_cases hjl:j<k+1
    ·have hji:(j:Int)<(k:Int)+1:=Qa
     have hj0:(0:Int)<=(j:Int):=Qa;have HPJ:=lh (show PRE ++ (List.range (j+1)).flatMap (bz 8 k)=PRE ++ (List.range j).flatMap (bz 8 k) ++ bz 8 k j by rw [Zh,B5,PM];simp);have E:=lh (show (PRE ++ (List.range j).flatMap (bz 8 k)).length<=10000 by have:=fX 8 k j;have:=Ta.out;have Yp:(k+1)*(k+1)<=16*16:=A8 Qa Qa;rw [Pn];omega);generalize PRE ++ (List.range j).flatMap (bz 8 k)=S0 at *
     have hzj:=UM.size;by_cases D:k % 2=0
     ·have N:(k:Int) % 2=0:=Qa
      by_cases hx:j<8
      ·have L:(j:Int)<8:=Qa
       by_cases O:k-j<8
       ·have M:(k:Int)-(j:Int)<8:=Qa
        have QK:Hid (bz 8 k j=[(k-j)*8+j]):=lh (by unfold bz;rw [if_pos D,if_pos D,if_pos ⟨hx,O⟩]);have VJ:Hid ((((k:Int)-(j:Int))*8+((k:Int)-((k:Int)-(j:Int))):Int)=((((k-j)*8+j:Nat)):Int)):=lh Qa;have QS:∀ x∈[(((k:Int)-(j:Int))*8+((k:Int)-((k:Int)-(j:Int))):Int)],i7 .i64 x:=by simp only [i5,n7,i7];omega
        have RI:=lh (fun (W:World)=>aU (k:=.i64) (w:=W) (t:=3) (l:=[(((k:Int)-(j:Int))*8+((k:Int)-((k:Int)-(j:Int))):Int)]) rfl Qj QS 1 rfl rfl);have TU:=lh (show ((cY S0).length+[(((k:Int)-(j:Int))*8+((k:Int)-((k:Int)-(j:Int))):Int)].length)*8<=140737488355328 by have:=E.out;simp [cY];omega);exact pY
       ·have M:¬ (k:Int)-(j:Int)<8:=Qa
        have QK:Hid (bz 8 k j=[]):=lh (by unfold bz;rw [if_pos D,if_pos D,if_neg Qa]);exact iT
      ·have L:¬ (j:Int)<8:=Qa
       have QK:Hid (bz 8 k j=[]):=lh (by unfold bz;rw [if_pos D,if_pos D,if_neg Qa]);exact iT
     ·have N:¬ (k:Int) % 2=0:=Qa
      by_cases hx:k-j<8
      ·have L:(k:Int)-(j:Int)<8:=Qa
       by_cases O:j<8
       ·have M:(j:Int)<8:=Qa
        have QK:Hid (bz 8 k j=[j*8+(k-j)]):=lh (by unfold bz;rw [if_neg D,if_neg D,if_pos ⟨hx,O⟩]);have VJ:Hid (((j:Int)*8+((k:Int)-(j:Int)):Int)=(((j*8+(k-j):Nat)):Int)):=lh Qa;have QS:∀ x∈[((j:Int)*8+((k:Int)-(j:Int)):Int)],i7 .i64 x:=by simp only [i5,n7,i7];omega
        have RI:=lh (fun (W:World)=>aU (k:=.i64) (w:=W) (t:=3) (l:=[((j:Int)*8+((k:Int)-(j:Int)):Int)]) rfl Qj QS 1 rfl rfl);have TU:=lh (show ((cY S0).length+[((j:Int)*8+((k:Int)-(j:Int)):Int)].length)*8<=140737488355328 by have:=E.out;simp [cY];omega);exact pY
       ·have M:¬ (j:Int)<8:=Qa
        have QK:Hid (bz 8 k j=[]):=lh (by unfold bz;rw [if_neg D,if_neg D,if_neg Qa]);exact iT
      ·have L:¬ (k:Int)-(j:Int)<8:=Qa
       have QK:Hid (bz 8 k j=[]):=lh (by unfold bz;rw [if_neg D,if_neg D,if_neg Qa]);exact iT
    ·exact AP
  ·obtain rfl:k=15:=Qa
   have Tl:¬ ((15:Nat):Int)<15:=Qa;go_wp2_with fail;go_ret;exact ⟨_,rfl,Y.out,V.out⟩
end Go.Proofs.YthcafdfdglfabaaGreatDoor
