/- Joined texts: DCont, DMay, DForm, DBits, DWhtC, DClone. Conditions: each part names its own. -/
import Derived.Test.YthcafdfdglfabaaGreatDoorK1
import Derived.Test.YthcafdfdglfabaaGreatDoorC4
set_option maxRecDepth 100000
set_option maxHeartbeats 16000000
namespace Go.Proofs.YthcafdfdglfabaaGreatDoor
open Go.RowKit
set_option linter.unusedVariables false
set_option linter.unusedSimpArgs false
theorem jw {f:Int->Bool} {l:List Int} {k:Nat} (h:k<l.length):(l.drop k).any f=(f (l.getD k 0) || (l.drop (k+1)).any f):=by
 rw [LC h,List.any_cons]
 congr 2
 simp [h]
def rF (x:Int):Bool:=!iw x
theorem vW (x:Int) (w:World):Calls Tryz.prog 183 #[x] w fun e w'=>e=.returned (.bool (rF x))/\w=w':=by
 go_enter Tryz.func183,Tryz.ntmps183
 go_wp2_with (first | (go_at_call 64;refine (sf _ _).mono ?_;rintro e w1 ⟨rfl,rfl⟩) | fail)
 go_ret;exact ⟨rfl,rfl⟩
theorem vB {p:Prop} (h:p:=by
 obtain rfl:k=l.length:=Mf;have hx:¬ (l.length:Int)<(l.length:Int):=Mf;have Hz:Hid (l.any g=false):=lh (by rw [<- Hk.out,List.drop_length];rfl);go_wp2_with fail;go_ret;refine ⟨⟨-1,rfl,?_,Mf,Mf⟩,hq⟩
 first | rw [Hz.out] | rw [<- List.any_eq_true,Hz.out]
 simp):p:=h
theorem vC {p:Prop} (h:p:=by
 refine (HF.out _ _).mono ?_;rintro e w2 ⟨rfl,rfl⟩;rw [Hx.out];have Pq:Hid ((l.drop (k+1)).any g=l.any g):=lh (by rw [<- Hk.out,OS.out,Hx.out];rfl);go_wp2_with fail;exact ⟨⟨k+1,Mf,Mm,Pq,hq⟩,Mk⟩):p:=h
theorem vE {p:Prop} (h:p:=by
 refine (HF.out _ _).mono ?_;rintro e w2 ⟨rfl,rfl⟩;rw [Hx.out];go_wp2_with fail;go_ret;refine ⟨⟨k,rfl,?_,Mf,by have:=Hl.out;omega⟩,hq⟩;rw [<- Hk.out,OS.out,Hx.out];simp):p:=h
theorem zI {lo hi:Nat} {v:Value} {l:List Int} {w:World} (h:ah .i64 lo hi w v l) (hl:l.length<=1000000000) :
  Calls Tryz.prog 182 #[v,.func (.func 183) #[] #[]] w fun e w'=>(∃ i:Int,e=.returned (.int .i64 i)/\(0<=i↔l.any rF=true)/\-1<=i/\i<=1000000000)/\ae [] w w':=by
 obtain ⟨a,cap,rfl,Qq,PI,Pd,MZ⟩:=h.open;have Sp:=lh Pd;have NX:=lh MZ;have HF:=lh (fun (x:Int) (wx:World)=>vW x wx);have Hl:=lh hl;have Qn:(l.length:Int)<=9223372036854775807:=Mf;clear h Pd MZ PI Qq hl;generalize hg:rF=g at *
 clear hg;go_enter Tryz.func182,Tryz.ntmps182;go_wp2_with fail;go_loopw [8] (fun i wr=>∃ k:Nat,k<=l.length/\i=.int .i64 k/\Hid ((l.drop k).any g=l.any g)/\ae [] w wr) (fun i _=>l.length-(intOf i).toNat)
 case atStart=>exact ⟨0,Mf,rfl,lh rfl,ae.refl _ _⟩
 case round =>
  obtain ⟨k,hk,rfl,Hk,hq⟩:=hrel;by_cases MO:k<l.length
  ·obtain ⟨b,off,rfl,_,_⟩:=Sp.out k MO
   have c0:=hq.cell (NX.out b off rfl k MO) Mg;have hx:(0:Int)<=(k:Int):=Mf;have OB:(k:Int)<(l.length:Int):=Mf;have OS:=lh (jw (f:=g) MO);generalize l.getD k 0=x at *
   cases Sm:g x with
   | true =>
    have Hx:=lh Sm;clear Sm;go_wp2_with fail;go_at_call 183;exact vE
   | false =>
    have Hx:=lh Sm;clear Sm;go_wp2_with fail;go_at_call 183;exact vC
  ·exact vB
theorem vD {p:Prop} (h:p:=by
 go_enter Tryz.func122,Tryz.ntmps122
 go_wp2_with (first | (go_at_call 182;refine H.mono ?_;rintro e w1 ⟨⟨i,rfl,hi1,RK,XF⟩,MP⟩) | fail)
 go_ret;exact ⟨aK (by rw [Bool.eq_iff_iff,<- hi1];try simp),MP⟩):p:=h
theorem sJ {lo hi:Nat} {v:Value} {l:List Int} {w:World} (h:ah .i64 lo hi w v l) (hl:l.length<=1000000000) :
  Calls Tryz.prog 122 #[v,.func (.func 183) #[] #[]] w fun e w'=>e=.returned (.bool (l.any rF))/\ae [] w w':=by
 have H:=lh (zI h hl);clear h hl;generalize l.any rF=B at *
 exact vD
def zX (l:List Int):Bool:=l.all fun x=>decide (-16320<=x/\x<=16320)
def iO (x:Int):Bool:=decide (x < -16320) || decide (16320<x)
theorem wq (x:Int) (w:World):Calls Tryz.prog 224 #[x] w fun e w'=>e=.returned (.bool (iO x))/\w=w':=by
 by_cases h:x < -16320
 ·have hb:iO x=true:=by simp [iO,h]
  rw [hb];go_enter Tryz.func224,Tryz.ntmps224;go_wp2;go_ret;exact ⟨rfl,rfl⟩
 ·have hb:iO x=decide (16320<x):=by simp [iO,h]
  rw [hb];go_enter Tryz.func224,Tryz.ntmps224;go_wp2;go_ret;exact ⟨rfl,rfl⟩
theorem zH {lo hi:Nat} {v:Value} {l:List Int} {w:World} (h:ah .i64 lo hi w v l) (hl:l.length<=1000000000) :
  Calls Tryz.prog 182 #[v,.func (.func 224) #[] #[]] w fun e w'=>(∃ i:Int,e=.returned (.int .i64 i)/\(0<=i↔l.any iO=true)/\-1<=i/\i<=1000000000)/\ae [] w w':=by
 obtain ⟨a,cap,rfl,Qq,PI,Pd,MZ⟩:=h.open;have Sp:=lh Pd;have NX:=lh MZ;have HF:=lh (fun (x:Int) (wx:World)=>wq x wx);have Hl:=lh hl;have Qn:(l.length:Int)<=9223372036854775807:=Mf;clear h Pd MZ PI Qq hl;generalize hg:iO=g at *
 clear hg;go_enter Tryz.func182,Tryz.ntmps182;go_wp2_with fail;go_loopw [8] (fun i wr=>∃ k:Nat,k<=l.length/\i=.int .i64 k/\Hid ((l.drop k).any g=l.any g)/\ae [] w wr) (fun i _=>l.length-(intOf i).toNat)
 case atStart=>exact ⟨0,Mf,rfl,lh rfl,ae.refl _ _⟩
 case round =>
  obtain ⟨k,hk,rfl,Hk,hq⟩:=hrel;by_cases MO:k<l.length
  ·obtain ⟨b,off,rfl,_,_⟩:=Sp.out k MO
   have c0:=hq.cell (NX.out b off rfl k MO) Mg;have hx:(0:Int)<=(k:Int):=Mf;have OB:(k:Int)<(l.length:Int):=Mf;have OS:=lh (jw (f:=g) MO);generalize l.getD k 0=x at *
   cases Sm:g x with
   | true =>
    have Hx:=lh Sm;clear Sm;go_wp2_with fail;go_at_call 224;exact vE
   | false =>
    have Hx:=lh Sm;clear Sm;go_wp2_with fail;go_at_call 224;exact vC
  ·exact vB
theorem sI {lo hi:Nat} {v:Value} {l:List Int} {w:World} (h:ah .i64 lo hi w v l) (hl:l.length<=1000000000) :
  Calls Tryz.prog 122 #[v,.func (.func 224) #[] #[]] w fun e w'=>e=.returned (.bool (l.any iO))/\ae [] w w':=by
 have H:=lh (zH h hl);clear h hl;generalize l.any iO=B at *
 exact vD
def nzB (x:Int):Bool:=x != 0
theorem En (x:Int) (w:World):Calls Tryz.prog 126 #[x] w fun e w'=>e=.returned (.bool (nzB x))/\w=w':=by
 go_enter Tryz.func126,Tryz.ntmps126;go_wp2;go_ret;exact ⟨rfl,rfl⟩
theorem zK {lo hi:Nat} {v:Value} {l:List Int} {w:World} (h:ah .i64 lo hi w v l) (hl:l.length<=1000000000) :
  Calls Tryz.prog 182 #[v,.func (.func 126) #[] #[]] w fun e w'=>(∃ i:Int,e=.returned (.int .i64 i)/\(0<=i↔l.any nzB=true)/\-1<=i/\i<=1000000000)/\ae [] w w':=by
 obtain ⟨a,cap,rfl,Qq,PI,Pd,MZ⟩:=h.open;have Sp:=lh Pd;have NX:=lh MZ;have HF:=lh (fun (x:Int) (wx:World)=>En x wx);have Hl:=lh hl;have Qn:(l.length:Int)<=9223372036854775807:=Mf;clear h Pd MZ PI Qq hl;generalize hg:nzB=g at *
 clear hg;go_enter Tryz.func182,Tryz.ntmps182;go_wp2_with fail;go_loopw [8] (fun i wr=>∃ k:Nat,k<=l.length/\i=.int .i64 k/\Hid ((l.drop k).any g=l.any g)/\ae [] w wr) (fun i _=>l.length-(intOf i).toNat)
 case atStart=>exact ⟨0,Mf,rfl,lh rfl,ae.refl _ _⟩
 case round =>
  obtain ⟨k,hk,rfl,Hk,hq⟩:=hrel;by_cases MO:k<l.length
  ·obtain ⟨b,off,rfl,_,_⟩:=Sp.out k MO
   have c0:=hq.cell (NX.out b off rfl k MO) Mg;have hx:(0:Int)<=(k:Int):=Mf;have OB:(k:Int)<(l.length:Int):=Mf;have OS:=lh (jw (f:=g) MO);generalize l.getD k 0=x at *
   cases Sm:g x with
   | true =>
    have Hx:=lh Sm;clear Sm;go_wp2_with fail;go_at_call 126;exact vE
   | false =>
    have Hx:=lh Sm;clear Sm;go_wp2_with fail;go_at_call 126;exact vC
  ·exact vB
theorem sL {lo hi:Nat} {v:Value} {l:List Int} {w:World} (h:ah .i64 lo hi w v l) (hl:l.length<=1000000000) :
  Calls Tryz.prog 122 #[v,.func (.func 126) #[] #[]] w fun e w'=>e=.returned (.bool (l.any nzB))/\ae [] w w':=by
 have H:=lh (zK h hl);clear h hl;generalize l.any nzB=B at *
 exact vD
theorem yO {l:List Int}:(!(l.any rF))=aX l 0 255:=by
 unfold aX rF iw;rw [Bool.eq_iff_iff];simp
theorem hZ {lo hi:Nat} {v:Value} {l:List Int} {w:World} (h:ah .i64 lo hi w v l) (hl:l.length<=1000000000) :
  Calls Tryz.prog 124 #[v] w fun e w'=>e=.returned (.bool (aX l 0 255))/\ae [] w w':=by
 have H:=lh (sJ h hl);obtain ⟨a,cap,rfl,_⟩:=h.open;clear h hl;go_enter Tryz.func124,Tryz.ntmps124;go_wp2_with fail;go_at_call 122;refine H.mono ?_;rintro e w1 ⟨rfl,MP⟩;go_wp2_with fail;go_ret;exact ⟨aK yO,MP⟩
theorem FQ {l:List Int}:l.any iO=!zX l:=by
 unfold zX iO;rw [Bool.eq_iff_iff];simp
 constructor
 ·rintro ⟨x,hx,h⟩;exact ⟨x,hx,Mf⟩
 ·rintro ⟨x,hx,h⟩;exact ⟨x,hx,Mf⟩
theorem sF {lo hi:Nat} {v:Value} {l:List Int} {w:World} (h:ah .i64 lo hi w v l) (hl:l.length<=1000000000) :
  Calls Tryz.prog 69 #[v] w fun e w'=>e=.returned (.bool (!l.any nzB))/\ae [] w w':=by
 have H:=lh (sL h hl);obtain ⟨a,cap,rfl,_⟩:=h.open;clear h hl;go_enter Tryz.func69,Tryz.ntmps69;go_wp2_with fail;go_at_call 122;refine H.mono ?_;rintro e w1 ⟨rfl,MP⟩;go_wp2_with fail;go_ret;exact ⟨rfl,MP⟩
def jU (l:List Int):Option Int:=if l.length≠16/\l.length≠64 then some 14 else if zX l then none else some 3
def JH (v:Value):Option Int->Prop
 | none=>v=.nilIface
 | some k=>v=.iface 36 (.int .i64 k)
theorem Bx {p:Prop} (h:p:=by
 rw [HL.out,hb] at H;rw [hb] at Hc;clear hb;go_enter Tryz.func197,Tryz.ntmps197;go_wp2_with fail;go_at_call 122;refine H.mono ?_;rintro e w1 ⟨rfl,MP⟩;go_wp2_with fail;go_ret;exact ⟨⟨_,rfl,by rw [Hc.out];rfl⟩,MP⟩):p:=h
theorem jm {lo hi:Nat} {v:Value} {l:List Int} {w:World} (h:ah .i64 lo hi w v l) (hl:l.length<=1000000000) :
  Calls Tryz.prog 197 #[v] w fun e w'=>(∃ u,e=.returned u/\JH u (jU l))/\ae [] w w':=by
 have H:=lh (sI h hl);obtain ⟨a,cap,rfl,_⟩:=h.open;clear h;by_cases h16:l.length=16\/l.length=64
 ·have hc:jU l=if zX l then none else some 3:=if_neg Mf
  have Hc:=lh hc;have HL:=lh (FQ (l:=l));clear hc;have hi:(l.length:Int)=16\/(l.length:Int)=64:=Mf;clear h16;rcases hi with hi | hi
  all_goals
   cases hb:zX l with
   | true =>
    exact Bx
   | false =>
    exact Bx
 ·have hc:jU l=some 14:=if_pos Mf
  have Hc:=lh hc;have h1:((l.length:Int) != 16)=true:=Mq;have h2:((l.length:Int) != 64)=true:=Mq;clear hc h16 H;go_enter Tryz.func197,Tryz.ntmps197;go_wp2_with fail;go_ret;exact ⟨⟨_,rfl,by rw [Hc.out];rfl⟩,ae.refl _ _⟩
theorem ag {w:World} {a b c:Value} {t:TypeId} {g:Nat} (h:w.heap[g]?=some (.cells #[a,b,c] t (0,0))) :
  w.cell? ⟨g,0,none⟩=some a/\w.cell? ⟨g,1,none⟩=some b/\w.cell? ⟨g,2,none⟩=some c:=by
 refine ⟨?_,?_,?_⟩ <;> (rw [cell_of_row _ _ _ _ _ _ h];rfl)
section
theorem jG {lo hi:Nat} {pv:Value} {l:List Int} {w:World} (W H:Int) (h:ah .i64 lo hi w pv l) :
  Calls Tryz.prog 62 #[.agg #[W,H,pv]] w fun e w'=>e=.returned (.bool (dV ⟨W,H,l⟩))/\ae [] w w':=by
 obtain ⟨a,cap,rfl,hlc,PI,_⟩:=h.open;have Qn:(l.length:Int)<=9223372036854775807:=by unfold maxLen at PI;omega
 have MP:ae [] w (w.alloc (.cells #[W,H,.slice a l.length cap] 24)):=ae.new w _;have HQ:=lh MP;have Hh:=lh h;clear h PI hlc MP;cases hW:eA W with
 | false =>
  have Hr:Hid (dV ⟨W,H,l⟩=false):=lh (by simp [dV,hW]);have HW:=lh hW;clear hW;go_enter Tryz.func62,Tryz.ntmps62
  go_wp2_with (first | (go_at_call 63;refine (lg _ _).mono ?_;rintro e w' ⟨rfl,rfl⟩;rw [HW.out]) | fail)
  go_ret;exact ⟨aK (by rw [Hr.out]),HQ.out⟩
 | true =>
  cases hH:eA H with
  | false =>
   have Hr:Hid (dV ⟨W,H,l⟩=false):=lh (by simp [dV,hH]);have HW:=lh hW;have HH:=lh hH;clear hW hH;go_enter Tryz.func62,Tryz.ntmps62
   go_wp2_with (first | (go_at_call 63;refine (lg _ _).mono ?_;rintro e w' ⟨rfl,rfl⟩;(first | rw [HW.out] | rw [HH.out])) | fail)
   go_ret;exact ⟨aK (by rw [Hr.out]),HQ.out⟩
  | true =>
   have bW:=of_decide_eq_true hW;have bH:=of_decide_eq_true hH;have Hr:Hid (dV ⟨W,H,l⟩=(decide ((l.length:Int)=W*H) && aX l 0 255)):=lh (by simp [dV,hW,hH]);have HW:=lh hW;have HH:=lh hH;clear hW hH;obtain ⟨W',rfl⟩:=Int.eq_ofNat_of_zero_le (by omega:0<=W);obtain ⟨H',rfl⟩:=Int.eq_ofNat_of_zero_le (by omega:0<=H);have hn:W'*H'<=1024:=Lz (Nat.mul_le_mul (by omega:W'<=32) (by omega:H'<=32)) Mn;have VZ:(W':Int)*(H':Int)=((W'*H':Nat):Int):=by rw [Int.natCast_mul]
   have WW:=lh VZ;by_cases he:l.length=W'*H'
   ·have Hs:=lh (fun (wx:World) (o:ae [] w wx)=>hZ (Hh.quiet o) Mf)
    have Hr2:Hid (dV ⟨(W':Int),(H':Int),l⟩=aX l 0 255):=lh (by rw [Hr.out,WW.out,he];simp);rw [he] at HQ Hs |-
    generalize W'*H'=n at *
    clear he Qn bW bH Hr WW;generalize aX l 0 255=b at *
    go_enter Tryz.func62,Tryz.ntmps62
    go_wp2_with (first | (go_at_call 63;refine (lg _ _).mono ?_;rintro e w' ⟨rfl,rfl⟩;(first | rw [HW.out] | rw [HH.out])) | (go_at_call 124;refine (Hs.out _ HQ).mono ?_;rintro e w2 ⟨rfl,MV⟩;have Na:=lh MV;clear MV) | fail)
    go_ret;exact ⟨aK (by rw [Hr2.out]),HQ.q Na.out⟩
   ·have Hr2:Hid (dV ⟨(W':Int),(H':Int),l⟩=false):=lh (by rw [Hr.out,WW.out];simp;omega)
    have OT:((l.length:Int) == ((W'*H':Nat):Int))=false:=Mp;generalize W'*H'=n at *
    clear he bW bH Hr WW;go_enter Tryz.func62,Tryz.ntmps62
    go_wp2_with (first | (go_at_call 63;refine (lg _ _).mono ?_;rintro e w' ⟨rfl,rfl⟩;(first | rw [HW.out] | rw [HH.out])) | fail)
    go_ret;exact ⟨aK (by rw [Hr2.out]),HQ.out⟩
def gA (W H x y n:Int):Bool:=decide (0<=x/\0<=y/\x<=W-n/\y<=H-n)
theorem vG {p:Prop} (h:p:=by
 go_enter Tryz.func132,Tryz.ntmps132;go_wp2_with fail;go_ret;exact ⟨aK (by rw [HR.out,Bool.eq_iff_iff];simp;try omega),HQ.out⟩):p:=h
theorem Bt (W H x y n:Int) (pv:Value) (w:World) (hW:8<=W/\W<=32) (hH:8<=H/\H<=32) (hn:4<=n/\n<=8) :
  Calls Tryz.prog 132 #[.agg #[W,H,pv],x,y,n] w fun e w'=>e=.returned (.bool (gA W H x y n))/\ae [] w w':=by
 have MP:ae [] w (w.alloc (.cells #[W,H,pv] 24)):=ae.new w _;have HQ:=lh MP;clear MP;obtain ⟨w1,w2⟩:=hW;obtain ⟨h1,h2⟩:=hH;obtain ⟨n1,n2⟩:=hn;have HR:Hid (gA W H x y n=decide (0<=x/\0<=y/\x<=W-n/\y<=H-n)):=lh rfl;generalize gA W H x y n=b at *
 by_cases hx:0<=x
 ·by_cases hy:0<=y
  ·by_cases Sm:x<=W-n
   ·by_cases hyy:y<=H-n
    all_goals
     exact vG
   ·exact vG
  ·exact vG
 ·exact vG
end
theorem Own.form {k:IntKind} {e:TypeId} {base:Nat} {w:World} {v:Value} {l:List Int} (h:Own k e base w v l) (hl:0<l.length):∃ g cap,v=.slice (some ⟨g,0,none⟩) l.length cap/\base<=g/\g<w.heap.size:=by
 rcases h.1.2 with ⟨_,h0⟩ | ⟨g,cap,cur,rfl,hb,hg,_⟩
 ·omega
 ·exact ⟨g,cap,rfl,hb,(Array.getElem?_eq_some_iff.1 hg).1⟩
set_option linter.unusedVariables false
set_option linter.unusedSimpArgs false
theorem qu {p:Prop} (h:p:=by
 rw [BitVec.ofInt_natCast,BitVec.toNat_ofNat];exact Nat.mod_eq_of_lt Mf):p:=h
theorem qD (a b:Nat) (ha:a<1000000) (hb:b<1000000):bits .and .i64 (a:Int) (b:Int)=((a &&& b:Nat):Int):=by
 have hx:a &&& b<2 ^ 20:=Nat.and_lt_two_pow _ Mf;have h1:(BitVec.ofInt 64 (a:Int)).toNat=a:=by
  exact qu
 have h2:(BitVec.ofInt 64 (b:Int)).toNat=b:=by
  exact qu
 show IntKind.i64.wrap ((BitVec.ofInt 64 (a:Int) &&& BitVec.ofInt 64 (b:Int)).toNat:Int)=_;rw [BitVec.toNat_and,h1,h2,Ll];omega
theorem sG (a b:Nat) (ha:a<1000000) (hb:b<1000000):bits .or .i64 (a:Int) (b:Int)=((a ||| b:Nat):Int):=by
 have hx:a ||| b<2 ^ 20:=Nat.or_lt_two_pow Mf Mf;have h1:(BitVec.ofInt 64 (a:Int)).toNat=a:=by
  exact qu
 have h2:(BitVec.ofInt 64 (b:Int)).toNat=b:=by
  exact qu
 show IntKind.i64.wrap ((BitVec.ofInt 64 (a:Int) ||| BitVec.ofInt 64 (b:Int)).toNat:Int)=_;rw [BitVec.toNat_or,h1,h2,Ll];omega
def rK (most x:Int):Bool:=decide (x < -most) || decide (most<x)
theorem El {G:Nat} (most x:Int) {w:World} (hm:w.cell? ⟨G,0,none⟩=some (.int .i64 most)) (hb:0<=most/\most<=1000000000):Calls Tryz.prog 221 #[x,.pointer (some ⟨G,0,none⟩)] w fun e w'=>e=.returned (.bool (rK most x))/\w=w':=by
 have Ts:wrap64 (-most)=-most:=by unfold wrap64;omega
 by_cases h:x < -most
 ·have hb:rK most x=true:=by simp [rK,h]
  rw [hb];go_enter Tryz.func221,Tryz.ntmps221;go_wp2;go_ret;exact ⟨rfl,rfl⟩
 ·have hb:rK most x=decide (most<x):=by simp [rK,h]
  rw [hb];go_enter Tryz.func221,Tryz.ntmps221;go_wp2;go_ret;exact ⟨rfl,rfl⟩
theorem zJ {lo hi:Nat} {v:Value} {l:List Int} {w:World} (most:Int) {G:Nat} (h:ah .i64 lo hi w v l) (hl:l.length<=1000000000) (hm:w.cell? ⟨G,0,none⟩=some (.int .i64 most)) (hb:0<=most/\most<=1000000000) :
  Calls Tryz.prog 182 #[v,.func (.func 221) #[] #[.pointer (some ⟨G,0,none⟩)]] w fun e w'=>(∃ i:Int,e=.returned (.int .i64 i)/\(0<=i↔l.any (rK most)=true)/\-1<=i/\i<=1000000000)/\ae [] w w':=by
 obtain ⟨a,cap,rfl,Qq,PI,Pd,MZ⟩:=h.open;have Sp:=lh Pd;have NX:=lh MZ;have HF:=lh (fun (x:Int) (wx:World) (o:ae [] w wx)=>El most x (o.cell hm Mg) hb);have Hl:=lh hl;have Qn:(l.length:Int)<=9223372036854775807:=Mf;clear h Pd MZ PI Qq hl;generalize hg:(rK most)=g at *
 clear hg hm;go_enter Tryz.func182,Tryz.ntmps182;go_wp2_with fail;go_loopw [8] (fun i wr=>∃ k:Nat,k<=l.length/\i=.int .i64 k/\Hid ((l.drop k).any g=l.any g)/\ae [] w wr) (fun i _=>l.length-(intOf i).toNat)
 case atStart=>exact ⟨0,Mf,rfl,lh rfl,ae.refl _ _⟩
 case round =>
  obtain ⟨k,hk,rfl,Hk,hq⟩:=hrel;by_cases MO:k<l.length
  ·obtain ⟨b,off,rfl,_,_⟩:=Sp.out k MO
   have c0:=hq.cell (NX.out b off rfl k MO) Mg;have hx:(0:Int)<=(k:Int):=Mf;have OB:(k:Int)<(l.length:Int):=Mf;have OS:=lh (jw (f:=g) MO);generalize l.getD k 0=x at *
   cases Sm:g x with
   | true =>
    have Hx:=lh Sm;clear Sm;go_wp2_with fail;go_at_call 221;refine (HF.out _ _ hq).mono ?_;rintro e w2 ⟨rfl,rfl⟩;rw [Hx.out];go_wp2_with fail;go_ret;refine ⟨⟨k,rfl,?_,Mf,by have:=Hl.out;omega⟩,hq⟩;rw [<- Hk.out,OS.out,Hx.out];simp
   | false =>
    have Hx:=lh Sm;clear Sm;go_wp2_with fail;go_at_call 221;refine (HF.out _ _ hq).mono ?_;rintro e w2 ⟨rfl,rfl⟩;rw [Hx.out];have Pq:Hid ((l.drop (k+1)).any g=l.any g):=lh (by rw [<- Hk.out,OS.out,Hx.out];rfl);go_wp2_with fail;exact ⟨⟨k+1,Mf,Mm,Pq,hq⟩,Mk⟩
  ·obtain rfl:k=l.length:=Mf
   have hx:¬ (l.length:Int)<(l.length:Int):=Mf;have Hz:Hid (l.any g=false):=lh (by rw [<- Hk.out,List.drop_length];rfl);go_wp2_with fail;go_ret;refine ⟨⟨-1,rfl,?_,Mf,Mf⟩,hq⟩
   first | rw [Hz.out] | rw [<- List.any_eq_true,Hz.out]
   simp
theorem sK {lo hi:Nat} {v:Value} {l:List Int} {w:World} (most:Int) {G:Nat} (h:ah .i64 lo hi w v l) (hl:l.length<=1000000000) (hm:w.cell? ⟨G,0,none⟩=some (.int .i64 most)) (hb:0<=most/\most<=1000000000) :
  Calls Tryz.prog 122 #[v,.func (.func 221) #[] #[.pointer (some ⟨G,0,none⟩)]] w fun e w'=>e=.returned (.bool (l.any (rK most)))/\ae [] w w':=by
 have H:=lh (zJ most h hl hm hb);clear h hl;generalize l.any (rK most)=B at *
 go_enter Tryz.func122,Tryz.ntmps122
 go_wp2_with (first | (go_at_call 182;refine H.mono ?_;rintro e w1 ⟨⟨i,rfl,hi1,RK,XF⟩,MP⟩) | fail)
 go_ret;exact ⟨aK (by rw [Bool.eq_iff_iff,<- hi1];try simp),MP⟩
theorem oM {lo hi:Nat} {v:Value} {l:List Int} {w:World} {most:Int} (h:ah .i64 lo hi w v l) (hl:l.length=16\/l.length=64) (hb:0<=most/\most<=1000000000) (MX:∀ x∈l,-most<=x/\x<=most) :
  Calls Tryz.prog 185 #[v,most] w fun e w'=>e=.returned .nilIface/\ae [] w w':=by
 have hq:=ae.new w (.cells #[most] 3);have Joz:l.any (rK most)=false:=by
  rw [List.any_eq_false];intro x hx;have:=MX x hx;simp only [rK,Bool.or_eq_true,decide_eq_true_eq];omega
 have H:=lh (sK most (G:=w.heap.size) (h.quiet hq) Mf (cell_of_row _ _ 0 _ _ (0,0) (heap_alloc_new _ _)) hb);rw [Joz] at H;have hmf:∀ (fn:Fn) (first cap:Array Value) (W:World),(Instr.makeFunc fn first cap).run Tryz.prog W=.ok (.func fn first cap) W:=fun _ _ _ _=>rfl
 obtain ⟨a,cap,rfl,_⟩:=h.open;have HQ:=lh hq;clear h Joz MX hq;have hi:(l.length:Int)=16\/(l.length:Int)=64:=Mf;clear hl;rcases hi with hi | hi
 all_goals
  go_enter Tryz.func185,Tryz.ntmps185;go_wp2_with fail;go_at_call 122;refine H.mono ?_;rintro e w1 ⟨rfl,MP⟩;go_wp2_with fail;go_ret;exact ⟨rfl,HQ.q MP⟩
theorem oQ {lo hi:Nat} {v:Value} {l:List Int} {w:World} (h:ah .i64 lo hi w v l) (h0:0<l.length) (hl:l.length<=1000000) :
  Calls Tryz.prog 51 #[v] w fun e w'=>∃ v',e=.returned v'/\Own .i64 3 w.heap.size w' v' l/\ae [] w w':=by
 obtain ⟨b,off,cap,rfl,_,_,_⟩:=h.at h0;have heq:(binOp BinOp.eql 22 (.slice (some ⟨b,off,none⟩) l.length cap) (.slice none 0 0)).run Tryz.prog w=.ok (.bool false) w:=Mh;go_enter Tryz.func51,Tryz.ntmps51
 go_wp2_with (at_builtin;refine aw rfl (.tmp 5) (.tmp 6) _ rfl EI (qq (l:=[]) rfl Mg Mg 0 rfl) rfl (h.quiet ((ae.refl _ _).alloc _)) rfl ?c1 ?c2 (fun v1 w1 MN Nu=>?_))
 case c1=>simp;omega
 case c2=>simp
 go_ret;exact ⟨v1,rfl,by simpa using MN,((ae.refl _ _).alloc _).acc Nu (bB.lit (Lm _))⟩
theorem DK (n:Int) (hn:n=16\/n=64) (w:World):Calls Tryz.prog 232 #[.int .u64 n] w fun e w'=>e=.returned (.int .i64 (if n=16 then 5 else 7))/\w=w':=by
 rcases hn with rfl | rfl
 ·go_enter Tryz.func232,Tryz.ntmps232
  go_wp2;exact bodyPost_ret (v:=.int .i64 5) Mh rfl ⟨rfl,rfl⟩
 ·go_enter Tryz.func232,Tryz.ntmps232
  go_wp2;exact bodyPost_ret (v:=.int .i64 7) Mh rfl ⟨rfl,rfl⟩
theorem Bo (n:Int) (hn:n=16\/n=64) (w:World):Calls Tryz.prog 227 #[.int .u64 n] w fun e w'=>e=.returned (.int .i64 (if n=16 then 5 else 7))/\w=w':=by
 have H:=lh (DK n hn);generalize (if n=16 then (5:Int) else 7)=r at *
 go_enter Tryz.func227,Tryz.ntmps227
 go_wp2_with (first | (go_at_call 232;refine (H.out _).mono ?_;rintro e w1 ⟨rfl,rfl⟩) | fail)
 go_ret;exact ⟨rfl,rfl⟩
end Go.Proofs.YthcafdfdglfabaaGreatDoor
