/- Joined texts: EPc, ENums, EGreat. Conditions: each part names its own. -/
import Derived.Test.YthcafdfdglfabaaGreatDoorT1
import Derived.Test.YthcafdfdglfabaaGreatDoorR2
namespace Go.Proofs.YthcafdfdglfabaaGreatDoor
open Tryz
open Go.RowKit
set_option linter.unusedVariables false
set_option linter.unusedSimpArgs false
set_option maxRecDepth 100000
set_option maxHeartbeats 16000000
structure PC where
 σ:Type
 C:lX σ
 T:TypeId
 R:Nat
 fb:Nat
 ff:Nat
 base:Nat
 At:List Nat->World->σ->Prop
 Ok:Nat->σ->Prop
 mB:∀ w:World,(Go.method 447 T (.pointer R) "Bit").run prog w=.ok (fb,.pointer R) w
 mF:∀ w:World,(Go.method 447 T (.pointer R) "Flat").run prog w=.ok (ff,.pointer R) w
 eB:∀ (args:Array Value) (w:World),(callFunc fb args).run prog w=.ok (.enter fb args) w
 eF:∀ (args:Array Value) (w:World),(callFunc ff args).run prog w=.ok (.enter ff args) w
 nB:∀ w:World,(nilAhead 447 T (.pointer R) "Bit").run prog w=.ok (some false) w
 nF:∀ w:World,(nilAhead 447 T (.pointer R) "Flat").run prog w=.ok (some false) w
 ok_le:∀ {n k:Nat} {s:σ},Ok n s->n<=k->Ok k s
 ok_bit:∀ {n:Nat} {s:σ} (c:Nat) (b:Bool),Ok n s->c<64->Ok (n+2) (C.bit c b s).2
 ok_flat:∀ {n:Nat} {s:σ} (b:Bool),Ok n s->Ok (n+2) (C.flat b s).2
 only:∀ {F S:List Nat} {w w':World} {s:σ},At F w s->ae S w w'->(∀ g∈S,base<=g/\g∉F)->At F w' s
 lt:∀ {F:List Nat} {w:World} {s:σ},At F w s->∀ g∈F,g<w.heap.size
 base_le:∀ {F:List Nat} {w:World} {s:σ},At F w s->base<=w.heap.size
 bit:∀ {F:List Nat} {w:World} {s:σ} {n:Nat} (c:Nat) (b:Bool),At F w s->Ok n s->n<=900000000->c<64 ->
  Calls prog fb #[.pointer R,c,.bool b] w fun e w'=>e=.returned (.bool (C.bit c b s).1)/\∃ F',At F' w' (C.bit c b s).2/\bA F w F' w'
 flat:∀ {F:List Nat} {w:World} {s:σ} {n:Nat} (b:Bool),At F w s->Ok n s->n<=900000000 ->
  Calls prog ff #[.pointer R,.bool b] w fun e w'=>e=.returned (.bool (C.flat b s).1)/\∃ F',At F' w' (C.flat b s).2/\bA F w F' w'
abbrev PC.val (X:PC):Value:=.iface X.T (.pointer X.R)
theorem PC.quiet (X:PC) {F:List Nat} {w w':World} {s:X.σ} (h:X.At F w s) (o:ae [] w w'):X.At F w' s:=X.only h o Qb
section
variable (X:PC)
def xA (F:List Nat) (w:World) (r:Int×X.σ) (e:Ending) (w':World):Prop:=e=.returned (.int .i64 r.1)/\∃ F',X.At F' w' r.2/\bA F w F' w'
theorem wP {f:Nat->Nat} (D:∀ i,f i<64) (v:Int):∀ (k i:Nat) {n:Nat} {s:X.σ},X.Ok n s->X.Ok (n+2*k) (aW X.C f v k i s).2/\i<=(aW X.C f v k i s).1/\(aW X.C f v k i s).1<=i+k
 | 0,i,n,s,h=>⟨h,Pm _,Pm _⟩
 | k+1,i,n,s,h=>by
  have a:=X.ok_bit (f i) (decide ((i:Int)<v)) h (D i);unfold aW
  split
  ·obtain ⟨x,y,z⟩:=wP D v k (i+1) a
   exact ⟨X.ok_le x Qa,Qa,Qa⟩
  ·exact ⟨X.ok_le a Qa,Qb,Qb⟩
theorem oW (u:Int):∀ (k i:Nat) {n:Nat} {s:X.σ},X.Ok n s->X.Ok (n+2*k) (bF X.C u k i s).2/\i<=(bF X.C u k i s).1/\(bF X.C u k i s).1<=i+k
 | 0,i,n,s,h=>⟨h,Pm _,Pm _⟩
 | k+1,i,n,s,h=>by
  have a:=X.ok_flat (decide ((2:Int) ^ (i+1)<=u)) h;unfold bF
  split
  ·obtain ⟨x,y,z⟩:=oW u k (i+1) a
   exact ⟨X.ok_le x Qa,Qa,Qa⟩
  ·exact ⟨X.ok_le a Qa,Qb,Qb⟩
theorem iy (u:Int):∀ (k i:Nat) {n:Nat} {s:X.σ},X.Ok n s->X.Ok (n+2*k) (cB X.C u k i s).2/\i*2 ^ k<=(cB X.C u k i s).1/\(cB X.C u k i s).1<(i+1)*2 ^ k
 | 0,i,n,s,h=>⟨h,by simp [cB],by simp [cB]⟩
 | k+1,i,n,s,h=>by
  have a:=X.ok_flat (decide (u / (2:Int) ^ k % 2=1)) h;unfold cB;obtain ⟨x,y,z⟩:=iy u k (if (X.C.flat (decide (u / (2:Int) ^ k % 2=1)) s).1 then 2*i+1 else 2*i) a;refine ⟨X.ok_le x Qa,?_,?_⟩
  ·refine Pw ?_ y
   rw [Nat.pow_succ]
   split <;> (generalize 2 ^ k=q;simp only [Nat.mul_comm,Nat.mul_left_comm,Nat.add_mul,Nat.mul_add];omega)
  ·refine PH z ?_
   rw [Nat.pow_succ]
   split <;> (generalize 2 ^ k=q;simp only [Nat.mul_comm,Nat.mul_left_comm,Nat.add_mul,Nat.mul_add];omega)
theorem rD {C:lX X.σ} {f:Nat->Nat} {v:Int} {k n:Nat} {s:X.σ} (h:(C.bit (f n) (decide ((n:Int)<v)) s).1=true):aW C f v (k+1) n s=aW C f v k (n+1) (C.bit (f n) (decide ((n:Int)<v)) s).2:=if_pos h
theorem mQ {C:lX X.σ} {f:Nat->Nat} {v:Int} {k n:Nat} {s:X.σ} (h:(C.bit (f n) (decide ((n:Int)<v)) s).1=false):aW C f v (k+1) n s=(n,(C.bit (f n) (decide ((n:Int)<v)) s).2):=if_neg (by rw [h];simp)
theorem yf {C:lX X.σ} {u:Int} {k n:Nat} {s:X.σ} (h:(C.flat (decide ((2:Int) ^ (n+1)<=u)) s).1=true):bF C u (k+1) n s=bF C u k (n+1) (C.flat (decide ((2:Int) ^ (n+1)<=u)) s).2:=if_pos h
theorem yg {C:lX X.σ} {u:Int} {k n:Nat} {s:X.σ} (h:(C.flat (decide ((2:Int) ^ (n+1)<=u)) s).1=false):bF C u (k+1) n s=(n,(C.flat (decide ((2:Int) ^ (n+1)<=u)) s).2):=if_neg (by rw [h];simp)
theorem Fo {p:Prop} (h:p:=by
 refine (HB.out _ ?_ _ ?_).mono ?_
 ·first | rfl | exact bG _ _ | exact aX _ _ | (simp;done) | (simp;omega)
 ·first | rfl | omega
 rintro e w2 ⟨rfl,F2,RM,Rj⟩;have Tw:=lh RM;have Ug:=lh (Hg.out.trans Rj);clear RM Rj HB;go_wp2_with fail;exact ⟨⟨c+1,F2,_,by have:=Sj.out;omega,Qh,Tw,Ug,lh (by rw [Hn3.out.2,Sm.out];exact (rD X Hb.out).symm),lh (X.ok_le WW.out Qa)⟩,by simp [intOf];have:=Sj.out;omega⟩):p:=h
theorem Ie {F:List Nat} {w:World} {s:X.σ} {n:Nat} (h:X.At F w s) {v:Int} (hv:0<=v/\v<=3) (ok:X.Ok n s) (hn:n<=800000000) :
  Calls prog 78 #[X.val,v] w (xA X F w (((lT X.C v s).1:Int),(lT X.C v s).2)):=by
 refine aK fun Q V=>?_
 have HK:=lh h;have QX:=lh ok;have mb:=X.mB;have mf:=X.mF;have eb:=X.eB;have ef:=X.eF;clear h ok;go_enter func78,ntmps78;go_wp2_with fail;refine (qF _ _ _ _).mono ?_;rintro e w1 ⟨rfl,rfl⟩;rw [show min (max v (0)) 3=v by omega];go_wp2_with fail;go_loopw [5] (fun i wr=>∃ (c:Nat) (Fc:List Nat) (E:X.σ),c<=3/\i=.int .i64 c/\Hid (X.At Fc wr E)/\Hid (bA F w Fc wr)/\Hid (aW X.C (fun n=>min n 63) v (3-c) c E=aW X.C (fun n=>min n 63) v 3 0 s)/\Hid (X.Ok (n+2*c) E)) (fun i _=>3-(intOf i).toNat)
 case atStart=>exact ⟨0,_,_,Qa,rfl,HK,lh (bA.refl _ _),lh rfl,QX⟩
 case round =>
  obtain ⟨c,Fc,E,hc,rfl,N,Hg,M,O⟩:=hrel;by_cases QH:c<3
  ·have Tl:(c:Int)<3:=Qa
   have TM:(0:Int)<=(c:Int):=Qa;have J:(fun n=>min n 63) c<64:=by show min c 63<64;omega
   have HB:=lh (fun (b:Bool) (D:b=decide ((c:Int)<v)) (y:Int) (hy:y=((min c 63:Nat):Int))=>(by subst D;subst hy;exact X.bit ((fun n=>min n 63) c) _ N.out O.out Qa J:Calls prog X.fb #[.pointer X.R,y,.bool b] wr _));have WW:=lh (X.ok_bit ((fun n=>min n 63) c) (decide ((c:Int)<v)) O.out J);obtain ⟨I,Y⟩:∃ I,3-c=I+1:=⟨3-c-1,Qa⟩
   have Z:3-(c+1)=I:=Qa;have Hn3:=lh (VL Y Z);have Sj:=lh QH;clear Y Z J;have Sm:Hid (aW X.C (fun n=>min n 63) v 3 0 s=aW X.C (fun n=>min n 63) v (I+1) c E):=lh (by rw [<- Hn3.out.1,M.out]);cases D:(X.C.bit ((fun n=>min n 63) c) (decide ((c:Int)<v)) E).1 with
   | true =>
    rw [D] at HB;have Hb:=lh D;clear D;go_wp2_with fail;exact Fo
   | false =>
    rw [D] at HB;have Hb:=lh D;clear D;go_wp2_with fail;refine (HB.out _ ?_ _ ?_).mono ?_
    ·first | rfl | exact bG _ _ | exact aX _ _ | (simp;done) | (simp;omega)
    ·first | rfl | omega
    rintro e w2 ⟨rfl,F2,RM,Rj⟩;have Tw:=lh RM;have Ug:=lh (Hg.out.trans Rj);clear RM Rj HB;have L:Hid (aW X.C (fun n=>min n 63) v 3 0 s=(c,(X.C.bit ((fun n=>min n 63) c) (decide ((c:Int)<v)) E).2)):=Sm.out.trans (mQ X Hb.out);go_wp2_with fail;refine V.out _ _ ?_;unfold lT;rw [L.out];exact ⟨rfl,F2,Tw.out,Ug.out⟩
  ·obtain rfl:c=3:=Qa
   have Tl:¬ ((3:Nat):Int)<3:=Qa;have L:Hid (aW X.C (fun n=>min n 63) v 3 0 s=(3,E)):=M.out.symm.trans rfl;go_wp2_with fail;refine V.out _ _ ?_;unfold lT;rw [L.out];exact ⟨rfl,Fc,N.out,Hg.out⟩
theorem sj {p:Prop} (h:p:=by
 go_wp2_with fail;refine (TR.out _ _ HK.out _ ?_).mono ?_
 ·first | rfl | exact bG _ _ | exact aX _ _ | (simp;done) | (simp [Hm2.out];done) | (simp;omega)
 rintro e w1 ⟨rfl,F1,TW,ST⟩;have Hk1:=lh TW;have Hg1:=lh (ST);clear TW ST;go_wp2_with fail;refine (Si.out _ _ Hk1.out _ ?_).mono ?_
 ·first | rfl | exact bG _ _ | exact aX _ _ | (simp;done) | (simp [Hm2.out];done) | (simp;omega)
 rintro e w2 ⟨rfl,F2,RM,Rj⟩;have Tw:=lh RM;have Ug:=lh (Hg1.out.trans Rj);clear RM Rj;go_wp2_with fail;refine QF.out _ _ ?_;rw [HM.out];exact ⟨rfl,F2,Tw.out,Ug.out⟩):p:=h
theorem wN {F:List Nat} {w:World} {s:X.σ} {n:Nat} (h:X.At F w s) {v:Int} (hv:0<=v/\v<=3) (ok:X.Ok n s) (hn:n<=800000000) :
  Calls prog 143 #[X.val,v] w (xA X F w (((bO X.C v s).1:Int),(bO X.C v s).2)):=by
 refine aK fun Q QF=>?_
 have HK:=lh h;have Y:=lh ok;have mb:=X.mB;have mf:=X.mF;have eb:=X.eB;have ef:=X.eF;clear h ok;go_enter func143,ntmps143;go_wp2_with fail;refine (qF _ _ _ _).mono ?_;rintro e w1 ⟨rfl,rfl⟩;rw [show min (max v (0)) 3=v by omega];have V:Hid (bO X.C v s=lB X.C v s):=lh (by show lB X.C (min (max v 0) 3) s=_;rw [show min (max v 0) 3=v by omega]);rw [V.out] at QF;clear V;have M:=hv;obtain ⟨m,Z⟩:∃ m,m=v:=⟨_,rfl⟩
 subst Z;have N:m.tmod 2=m % 2:=PR M.1;have Hm2:=lh N;have J:=X.ok_bit 3 (decide (1<m)) Y.out Qa;have TR:=lh (fun (wx:World) (Fx:List Nat) (hx:X.At Fx wx s) (b:Bool) (D:b=decide (1<m))=>(by subst D;exact X.bit 3 _ hx Y.out Qa Qa:Calls prog X.fb #[.pointer X.R,.int .i64 3,.bool b] wx _));have HM:Hid (lB X.C m s=if (X.C.bit 3 (decide (1<m)) s).1 then (if (X.C.bit 5 (decide (m % 2=1)) (X.C.bit 3 (decide (1<m)) s).2).1 then 3 else 2,(X.C.bit 5 (decide (m % 2=1)) (X.C.bit 3 (decide (1<m)) s).2).2) else (if (X.C.bit 4 (decide (m % 2=1)) (X.C.bit 3 (decide (1<m)) s).2).1 then 1 else 0,(X.C.bit 4 (decide (m % 2=1)) (X.C.bit 3 (decide (1<m)) s).2).2)):=lh rfl;generalize X.C.bit 3 (decide (1<m)) s=b1 at *
 obtain ⟨t1,I⟩:=b1;simp only at J TR HM;have E:=lh J;clear J;cases t1 with
 | true =>
  have L:=X.ok_bit 5 (decide (m % 2=1)) E.out Qa;have Si:=lh (fun (wx:World) (Fx:List Nat) (hx:X.At Fx wx I) (b:Bool) (D:b=decide (m % 2=1))=>(by subst D;exact X.bit 5 _ hx E.out Qa Qa:Calls prog X.fb #[.pointer X.R,.int .i64 5,.bool b] wx _));generalize X.C.bit 5 (decide (m % 2=1)) I=b2 at *
  obtain ⟨O,s2⟩:=b2;simp only at Si HM;clear L;cases O with
  | true =>
   exact sj
  | false =>
   exact sj
 | false =>
  have L:=X.ok_bit 4 (decide (m % 2=1)) E.out Qa;have Si:=lh (fun (wx:World) (Fx:List Nat) (hx:X.At Fx wx I) (b:Bool) (D:b=decide (m % 2=1))=>(by subst D;exact X.bit 4 _ hx E.out Qa Qa:Calls prog X.fb #[.pointer X.R,.int .i64 4,.bool b] wx _));generalize X.C.bit 4 (decide (m % 2=1)) I=b2 at *
  obtain ⟨O,s2⟩:=b2;simp only at Si HM;clear L;cases O with
  | true =>
   exact sj
  | false =>
   exact sj
theorem wQ {F:List Nat} {w:World} {s:X.σ} {n:Nat} (h:X.At F w s) {v:Int} (hv:-15<=v/\v<=15) (ok:X.Ok n s) (hn:n<=800000000) :
  Calls prog 145 #[X.val,v] w (xA X F w ((bT X.C v s).1,(bT X.C v s).2)):=by
 refine aK fun Q V=>?_
 have HK:=lh h;have QX:=lh ok;have mb:=X.mB;have mf:=X.mF;have eb:=X.eB;have ef:=X.eF;clear h ok;go_enter func145,ntmps145;go_wp2_with fail;refine (qF _ _ _ _).mono ?_;rintro e w1 ⟨rfl,rfl⟩;rw [show min (max v (-15)) 15=v by omega];have HP:Hid (bT X.C v s=ib X.C v s):=lh (by show ib X.C (min (max v (-15)) 15) s=_;rw [show min (max v (-15)) 15=v by omega]);rw [HP.out] at V;clear HP;have hm0:=hv;obtain ⟨m,hm⟩:∃ m,m=v:=⟨_,rfl⟩
 subst hm;have XD:=X.ok_bit 6 (decide (m≠0)) QX.out Qa;have TR:=lh (fun (wx:World) (Fx:List Nat) (hx:X.At Fx wx s) (b:Bool) (D:b=decide (m≠0))=>(by subst D;exact X.bit 6 _ hx QX.out Qa Qa:Calls prog X.fb #[.pointer X.R,.int .i64 6,.bool b] wx _));have M:Hid (ib X.C m s=if (X.C.bit 6 (decide (m≠0)) s).1 then ie X.C m (X.C.flat (decide (m<0)) (X.C.bit 6 (decide (m≠0)) s).2).1 (X.C.flat (decide (m<0)) (X.C.bit 6 (decide (m≠0)) s).2).2 else (0,(X.C.bit 6 (decide (m≠0)) s).2)):=lh rfl;generalize X.C.bit 6 (decide (m≠0)) s=b1 at *
 obtain ⟨t1,s1⟩:=b1;simp only at XD TR M;have WY:=lh XD;clear XD;cases t1 with
 | false =>
  go_wp2_with fail;refine (TR.out _ _ HK.out _ ?_).mono ?_
  ·first | rfl | exact bG _ _ | exact aX _ _ | (simp;done) | (simp;omega)
  rintro e w1 ⟨rfl,F1,Z,ST⟩;have O:=lh Z;have N:=lh (ST);clear Z ST;go_wp2_with fail;refine V.out _ _ ?_;rw [M.out];exact ⟨rfl,F1,O.out,N.out⟩
 | true =>
  have XE:=X.ok_flat (decide (m<0)) WY.out;have Si:=lh (fun (wx:World) (Fx:List Nat) (hx:X.At Fx wx s1) (b:Bool) (D:b=decide (m<0))=>(by subst D;exact X.flat _ hx WY.out Qa:Calls prog X.ff #[.pointer X.R,.bool b] wx _));generalize X.C.flat (decide (m<0)) s1=b2 at *
  obtain ⟨L,J⟩:=b2;simp only at XE Si M;have Ok2:=lh XE;clear XE;go_wp2_with fail;refine (TR.out _ _ HK.out _ ?_).mono ?_
  ·first | rfl | exact bG _ _ | exact aX _ _ | (simp;done) | (simp;omega)
  rintro e w1 ⟨rfl,F1,Z,ST⟩;have O:=lh Z;have N:=lh (ST);clear Z ST;go_wp2_with fail;refine (Si.out _ _ O.out _ ?_).mono ?_
  ·first | rfl | exact bG _ _ | exact aX _ _ | (simp;done) | (simp;omega)
  rintro e w2 ⟨rfl,F2,RM,Rj⟩;have Tw:=lh RM;have Ug:=lh (N.out.trans Rj);clear RM Rj;go_upto_region 5 with (fail)
  go_cut [6,7] (fun s6 s7 wx=>s6=.int .i64 (max m (-m)-1)/\s7=.int .i64 0/\w2=wx)
  case first =>
   go_wp2_with fail
   all_goals (go_meet;exact ⟨by congr 1;omega,rfl,rfl⟩)
  case rest =>
   obtain ⟨rfl,rfl,rfl⟩:=hcut;have I:=Ug;have HV:Hid (ie X.C m L J=(dW L (aW X.C (fun n=>7+min n 6) (max m (-m)-1) 14 0 J).1,(aW X.C (fun n=>7+min n 6) (max m (-m)-1) 14 0 J).2)):=lh rfl;generalize max m (-m)-1=vv at *
   go_wp2_with fail;go_loopw [7] (fun i wr=>∃ (c:Nat) (Fc:List Nat) (E:X.σ),c<=14/\i=.int .i64 c/\Hid (X.At Fc wr E)/\Hid (bA F2 w2 Fc wr)/\Hid (aW X.C (fun n=>7+min n 6) vv (14-c) c E=aW X.C (fun n=>7+min n 6) vv 14 0 J)/\Hid (X.Ok ((n+2+2)+2*c) E)) (fun i _=>14-(intOf i).toNat)
   case atStart=>exact ⟨0,_,_,Qa,rfl,Tw,lh (bA.refl _ _),lh rfl,Ok2⟩
   case round =>
    obtain ⟨c,Fc,E,hc,rfl,Hk,Hg,He,Ho⟩:=hrel;by_cases QH:c<14
    ·have Tl:(c:Int)<14:=Qa
     have TM:(0:Int)<=(c:Int):=Qa;have Ua:(fun n=>7+min n 6) c<64:=by show 7+min c 6<64;omega
     have HB:=lh (fun (b:Bool) (D:b=decide ((c:Int)<vv)) (y:Int) (hy:y=((7+min c 6:Nat):Int))=>(by subst D;subst hy;exact X.bit ((fun n=>7+min n 6) c) _ Hk.out Ho.out Qa Ua:Calls prog X.fb #[.pointer X.R,y,.bool b] wr _));have WW:=lh (X.ok_bit ((fun n=>7+min n 6) c) (decide ((c:Int)<vv)) Ho.out Ua);obtain ⟨k3,Ub⟩:∃ k3,14-c=k3+1:=⟨14-c-1,Qa⟩
     have Uc:14-(c+1)=k3:=Qa;have Hn3:=lh (VL Ub Uc);have Sj:=lh QH;clear Ub Uc Ua;have Sm:Hid (aW X.C (fun n=>7+min n 6) vv 14 0 J=aW X.C (fun n=>7+min n 6) vv (k3+1) c E):=lh (by rw [<- Hn3.out.1,He.out]);cases D:(X.C.bit ((fun n=>7+min n 6) c) (decide ((c:Int)<vv)) E).1 with
     | true =>
      rw [D] at HB;have Hb:=lh D;clear D;go_wp2_with fail
      all_goals
       exact Fo
     | false =>
      rw [D] at HB;have Hb:=lh D;clear D;go_wp2_with fail
      all_goals
       refine (HB.out _ ?_ _ ?_).mono ?_
       ·first | rfl | exact bG _ _ | exact aX _ _ | (simp;done) | (simp;omega)
       ·first | rfl | omega
       rintro e w2 ⟨rfl,F2,RM,Rj⟩;have Tw:=lh RM;have Ug:=lh (Hg.out.trans Rj);clear RM Rj HB;have Vs:Hid (aW X.C (fun n=>7+min n 6) vv 14 0 J=(c,(X.C.bit ((fun n=>7+min n 6) c) (decide ((c:Int)<vv)) E).2)):=Sm.out.trans (mQ X Hb.out);have Y:Hid (ib X.C m s=(dW L c,(X.C.bit ((fun n=>7+min n 6) c) (decide ((c:Int)<vv)) E).2)):=lh (by rw [M.out];show ie X.C m L J=_;rw [HV.out,Vs.out]);clear M;cases L with
       | true =>
        go_wp2_with fail;refine V.out _ _ ?_;rw [Y.out];exact ⟨rfl,F2,Tw.out,(I.out.trans Ug.out)⟩
       | false =>
        go_wp2_with fail;refine V.out _ _ ?_;rw [Y.out];exact ⟨rfl,F2,Tw.out,(I.out.trans Ug.out)⟩
    ·obtain rfl:c=14:=Qa
     have Tl:¬ ((14:Nat):Int)<14:=Qa;have Vs:Hid (aW X.C (fun n=>7+min n 6) vv 14 0 J=(14,E)):=He.out.symm.trans rfl;have Y:Hid (ib X.C m s=(dW L 14,E)):=lh (by rw [M.out];show ie X.C m L J=_;rw [HV.out,Vs.out]);clear M;cases L with
     | true =>
      go_wp2_with fail;refine V.out _ _ ?_;rw [Y.out];exact ⟨rfl,Fc,Hk.out,(I.out.trans Hg.out)⟩
     | false =>
      go_wp2_with fail;refine V.out _ _ ?_;rw [Y.out];exact ⟨rfl,Fc,Hk.out,(I.out.trans Hg.out)⟩
end
section
variable (X:PC)
theorem Bb {p:Prop} (h:p:=by
 rw [hb] at HB Hst;clear hb;go_wp2_with fail
 go_region_with (first
  | (refine (HB.out _ (AY).drew _ ?_).mono ?_;(first | rfl | (rw [show IntKind.i64.wrap (2*(2:Int) ^ c)=(2:Int) ^ (c+1) from by rw [Pk];have:=Hsh.out;rw [Int.pow_succ] at this |-;omega]) | (rw [bK];exact aX _ _) | (simp;done) | (simp;omega));rintro e w5 ⟨rfl,F5,RM,Rj⟩;have Tw:=lh RM;have Ug:=lh ((Hgd.out.q (ae.refl [] _).drew).trans Rj);clear RM Rj)
  | fail)
 all_goals
  go_wp2_with fail;exact ⟨⟨j,2*gn+1,F5,_,by have:=Hj.out;omega,Qh,Qh,Tw,Ug,lh (by rw [<- Hed.out,Hst.out];rfl),lh (X.ok_le WW.out (j0 Hj.out))⟩,by simp [intOf];try omega⟩):p:=h
theorem Bc {p:Prop} (h:p:=by
 rw [hb] at HB Hst;clear hb;go_wp2_with fail
 go_region_with (first
  | (refine (HB.out _ (AY).drew _ ?_).mono ?_;(first | rfl | (rw [show IntKind.i64.wrap (2*(2:Int) ^ c)=(2:Int) ^ (c+1) from by rw [Pk];have:=Hsh.out;rw [Int.pow_succ] at this |-;omega]) | (rw [bK];exact aX _ _) | (simp;done) | (simp;omega));rintro e w5 ⟨rfl,F5,RM,Rj⟩;have Tw:=lh RM;have Ug:=lh ((Hgd.out.q (ae.refl [] _).drew).trans Rj);clear RM Rj)
  | fail)
 all_goals
  go_wp2_with fail;exact ⟨⟨j,2*gn,F5,_,by have:=Hj.out;omega,Qh,Qh,Tw,Ug,lh (by rw [<- Hed.out,Hst.out];rfl),lh (X.ok_le WW.out (j0 Hj.out))⟩,by simp [intOf];try omega⟩):p:=h
theorem Bd {p:Prop} (h:p:=by
 have Jba:¬ (0:Int)<=((0:Nat):Int)-1:=Qa;have hgs:=Hgn.out;rw [Nat.pow_zero,Nat.mul_one] at hgs;have Jhm:Hid (cH X.C u s=(gn,sd)):=HT.out.trans Hed.out.symm;go_wp2_with fail;refine QF.out _ _ ?_;rw [Jhm.out];exact ⟨rfl,Fd,Hkd.out,Hgd.out⟩):p:=h
theorem Dz {F:List Nat} {w:World} {s:X.σ} {n:Nat} (h:X.At F w s) (u:Int) (hu:-100000<=u/\u<=100000) (ok:X.Ok n s) (hn:n<=800000000) :
  Calls prog 225 #[X.val,u] w (xA X F w (((cH X.C u s).1:Int),(cH X.C u s).2)):=by
 refine aK fun Q QF=>?_
 have HK:=lh h;have QX:=lh ok;have mf:=X.mF;have ef:=X.eF;have nf:=X.nF;clear h ok;go_enter func225,ntmps225;go_wp2_with fail;go_loopw [5] (fun i wr=>∃ (c:Nat) (Fc:List Nat) (D:X.σ),c<=13/\i=.int .i64 c/\Hid (X.At Fc wr D)/\Hid (bA F w Fc wr)/\Hid (bF X.C u (13-c) c D=bF X.C u 13 0 s)/\Hid (X.Ok (n+2*c) D)) (fun i _=>13-(intOf i).toNat)
 case atStart=>exact ⟨0,_,_,Qa,rfl,HK,lh (bA.refl _ _),lh rfl,QX⟩
 case round =>
  obtain ⟨c,Fc,D,hc,rfl,Hk,Hg,He,Ho⟩:=hrel;by_cases QH:c<13
  ·have Tl:(c:Int)<13:=Qa
   have TM:(0:Int)<=(c:Int):=Qa;have Yt:(2:Int) ^ (c+1)<=8192/\(0:Int)<=(2:Int) ^ (c+1):=EJ Qa;have Hsh:=lh Yt;clear Yt;have HB:=lh (fun (w':World) (o:ae [] wr w') (b:Bool) (hb:b=decide ((2:Int) ^ (c+1)<=u))=>(by subst hb;exact X.flat _ (X.quiet Hk.out o) Ho.out Qa:Calls prog X.ff #[.pointer X.R,.bool b] w' _));have WW:=lh (X.ok_flat (decide ((2:Int) ^ (c+1)<=u)) Ho.out);obtain ⟨k3,Ub⟩:∃ k3,13-c=k3+1:=⟨13-c-1,Qa⟩
   have Uc:13-(c+1)=k3:=Qa;have Hn3:=lh (VL Ub Uc);have Sj:=lh QH;clear Ub Uc;have Sm:Hid (bF X.C u 13 0 s=bF X.C u (k3+1) c D):=lh (by rw [<- Hn3.out.1,He.out]);cases hb:(X.C.flat (decide ((2:Int) ^ (c+1)<=u)) D).1 with
   | true =>
    rw [hb] at HB;have Hb:=lh hb;clear hb;go_wp2_with fail
    go_region_with (first
     | (refine (HB.out _ (AY).drew _ ?_).mono ?_;(first | rfl | (rw [show IntKind.i64.wrap (2*(2:Int) ^ c)=(2:Int) ^ (c+1) from by rw [Pk];have:=Hsh.out;rw [Int.pow_succ] at this |-;omega]) | (rw [bK];exact aX _ _) | (simp;done) | (simp;omega));rintro e w3 ⟨rfl,F3,RM,Rj⟩;have Tw:=lh RM;have Ug:=lh ((Hg.out.q (ae.refl [] _).drew).trans Rj);clear RM Rj)
     | fail)
    all_goals
     go_wp2_with fail;exact ⟨⟨c+1,F3,_,by have:=Sj.out;omega,Qh,Tw,Ug,lh (by rw [Hn3.out.2,Sm.out];exact (yf X Hb.out).symm),lh (X.ok_le WW.out Qa)⟩,by simp [intOf];have:=Sj.out;omega⟩
   | false =>
    rw [hb] at HB;have Hb:=lh hb;clear hb;go_wp2_with fail
    go_region_with (first
     | (refine (HB.out _ (AY).drew _ ?_).mono ?_;(first | rfl | (rw [show IntKind.i64.wrap (2*(2:Int) ^ c)=(2:Int) ^ (c+1) from by rw [Pk];have:=Hsh.out;rw [Int.pow_succ] at this |-;omega]) | (rw [bK];exact aX _ _) | (simp;done) | (simp;omega));rintro e w3 ⟨rfl,F3,RM,Rj⟩;have Tw:=lh RM;have Ug:=lh ((Hg.out.q (ae.refl [] _).drew).trans Rj);clear RM Rj)
     | fail)
    all_goals
     clear HB;have Vs:Hid (bF X.C u 13 0 s=(c,(X.C.flat (decide ((2:Int) ^ (c+1)<=u)) D).2)):=Sm.out.trans (yg X Hb.out);obtain ⟨I,N⟩:∃ x,x=(X.C.flat (decide ((2:Int) ^ (c+1)<=u)) D).2:=⟨_,rfl⟩
     have Y:Hid (X.At F3 _ I):=lh (by rw [N];exact Tw.out);have J:Hid (X.Ok (n+26) I):=lh (by rw [N];exact (X.ok_le WW.out Qa));rw [<- N] at Vs;have HT:Hid (cH X.C u s=cB X.C u c 1 I):=lh (by unfold cH;rw [Vs.out]);obtain ⟨z,O⟩:∃ z:Nat,z=c:=⟨_,rfl⟩
     rw [<- O] at HT;have Xg:z<=13:=Qa;have M:=iy X u z 1 J.out;have V:=lh (show (cB X.C u z 1 I).1<16384 by have:=M.2.2;have h2:2 ^ z<=2 ^ 13:=Nat.pow_le_pow_right Qa Xg;omega);clear M N;go_wp2_with fail;go_loopw [6,7] (fun g i wr=>∃ (j gn:Nat) (Fc:List Nat) (D:X.σ),j<=z/\i=.int .i64 ((j:Int)-1)/\g=.int .i64 gn/\Hid (X.At Fc wr D)/\Hid (bA F w Fc wr)/\Hid (cB X.C u j gn D=cB X.C u z 1 I)/\Hid (X.Ok (n+26+2*(z-j)) D)) (fun _ i _=>(intOf i+1).toNat)
     case atStart=>exact ⟨z,1,_,I,Pm _,by first | rfl | (rw [O];go_num) | (subst O;go_num) | (subst O;rfl),rfl,Y,Ug,lh rfl,lh (X.ok_le J.out Qa)⟩
     case round =>
      obtain ⟨j,gn,Fd,sd,hj,rfl,rfl,Hkd,Hgd,Hed,E⟩:=hrel;have Z:=(iy X u j gn E.out).2.1;rw [Hed.out] at Z;have Hgn:=lh (PI Z V.out);clear Z;cases j with
      | zero =>
       exact Bd
      | succ j =>
       have L:((j+1:Nat):Int)-1=(j:Int):=Qa;rw [L];have hjn:(0:Int)<=(j:Int):=Qa;have JoZ:(j:Int)<13:=Qa;have hgs:gn<8192:=by have:=Hgn.out;rw [Nat.pow_succ] at this;have h1:1<=2 ^ j:=Nat.one_le_two_pow;have:=Nat.mul_le_mul_left gn (show 2<=2 ^ j*2 by omega);omega
       have HB:=lh (fun (w':World) (o:ae [] wr w') (b:Bool) (hb:b=decide (u / (2:Int) ^ j % 2=1))=>(by subst hb;exact X.flat _ (X.quiet Hkd.out o) E.out Qa:Calls prog X.ff #[.pointer X.R,.bool b] w' _));have WW:=lh (X.ok_flat (decide (u / (2:Int) ^ j % 2=1)) E.out);have Hst:Hid (cB X.C u (j+1) gn sd=cB X.C u j (if (X.C.flat (decide (u / (2:Int) ^ j % 2=1)) sd).1 then 2*gn+1 else 2*gn) (X.C.flat (decide (u / (2:Int) ^ j % 2=1)) sd).2):=lh rfl;have Hgs:=lh hgs;have Hj:=lh hj;clear L hj;cases hb:(X.C.flat (decide (u / (2:Int) ^ j % 2=1)) sd).1 with
       | true =>
        exact Bb
       | false =>
        exact Bc
  ·obtain rfl:c=13:=Qa
   have Tl:¬ ((13:Nat):Int)<13:=Qa;have Vs:Hid (bF X.C u 13 0 s=(13,D)):=He.out.symm.trans rfl;have Hk1:=lh (X.quiet Hk.out (ae.refl [] _).drew);have Hg1:=lh (Hg.out.q (ae.refl [] _).drew);have hdf:decide (((13:Nat):Int)<13)=false:=decide_eq_false Tl;clear He Hk Hg;go_wp2_with fail;refine Tf (S:=(fun _=>True)) Qc ?_ (fun hHeld=>?_)
   ·trivial
   refine tk 0 8 ?_;refine tk 1 9 ?_;refine tk 2 10 ?_;refine l9 3 11 ?_;refine l9 4 12 ?_;refine l9 5 13 ?_;refine l9 6 14 ?_;refine l9 7 15 ?_;refine l9 8 16 ?_;refine l9 9 17 ?_;refine l9 10 18 ?_;refine l9 11 19 ?_;refine tk 12 20 ?_;refine Wn Qc ?_ _;obtain ⟨I,N⟩:∃ x,x=D:=⟨_,rfl⟩
   have Y:Hid (X.At Fc _ I):=lh (by rw [N];exact Hk1.out);have J:Hid (X.Ok (n+26) I):=lh (by rw [N];exact (X.ok_le Ho.out Qa));rw [<- N] at Vs;have HT:Hid (cH X.C u s=cB X.C u 13 1 I):=lh (by unfold cH;rw [Vs.out]);obtain ⟨z,O⟩:∃ z:Nat,z=13:=⟨_,rfl⟩
   rw [<- O] at HT;have Xg:z<=13:=Qa;have M:=iy X u z 1 J.out;have V:=lh (show (cB X.C u z 1 I).1<16384 by have:=M.2.2;have h2:2 ^ z<=2 ^ 13:=Nat.pow_le_pow_right Qa Xg;omega);clear M N;go_wp2_with fail;go_loopw [6,7] (fun g i wr=>∃ (j gn:Nat) (Fc:List Nat) (D:X.σ),j<=z/\i=.int .i64 ((j:Int)-1)/\g=.int .i64 gn/\Hid (X.At Fc wr D)/\Hid (bA F w Fc wr)/\Hid (cB X.C u j gn D=cB X.C u z 1 I)/\Hid (X.Ok (n+26+2*(z-j)) D)) (fun _ i _=>(intOf i+1).toNat)
   case atStart=>exact ⟨z,1,_,I,Pm _,by first | rfl | (rw [O];go_num) | (subst O;go_num) | (subst O;rfl),rfl,Y,Hg1,lh rfl,lh (X.ok_le J.out Qa)⟩
   case round =>
    obtain ⟨j,gn,Fd,sd,hj,rfl,rfl,Hkd,Hgd,Hed,E⟩:=hrel;have Z:=(iy X u j gn E.out).2.1;rw [Hed.out] at Z;have Hgn:=lh (PI Z V.out);clear Z;cases j with
    | zero =>
     exact Bd
    | succ j =>
     have L:((j+1:Nat):Int)-1=(j:Int):=Qa;rw [L];have hjn:(0:Int)<=(j:Int):=Qa;have JoZ:(j:Int)<13:=Qa;have hgs:gn<8192:=by have:=Hgn.out;rw [Nat.pow_succ] at this;have h1:1<=2 ^ j:=Nat.one_le_two_pow;have:=Nat.mul_le_mul_left gn (show 2<=2 ^ j*2 by omega);omega
     have HB:=lh (fun (w':World) (o:ae [] wr w') (b:Bool) (hb:b=decide (u / (2:Int) ^ j % 2=1))=>(by subst hb;exact X.flat _ (X.quiet Hkd.out o) E.out Qa:Calls prog X.ff #[.pointer X.R,.bool b] w' _));have WW:=lh (X.ok_flat (decide (u / (2:Int) ^ j % 2=1)) E.out);have Hst:Hid (cB X.C u (j+1) gn sd=cB X.C u j (if (X.C.flat (decide (u / (2:Int) ^ j % 2=1)) sd).1 then 2*gn+1 else 2*gn) (X.C.flat (decide (u / (2:Int) ^ j % 2=1)) sd).2):=lh rfl;have Hgs:=lh hgs;have Hj:=lh hj;clear L hj;cases hb:(X.C.flat (decide (u / (2:Int) ^ j % 2=1)) sd).1 with
     | true =>
      exact Bb
     | false =>
      exact Bc
end
end Go.Proofs.YthcafdfdglfabaaGreatDoor
