/- Joined texts: EPc, ENums, EGreat. Conditions: each part names its own. -/
import Derived.Test.YthcafdfdglfabaaGreatDoorT1
import Derived.Test.YthcafdfdglfabaaGreatDoorR2
namespace Go.Proofs.YthcafdfdglfabaaGreatDoor
open Go.RowKit
set_option linter.unusedVariables false
set_option linter.unusedSimpArgs false
set_option maxRecDepth 100000
set_option maxHeartbeats 16000000
structure PC where
 σ:Type
 C:kC σ
 T:TypeId
 R:Nat
 fb:Nat
 ff:Nat
 base:Nat
 At:List Nat->World->σ->Prop
 Ok:Nat->σ->Prop
 mB:∀ w:World,(Go.method 447 T (.pointer (some ⟨R,0,none⟩)) "Bit").run Tryz.prog w=.ok (fb,.pointer (some ⟨R,0,none⟩)) w
 mF:∀ w:World,(Go.method 447 T (.pointer (some ⟨R,0,none⟩)) "Flat").run Tryz.prog w=.ok (ff,.pointer (some ⟨R,0,none⟩)) w
 eB:∀ (args:Array Value) (w:World),(callFunc fb args).run Tryz.prog w=.ok (.enter fb args) w
 eF:∀ (args:Array Value) (w:World),(callFunc ff args).run Tryz.prog w=.ok (.enter ff args) w
 nB:∀ w:World,(nilAhead 447 T (.pointer (some ⟨R,0,none⟩)) "Bit").run Tryz.prog w=.ok (some false) w
 nF:∀ w:World,(nilAhead 447 T (.pointer (some ⟨R,0,none⟩)) "Flat").run Tryz.prog w=.ok (some false) w
 ok_le:∀ {n k:Nat} {s:σ},Ok n s->n<=k->Ok k s
 ok_bit:∀ {n:Nat} {s:σ} (c:Nat) (b:Bool),Ok n s->c<64->Ok (n+2) (C.bit c b s).2
 ok_flat:∀ {n:Nat} {s:σ} (b:Bool),Ok n s->Ok (n+2) (C.flat b s).2
 only:∀ {F S:List Nat} {w w':World} {s:σ},At F w s->ae S w w'->(∀ g∈S,base<=g/\g∉F)->At F w' s
 lt:∀ {F:List Nat} {w:World} {s:σ},At F w s->∀ g∈F,g<w.heap.size
 base_le:∀ {F:List Nat} {w:World} {s:σ},At F w s->base<=w.heap.size
 bit:∀ {F:List Nat} {w:World} {s:σ} {n:Nat} (c:Nat) (b:Bool),At F w s->Ok n s->n<=900000000->c<64 ->
  Calls Tryz.prog fb #[.pointer (some ⟨R,0,none⟩),c,.bool b] w fun e w'=>e=.returned (.bool (C.bit c b s).1)/\∃ F',At F' w' (C.bit c b s).2/\bw F w F' w'
 flat:∀ {F:List Nat} {w:World} {s:σ} {n:Nat} (b:Bool),At F w s->Ok n s->n<=900000000 ->
  Calls Tryz.prog ff #[.pointer (some ⟨R,0,none⟩),.bool b] w fun e w'=>e=.returned (.bool (C.flat b s).1)/\∃ F',At F' w' (C.flat b s).2/\bw F w F' w'
abbrev PC.val (X:PC):Value:=.iface X.T (.pointer (some ⟨X.R,0,none⟩))
theorem PC.quiet (X:PC) {F:List Nat} {w w':World} {s:X.σ} (h:X.At F w s) (o:ae [] w w'):X.At F w' s:=X.only h o Mg
section
variable (X:PC)
def uK (F:List Nat) (w:World) (r:Int×X.σ) (e:Ending) (w':World):Prop:=e=.returned (.int .i64 r.1)/\∃ F',X.At F' w' r.2/\bw F w F' w'
theorem ui {f:Nat->Nat} (hf:∀ i,f i<64) (v:Int):∀ (k i:Nat) {n:Nat} {s:X.σ},X.Ok n s->X.Ok (n+2*k) (aW X.C f v k i s).2/\i<=(aW X.C f v k i s).1/\(aW X.C f v k i s).1<=i+k
 | 0,i,n,s,h=>⟨h,Lm _,Lm _⟩
 | k+1,i,n,s,h=>by
  have a:=X.ok_bit (f i) (decide ((i:Int)<v)) h (hf i);unfold aW
  split
  ·obtain ⟨x,y,z⟩:=ui hf v k (i+1) a
   exact ⟨X.ok_le x Mf,Mf,Mf⟩
  ·exact ⟨X.ok_le a Mf,Mg,Mg⟩
theorem nj (u:Int):∀ (k i:Nat) {n:Nat} {s:X.σ},X.Ok n s->X.Ok (n+2*k) (bF X.C u k i s).2/\i<=(bF X.C u k i s).1/\(bF X.C u k i s).1<=i+k
 | 0,i,n,s,h=>⟨h,Lm _,Lm _⟩
 | k+1,i,n,s,h=>by
  have a:=X.ok_flat (decide ((2:Int) ^ (i+1)<=u)) h;unfold bF
  split
  ·obtain ⟨x,y,z⟩:=nj u k (i+1) a
   exact ⟨X.ok_le x Mf,Mf,Mf⟩
  ·exact ⟨X.ok_le a Mf,Mg,Mg⟩
theorem gI (u:Int):∀ (k i:Nat) {n:Nat} {s:X.σ},X.Ok n s->X.Ok (n+2*k) (ck X.C u k i s).2/\i*2 ^ k<=(ck X.C u k i s).1/\(ck X.C u k i s).1<(i+1)*2 ^ k
 | 0,i,n,s,h=>⟨h,by simp [ck],by simp [ck]⟩
 | k+1,i,n,s,h=>by
  have a:=X.ok_flat (decide (u / (2:Int) ^ k % 2=1)) h;unfold ck;obtain ⟨x,y,z⟩:=gI u k (if (X.C.flat (decide (u / (2:Int) ^ k % 2=1)) s).1 then 2*i+1 else 2*i) a;refine ⟨X.ok_le x Mf,?_,?_⟩
  ·refine Lz ?_ y
   rw [Nat.pow_succ]
   split <;> (generalize 2 ^ k=q;simp only [Nat.mul_comm,Nat.mul_left_comm,Nat.add_mul,Nat.mul_add];omega)
  ·refine LN z ?_
   rw [Nat.pow_succ]
   split <;> (generalize 2 ^ k=q;simp only [Nat.mul_comm,Nat.mul_left_comm,Nat.add_mul,Nat.mul_add];omega)
theorem pP {C:kC X.σ} {f:Nat->Nat} {v:Int} {k n:Nat} {s:X.σ} (h:(C.bit (f n) (decide ((n:Int)<v)) s).1=true):aW C f v (k+1) n s=aW C f v k (n+1) (C.bit (f n) (decide ((n:Int)<v)) s).2:=if_pos h
theorem kY {C:kC X.σ} {f:Nat->Nat} {v:Int} {k n:Nat} {s:X.σ} (h:(C.bit (f n) (decide ((n:Int)<v)) s).1=false):aW C f v (k+1) n s=(n,(C.bit (f n) (decide ((n:Int)<v)) s).2):=if_neg (by rw [h];simp)
theorem vw {C:kC X.σ} {u:Int} {k n:Nat} {s:X.σ} (h:(C.flat (decide ((2:Int) ^ (n+1)<=u)) s).1=true):bF C u (k+1) n s=bF C u k (n+1) (C.flat (decide ((2:Int) ^ (n+1)<=u)) s).2:=if_pos h
theorem vz {C:kC X.σ} {u:Int} {k n:Nat} {s:X.σ} (h:(C.flat (decide ((2:Int) ^ (n+1)<=u)) s).1=false):bF C u (k+1) n s=(n,(C.flat (decide ((2:Int) ^ (n+1)<=u)) s).2):=if_neg (by rw [h];simp)
theorem Ct {p:Prop} (h:p:=by
 refine (HB.out _ ?_ _ ?_).mono ?_
 ·first | rfl | exact bG _ _ | exact aY _ _ | (simp;done) | (simp;omega)
 ·first | rfl | omega
 rintro e w2 ⟨rfl,F2,NK,Nl⟩;have Po:=lh NK;have Qi:=lh (Hg.out.trans Nl);clear NK Nl HB;go_wp2_with fail;exact ⟨⟨c+1,F2,_,by have:=Oq.out;omega,Mm,Po,Qi,lh (by rw [Wq.out.2,Pm.out];exact (pP X Hb.out).symm),lh (X.ok_le Tc.out Mf)⟩,by simp [intOf];have:=Oq.out;omega⟩):p:=h
theorem DX {F:List Nat} {w:World} {s:X.σ} {n:Nat} (h:X.At F w s) {v:Int} (hv:0<=v/\v<=3) (ok:X.Ok n s) (hn:n<=800000000) :
  Calls Tryz.prog 78 #[X.val,v] w (uK X F w (((kx X.C v s).1:Int),(kx X.C v s).2)):=by
 refine aN fun Q MM=>?_
 have HK:=lh h;have Nc:=lh ok;have mb:=X.mB;have mf:=X.mF;have eb:=X.eB;have ef:=X.eF;clear h ok;go_enter Tryz.func78,Tryz.ntmps78;go_wp2_with fail;go_at_call 142;refine (oO _ _ _ _).mono ?_;rintro e w1 ⟨rfl,rfl⟩;rw [show min (max v (0)) 3=v by omega];go_wp2_with fail;go_loopw [5] (fun i wr=>∃ (c:Nat) (Fc:List Nat) (sc:X.σ),c<=3/\i=.int .i64 c/\Hid (X.At Fc wr sc)/\Hid (bw F w Fc wr)/\Hid (aW X.C (fun n=>min n 63) v (3-c) c sc=aW X.C (fun n=>min n 63) v 3 0 s)/\Hid (X.Ok (n+2*c) sc)) (fun i _=>3-(intOf i).toNat)
 case atStart=>exact ⟨0,_,_,Mf,rfl,HK,lh (bw.refl _ _),lh rfl,Nc⟩
 case round =>
  obtain ⟨c,Fc,sc,hc,rfl,Hk,Hg,He,Ho⟩:=hrel;by_cases MO:c<3
  ·have Py:(c:Int)<3:=Mf
   have Vq:(0:Int)<=(c:Int):=Mf;have Qa:(fun n=>min n 63) c<64:=by show min c 63<64;omega
   have HB:=lh (fun (b:Bool) (hb:b=decide ((c:Int)<v)) (y:Int) (hy:y=((min c 63:Nat):Int))=>(by subst hb;subst hy;exact X.bit ((fun n=>min n 63) c) _ Hk.out Ho.out Mf Qa:Calls Tryz.prog X.fb #[.pointer (some ⟨X.R,0,none⟩),y,.bool b] wr _));have Tc:=lh (X.ok_bit ((fun n=>min n 63) c) (decide ((c:Int)<v)) Ho.out Qa);obtain ⟨k3,Qd⟩:∃ k3,3-c=k3+1:=⟨3-c-1,Mf⟩
   have Qe:3-(c+1)=k3:=Mf;have Wq:=lh (And.intro Qd Qe);have Oq:=lh MO;clear Qd Qe Qa;have Pm:Hid (aW X.C (fun n=>min n 63) v 3 0 s=aW X.C (fun n=>min n 63) v (k3+1) c sc):=lh (by rw [<- Wq.out.1,He.out]);cases hb:(X.C.bit ((fun n=>min n 63) c) (decide ((c:Int)<v)) sc).1 with
   | true =>
    rw [hb] at HB;have Hb:=lh hb;clear hb;go_wp2_with fail;exact Ct
   | false =>
    rw [hb] at HB;have Hb:=lh hb;clear hb;go_wp2_with fail;refine (HB.out _ ?_ _ ?_).mono ?_
    ·first | rfl | exact bG _ _ | exact aY _ _ | (simp;done) | (simp;omega)
    ·first | rfl | omega
    rintro e w2 ⟨rfl,F2,NK,Nl⟩;have Po:=lh NK;have Qi:=lh (Hg.out.trans Nl);clear NK Nl HB;have Rs:Hid (aW X.C (fun n=>min n 63) v 3 0 s=(c,(X.C.bit ((fun n=>min n 63) c) (decide ((c:Int)<v)) sc).2)):=lh (Pm.out.trans (kY X Hb.out));go_wp2_with fail;refine MM.out _ _ ?_;unfold kx;rw [Rs.out];exact ⟨rfl,F2,Po.out,Qi.out⟩
  ·obtain rfl:c=3:=Mf
   have Py:¬ ((3:Nat):Int)<3:=Mf;have Rs:Hid (aW X.C (fun n=>min n 63) v 3 0 s=(3,sc)):=lh (He.out.symm.trans rfl);go_wp2_with fail;refine MM.out _ _ ?_;unfold kx;rw [Rs.out];exact ⟨rfl,Fc,Hk.out,Hg.out⟩
theorem qy {p:Prop} (h:p:=by
 go_wp2_with fail;refine (PU.out _ _ HK.out _ ?_).mono ?_
 ·first | rfl | exact bG _ _ | exact aY _ _ | (simp;done) | (simp [Hm2.out];done) | (simp;omega)
 rintro e w1 ⟨rfl,F1,Pr,OL⟩;have Zk:=lh Pr;have Hg1:=lh (OL);clear Pr OL;go_wp2_with fail;refine (Oj.out _ _ Zk.out _ ?_).mono ?_
 ·first | rfl | exact bG _ _ | exact aY _ _ | (simp;done) | (simp [Hm2.out];done) | (simp;omega)
 rintro e w2 ⟨rfl,F2,NK,Nl⟩;have Po:=lh NK;have Qi:=lh (Hg1.out.trans Nl);clear NK Nl;go_wp2_with fail;refine MM.out _ _ ?_;rw [HM.out];exact ⟨rfl,F2,Po.out,Qi.out⟩):p:=h
theorem ug {F:List Nat} {w:World} {s:X.σ} {n:Nat} (h:X.At F w s) {v:Int} (hv:0<=v/\v<=3) (ok:X.Ok n s) (hn:n<=800000000) :
  Calls Tryz.prog 143 #[X.val,v] w (uK X F w (((bN X.C v s).1:Int),(bN X.C v s).2)):=by
 refine aN fun Q MM=>?_
 have HK:=lh h;have Nc:=lh ok;have mb:=X.mB;have mf:=X.mF;have eb:=X.eB;have ef:=X.eF;clear h ok;go_enter Tryz.func143,Tryz.ntmps143;go_wp2_with fail;go_at_call 142;refine (oO _ _ _ _).mono ?_;rintro e w1 ⟨rfl,rfl⟩;rw [show min (max v (0)) 3=v by omega];have HP:Hid (bN X.C v s=kg X.C v s):=lh (by show kg X.C (min (max v 0) 3) s=_;rw [show min (max v 0) 3=v by omega]);rw [HP.out] at MM;clear HP;have hm0:=hv;obtain ⟨m,hm⟩:∃ m,m=v:=⟨_,rfl⟩
 subst hm;have hm2:m.tmod 2=m % 2:=LX hm0.1;have Hm2:=lh hm2;have TR:=X.ok_bit 3 (decide (1<m)) Nc.out Mf;have PU:=lh (fun (wx:World) (Fx:List Nat) (hx:X.At Fx wx s) (b:Bool) (hb:b=decide (1<m))=>(by subst hb;exact X.bit 3 _ hx Nc.out Mf Mf:Calls Tryz.prog X.fb #[.pointer (some ⟨X.R,0,none⟩),.int .i64 3,.bool b] wx _));have HM:Hid (kg X.C m s=if (X.C.bit 3 (decide (1<m)) s).1 then (if (X.C.bit 5 (decide (m % 2=1)) (X.C.bit 3 (decide (1<m)) s).2).1 then 3 else 2,(X.C.bit 5 (decide (m % 2=1)) (X.C.bit 3 (decide (1<m)) s).2).2) else (if (X.C.bit 4 (decide (m % 2=1)) (X.C.bit 3 (decide (1<m)) s).2).1 then 1 else 0,(X.C.bit 4 (decide (m % 2=1)) (X.C.bit 3 (decide (1<m)) s).2).2)):=lh rfl;generalize X.C.bit 3 (decide (1<m)) s=b1 at *
 obtain ⟨t1,s1⟩:=b1;simp only at TR PU HM;have Td:=lh TR;clear TR;cases t1 with
 | true =>
  have TS:=X.ok_bit 5 (decide (m % 2=1)) Td.out Mf;have Oj:=lh (fun (wx:World) (Fx:List Nat) (hx:X.At Fx wx s1) (b:Bool) (hb:b=decide (m % 2=1))=>(by subst hb;exact X.bit 5 _ hx Td.out Mf Mf:Calls Tryz.prog X.fb #[.pointer (some ⟨X.R,0,none⟩),.int .i64 5,.bool b] wx _));generalize X.C.bit 5 (decide (m % 2=1)) s1=b2 at *
  obtain ⟨t2,s2⟩:=b2;simp only at Oj HM;clear TS;cases t2 with
  | true =>
   exact qy
  | false =>
   exact qy
 | false =>
  have TS:=X.ok_bit 4 (decide (m % 2=1)) Td.out Mf;have Oj:=lh (fun (wx:World) (Fx:List Nat) (hx:X.At Fx wx s1) (b:Bool) (hb:b=decide (m % 2=1))=>(by subst hb;exact X.bit 4 _ hx Td.out Mf Mf:Calls Tryz.prog X.fb #[.pointer (some ⟨X.R,0,none⟩),.int .i64 4,.bool b] wx _));generalize X.C.bit 4 (decide (m % 2=1)) s1=b2 at *
  obtain ⟨t2,s2⟩:=b2;simp only at Oj HM;clear TS;cases t2 with
  | true =>
   exact qy
  | false =>
   exact qy
theorem uj {F:List Nat} {w:World} {s:X.σ} {n:Nat} (h:X.At F w s) {v:Int} (hv:-15<=v/\v<=15) (ok:X.Ok n s) (hn:n<=800000000) :
  Calls Tryz.prog 145 #[X.val,v] w (uK X F w ((bR X.C v s).1,(bR X.C v s).2)):=by
 refine aN fun Q MM=>?_
 have HK:=lh h;have Nc:=lh ok;have mb:=X.mB;have mf:=X.mF;have eb:=X.eB;have ef:=X.eF;clear h ok;go_enter Tryz.func145,Tryz.ntmps145;go_wp2_with fail;go_at_call 142;refine (oO _ _ _ _).mono ?_;rintro e w1 ⟨rfl,rfl⟩;rw [show min (max v (-15)) 15=v by omega];have HP:Hid (bR X.C v s=fY X.C v s):=lh (by show fY X.C (min (max v (-15)) 15) s=_;rw [show min (max v (-15)) 15=v by omega]);rw [HP.out] at MM;clear HP;have hm0:=hv;obtain ⟨m,hm⟩:∃ m,m=v:=⟨_,rfl⟩
 subst hm;have TR:=X.ok_bit 6 (decide (m≠0)) Nc.out Mf;have PU:=lh (fun (wx:World) (Fx:List Nat) (hx:X.At Fx wx s) (b:Bool) (hb:b=decide (m≠0))=>(by subst hb;exact X.bit 6 _ hx Nc.out Mf Mf:Calls Tryz.prog X.fb #[.pointer (some ⟨X.R,0,none⟩),.int .i64 6,.bool b] wx _));have HM:Hid (fY X.C m s=if (X.C.bit 6 (decide (m≠0)) s).1 then fZ X.C m (X.C.flat (decide (m<0)) (X.C.bit 6 (decide (m≠0)) s).2).1 (X.C.flat (decide (m<0)) (X.C.bit 6 (decide (m≠0)) s).2).2 else (0,(X.C.bit 6 (decide (m≠0)) s).2)):=lh rfl;generalize X.C.bit 6 (decide (m≠0)) s=b1 at *
 obtain ⟨t1,s1⟩:=b1;simp only at TR PU HM;have Td:=lh TR;clear TR;cases t1 with
 | false =>
  go_wp2_with fail;refine (PU.out _ _ HK.out _ ?_).mono ?_
  ·first | rfl | exact bG _ _ | exact aY _ _ | (simp;done) | (simp;omega)
  rintro e w1 ⟨rfl,F1,Pr,OL⟩;have Zk:=lh Pr;have Hg1:=lh (OL);clear Pr OL;go_wp2_with fail;refine MM.out _ _ ?_;rw [HM.out];exact ⟨rfl,F1,Zk.out,Hg1.out⟩
 | true =>
  have TS:=X.ok_flat (decide (m<0)) Td.out;have Oj:=lh (fun (wx:World) (Fx:List Nat) (hx:X.At Fx wx s1) (b:Bool) (hb:b=decide (m<0))=>(by subst hb;exact X.flat _ hx Td.out Mf:Calls Tryz.prog X.ff #[.pointer (some ⟨X.R,0,none⟩),.bool b] wx _));generalize X.C.flat (decide (m<0)) s1=b2 at *
  obtain ⟨t2,s2⟩:=b2;simp only at TS Oj HM;have Ok2:=lh TS;clear TS;go_wp2_with fail;refine (PU.out _ _ HK.out _ ?_).mono ?_
  ·first | rfl | exact bG _ _ | exact aY _ _ | (simp;done) | (simp;omega)
  rintro e w1 ⟨rfl,F1,Pr,OL⟩;have Zk:=lh Pr;have Hg1:=lh (OL);clear Pr OL;go_wp2_with fail;refine (Oj.out _ _ Zk.out _ ?_).mono ?_
  ·first | rfl | exact bG _ _ | exact aY _ _ | (simp;done) | (simp;omega)
  rintro e w2 ⟨rfl,F2,NK,Nl⟩;have Po:=lh NK;have Qi:=lh (Hg1.out.trans Nl);clear NK Nl;go_upto_region 5 with (fail)
  go_cut [6,7] (fun s6 s7 wx=>s6=.int .i64 (max m (-m)-1)/\s7=.int .i64 0/\w2=wx)
  case first =>
   go_wp2_with fail
   all_goals (go_meet;exact ⟨by congr 1;omega,rfl,rfl⟩)
  case rest =>
   obtain ⟨rfl,rfl,rfl⟩:=hcut;have ZY:=Qi;have HV:Hid (fZ X.C m t2 s2=(dG t2 (aW X.C (fun n=>7+min n 6) (max m (-m)-1) 14 0 s2).1,(aW X.C (fun n=>7+min n 6) (max m (-m)-1) 14 0 s2).2)):=lh rfl;generalize max m (-m)-1=vv at *
   go_wp2_with fail;go_loopw [7] (fun i wr=>∃ (c:Nat) (Fc:List Nat) (sc:X.σ),c<=14/\i=.int .i64 c/\Hid (X.At Fc wr sc)/\Hid (bw F2 w2 Fc wr)/\Hid (aW X.C (fun n=>7+min n 6) vv (14-c) c sc=aW X.C (fun n=>7+min n 6) vv 14 0 s2)/\Hid (X.Ok ((n+2+2)+2*c) sc)) (fun i _=>14-(intOf i).toNat)
   case atStart=>exact ⟨0,_,_,Mf,rfl,Po,lh (bw.refl _ _),lh rfl,Ok2⟩
   case round =>
    obtain ⟨c,Fc,sc,hc,rfl,Hk,Hg,He,Ho⟩:=hrel;by_cases MO:c<14
    ·have Py:(c:Int)<14:=Mf
     have Vq:(0:Int)<=(c:Int):=Mf;have Qa:(fun n=>7+min n 6) c<64:=by show 7+min c 6<64;omega
     have HB:=lh (fun (b:Bool) (hb:b=decide ((c:Int)<vv)) (y:Int) (hy:y=((7+min c 6:Nat):Int))=>(by subst hb;subst hy;exact X.bit ((fun n=>7+min n 6) c) _ Hk.out Ho.out Mf Qa:Calls Tryz.prog X.fb #[.pointer (some ⟨X.R,0,none⟩),y,.bool b] wr _));have Tc:=lh (X.ok_bit ((fun n=>7+min n 6) c) (decide ((c:Int)<vv)) Ho.out Qa);obtain ⟨k3,Qd⟩:∃ k3,14-c=k3+1:=⟨14-c-1,Mf⟩
     have Qe:14-(c+1)=k3:=Mf;have Wq:=lh (And.intro Qd Qe);have Oq:=lh MO;clear Qd Qe Qa;have Pm:Hid (aW X.C (fun n=>7+min n 6) vv 14 0 s2=aW X.C (fun n=>7+min n 6) vv (k3+1) c sc):=lh (by rw [<- Wq.out.1,He.out]);cases hb:(X.C.bit ((fun n=>7+min n 6) c) (decide ((c:Int)<vv)) sc).1 with
     | true =>
      rw [hb] at HB;have Hb:=lh hb;clear hb;go_wp2_with fail
      all_goals
       exact Ct
     | false =>
      rw [hb] at HB;have Hb:=lh hb;clear hb;go_wp2_with fail
      all_goals
       refine (HB.out _ ?_ _ ?_).mono ?_
       ·first | rfl | exact bG _ _ | exact aY _ _ | (simp;done) | (simp;omega)
       ·first | rfl | omega
       rintro e w2 ⟨rfl,F2,NK,Nl⟩;have Po:=lh NK;have Qi:=lh (Hg.out.trans Nl);clear NK Nl HB;have Rs:Hid (aW X.C (fun n=>7+min n 6) vv 14 0 s2=(c,(X.C.bit ((fun n=>7+min n 6) c) (decide ((c:Int)<vv)) sc).2)):=lh (Pm.out.trans (kY X Hb.out));have HR:Hid (fY X.C m s=(dG t2 c,(X.C.bit ((fun n=>7+min n 6) c) (decide ((c:Int)<vv)) sc).2)):=lh (by rw [HM.out];show fZ X.C m t2 s2=_;rw [HV.out,Rs.out]);clear HM;cases t2 with
       | true =>
        go_wp2_with fail;refine MM.out _ _ ?_;rw [HR.out];exact ⟨rfl,F2,Po.out,(ZY.out.trans Qi.out)⟩
       | false =>
        go_wp2_with fail;refine MM.out _ _ ?_;rw [HR.out];exact ⟨rfl,F2,Po.out,(ZY.out.trans Qi.out)⟩
    ·obtain rfl:c=14:=Mf
     have Py:¬ ((14:Nat):Int)<14:=Mf;have Rs:Hid (aW X.C (fun n=>7+min n 6) vv 14 0 s2=(14,sc)):=lh (He.out.symm.trans rfl);have HR:Hid (fY X.C m s=(dG t2 14,sc)):=lh (by rw [HM.out];show fZ X.C m t2 s2=_;rw [HV.out,Rs.out]);clear HM;cases t2 with
     | true =>
      go_wp2_with fail;refine MM.out _ _ ?_;rw [HR.out];exact ⟨rfl,Fc,Hk.out,(ZY.out.trans Hg.out)⟩
     | false =>
      go_wp2_with fail;refine MM.out _ _ ?_;rw [HR.out];exact ⟨rfl,Fc,Hk.out,(ZY.out.trans Hg.out)⟩
end
section
variable (X:PC)
theorem yg {p:Prop} (h:p:=by
 rw [hb] at HB Ws;clear hb;go_wp2_with fail
 go_region_with (first
  | (refine (HB.out _ (ae.refl _ _).drew _ ?_).mono ?_;(first | rfl | (rw [show IntKind.i64.wrap (2*(2:Int) ^ c)=(2:Int) ^ (c+1) from by rw [Ll];have:=Hsh.out;rw [Int.pow_succ] at this |-;omega]) | (rw [bJ];exact aY _ _) | (simp;done) | (simp;omega));rintro e w5 ⟨rfl,F5,NK,Nl⟩;have Po:=lh NK;have Qi:=lh ((Hgd.out.q (ae.refl [] _).drew).trans Nl);clear NK Nl)
  | fail)
 all_goals
  go_wp2_with fail;exact ⟨⟨j,2*gn+1,F5,_,by have:=Hj.out;omega,Mm,Mm,Po,Qi,lh (by rw [<- Hed.out,Ws.out];rfl),lh (X.ok_le Tc.out (by have:=Hj.out;omega))⟩,by simp [intOf];try omega⟩):p:=h
theorem yh {p:Prop} (h:p:=by
 rw [hb] at HB Ws;clear hb;go_wp2_with fail
 go_region_with (first
  | (refine (HB.out _ (ae.refl _ _).drew _ ?_).mono ?_;(first | rfl | (rw [show IntKind.i64.wrap (2*(2:Int) ^ c)=(2:Int) ^ (c+1) from by rw [Ll];have:=Hsh.out;rw [Int.pow_succ] at this |-;omega]) | (rw [bJ];exact aY _ _) | (simp;done) | (simp;omega));rintro e w5 ⟨rfl,F5,NK,Nl⟩;have Po:=lh NK;have Qi:=lh ((Hgd.out.q (ae.refl [] _).drew).trans Nl);clear NK Nl)
  | fail)
 all_goals
  go_wp2_with fail;exact ⟨⟨j,2*gn,F5,_,by have:=Hj.out;omega,Mm,Mm,Po,Qi,lh (by rw [<- Hed.out,Ws.out];rfl),lh (X.ok_le Tc.out (by have:=Hj.out;omega))⟩,by simp [intOf];try omega⟩):p:=h
theorem yi {p:Prop} (h:p:=by
 have Xc:¬ (0:Int)<=((0:Nat):Int)-1:=Mf;have hgs:=Hgn.out;rw [Nat.pow_zero,Nat.mul_one] at hgs;have Jdh:Hid (cw X.C u s=(gn,sd)):=lh (HT.out.trans Hed.out.symm);go_wp2_with fail;refine MM.out _ _ ?_;rw [Jdh.out];exact ⟨rfl,Fd,Hkd.out,Hgd.out⟩):p:=h
theorem Ag {F:List Nat} {w:World} {s:X.σ} {n:Nat} (h:X.At F w s) (u:Int) (hu:-100000<=u/\u<=100000) (ok:X.Ok n s) (hn:n<=800000000) :
  Calls Tryz.prog 225 #[X.val,u] w (uK X F w (((cw X.C u s).1:Int),(cw X.C u s).2)):=by
 refine aN fun Q MM=>?_
 have HK:=lh h;have Nc:=lh ok;have mf:=X.mF;have ef:=X.eF;have nf:=X.nF;clear h ok;go_enter Tryz.func225,Tryz.ntmps225;go_wp2_with fail;go_loopw [5] (fun i wr=>∃ (c:Nat) (Fc:List Nat) (sc:X.σ),c<=13/\i=.int .i64 c/\Hid (X.At Fc wr sc)/\Hid (bw F w Fc wr)/\Hid (bF X.C u (13-c) c sc=bF X.C u 13 0 s)/\Hid (X.Ok (n+2*c) sc)) (fun i _=>13-(intOf i).toNat)
 case atStart=>exact ⟨0,_,_,Mf,rfl,HK,lh (bw.refl _ _),lh rfl,Nc⟩
 case round =>
  obtain ⟨c,Fc,sc,hc,rfl,Hk,Hg,He,Ho⟩:=hrel;by_cases MO:c<13
  ·have Py:(c:Int)<13:=Mf
   have Vq:(0:Int)<=(c:Int):=Mf;have Uv:(2:Int) ^ (c+1)<=8192/\(0:Int)<=(2:Int) ^ (c+1):=Bw Mf;have Hsh:=lh Uv;clear Uv;have HB:=lh (fun (w':World) (o:ae [] wr w') (b:Bool) (hb:b=decide ((2:Int) ^ (c+1)<=u))=>(by subst hb;exact X.flat _ (X.quiet Hk.out o) Ho.out Mf:Calls Tryz.prog X.ff #[.pointer (some ⟨X.R,0,none⟩),.bool b] w' _));have Tc:=lh (X.ok_flat (decide ((2:Int) ^ (c+1)<=u)) Ho.out);obtain ⟨k3,Qd⟩:∃ k3,13-c=k3+1:=⟨13-c-1,Mf⟩
   have Qe:13-(c+1)=k3:=Mf;have Wq:=lh (And.intro Qd Qe);have Oq:=lh MO;clear Qd Qe;have Pm:Hid (bF X.C u 13 0 s=bF X.C u (k3+1) c sc):=lh (by rw [<- Wq.out.1,He.out]);cases hb:(X.C.flat (decide ((2:Int) ^ (c+1)<=u)) sc).1 with
   | true =>
    rw [hb] at HB;have Hb:=lh hb;clear hb;go_wp2_with fail
    go_region_with (first
     | (refine (HB.out _ (ae.refl _ _).drew _ ?_).mono ?_;(first | rfl | (rw [show IntKind.i64.wrap (2*(2:Int) ^ c)=(2:Int) ^ (c+1) from by rw [Ll];have:=Hsh.out;rw [Int.pow_succ] at this |-;omega]) | (rw [bJ];exact aY _ _) | (simp;done) | (simp;omega));rintro e w3 ⟨rfl,F3,NK,Nl⟩;have Po:=lh NK;have Qi:=lh ((Hg.out.q (ae.refl [] _).drew).trans Nl);clear NK Nl)
     | fail)
    all_goals
     go_wp2_with fail;exact ⟨⟨c+1,F3,_,by have:=Oq.out;omega,Mm,Po,Qi,lh (by rw [Wq.out.2,Pm.out];exact (vw X Hb.out).symm),lh (X.ok_le Tc.out Mf)⟩,by simp [intOf];have:=Oq.out;omega⟩
   | false =>
    rw [hb] at HB;have Hb:=lh hb;clear hb;go_wp2_with fail
    go_region_with (first
     | (refine (HB.out _ (ae.refl _ _).drew _ ?_).mono ?_;(first | rfl | (rw [show IntKind.i64.wrap (2*(2:Int) ^ c)=(2:Int) ^ (c+1) from by rw [Ll];have:=Hsh.out;rw [Int.pow_succ] at this |-;omega]) | (rw [bJ];exact aY _ _) | (simp;done) | (simp;omega));rintro e w3 ⟨rfl,F3,NK,Nl⟩;have Po:=lh NK;have Qi:=lh ((Hg.out.q (ae.refl [] _).drew).trans Nl);clear NK Nl)
     | fail)
    all_goals
     clear HB;have Rs:Hid (bF X.C u 13 0 s=(c,(X.C.flat (decide ((2:Int) ^ (c+1)<=u)) sc).2)):=lh (Pm.out.trans (vz X Hb.out));obtain ⟨s3,Uc⟩:∃ x,x=(X.C.flat (decide ((2:Int) ^ (c+1)<=u)) sc).2:=⟨_,rfl⟩
     have HkC:Hid (X.At F3 _ s3):=lh (by rw [Uc];exact Po.out);have HoC:Hid (X.Ok (n+26) s3):=lh (by rw [Uc];exact (X.ok_le Tc.out Mf));rw [<- Uc] at Rs;have HT:Hid (cw X.C u s=ck X.C u c 1 s3):=lh (by unfold cw;rw [Rs.out]);obtain ⟨z,hz⟩:∃ z:Nat,z=c:=⟨_,rfl⟩
     rw [<- hz] at HT;have Tp:z<=13:=Mf;have hzb:=gI X u z 1 HoC.out;have HZb:=lh (show (ck X.C u z 1 s3).1<16384 by have:=hzb.2.2;have h2:2 ^ z<=2 ^ 13:=Nat.pow_le_pow_right Mf Tp;omega);clear hzb Uc;go_wp2_with fail;go_loopw [6,7] (fun g i wr=>∃ (j gn:Nat) (Fc:List Nat) (sc:X.σ),j<=z/\i=.int .i64 ((j:Int)-1)/\g=.int .i64 gn/\Hid (X.At Fc wr sc)/\Hid (bw F w Fc wr)/\Hid (ck X.C u j gn sc=ck X.C u z 1 s3)/\Hid (X.Ok (n+26+2*(z-j)) sc)) (fun _ i _=>(intOf i+1).toNat)
     case atStart=>exact ⟨z,1,_,s3,Lm _,by first | rfl | (rw [hz];go_num) | (subst hz;go_num) | (subst hz;rfl),rfl,HkC,Qi,lh rfl,lh (X.ok_le HoC.out Mf)⟩
     case round =>
      obtain ⟨j,gn,Fd,sd,hj,rfl,rfl,Hkd,Hgd,Hed,Hod⟩:=hrel;have UY:=(gI X u j gn Hod.out).2.1;rw [Hed.out] at UY;have Hgn:=lh (LO UY HZb.out);clear UY;cases j with
      | zero =>
       exact yi
      | succ j =>
       have WB:((j+1:Nat):Int)-1=(j:Int):=Mf;rw [WB];have hjn:(0:Int)<=(j:Int):=Mf;have Jke:(j:Int)<13:=Mf;have hgs:gn<8192:=by have:=Hgn.out;rw [Nat.pow_succ] at this;have h1:1<=2 ^ j:=Nat.one_le_two_pow;have:=Nat.mul_le_mul_left gn (show 2<=2 ^ j*2 by omega);omega
       have HB:=lh (fun (w':World) (o:ae [] wr w') (b:Bool) (hb:b=decide (u / (2:Int) ^ j % 2=1))=>(by subst hb;exact X.flat _ (X.quiet Hkd.out o) Hod.out Mf:Calls Tryz.prog X.ff #[.pointer (some ⟨X.R,0,none⟩),.bool b] w' _));have Tc:=lh (X.ok_flat (decide (u / (2:Int) ^ j % 2=1)) Hod.out);have Ws:Hid (ck X.C u (j+1) gn sd=ck X.C u j (if (X.C.flat (decide (u / (2:Int) ^ j % 2=1)) sd).1 then 2*gn+1 else 2*gn) (X.C.flat (decide (u / (2:Int) ^ j % 2=1)) sd).2):=lh rfl;have Hgs:=lh hgs;have Hj:=lh hj;clear WB hj;cases hb:(X.C.flat (decide (u / (2:Int) ^ j % 2=1)) sd).1 with
       | true =>
        exact yg
       | false =>
        exact yh
  ·obtain rfl:c=13:=Mf
   have Py:¬ ((13:Nat):Int)<13:=Mf;have Rs:Hid (bF X.C u 13 0 s=(13,sc)):=lh (He.out.symm.trans rfl);have Zk:=lh (X.quiet Hk.out (ae.refl [] _).drew);have Hg1:=lh (Hg.out.q (ae.refl [] _).drew);have hdf:decide (((13:Nat):Int)<13)=false:=decide_eq_false Py;clear He Hk Hg;go_wp2_with fail;refine wp_region_held_drew (S:=(fun _=>True)) Mh ?_ (fun hHeld=>?_)
   ·trivial
   refine tk 0 8 ?_;refine tk 1 9 ?_;refine tk 2 10 ?_;refine tkn 3 11 ?_;refine tkn 4 12 ?_;refine tkn 5 13 ?_;refine tkn 6 14 ?_;refine tkn 7 15 ?_;refine tkn 8 16 ?_;refine tkn 9 17 ?_;refine tkn 10 18 ?_;refine tkn 11 19 ?_;refine tk 12 20 ?_;refine wpAnyH_done Mh ?_ _;obtain ⟨s3,Uc⟩:∃ x,x=sc:=⟨_,rfl⟩
   have HkC:Hid (X.At Fc _ s3):=lh (by rw [Uc];exact Zk.out);have HoC:Hid (X.Ok (n+26) s3):=lh (by rw [Uc];exact (X.ok_le Ho.out Mf));rw [<- Uc] at Rs;have HT:Hid (cw X.C u s=ck X.C u 13 1 s3):=lh (by unfold cw;rw [Rs.out]);obtain ⟨z,hz⟩:∃ z:Nat,z=13:=⟨_,rfl⟩
   rw [<- hz] at HT;have Tp:z<=13:=Mf;have hzb:=gI X u z 1 HoC.out;have HZb:=lh (show (ck X.C u z 1 s3).1<16384 by have:=hzb.2.2;have h2:2 ^ z<=2 ^ 13:=Nat.pow_le_pow_right Mf Tp;omega);clear hzb Uc;go_wp2_with fail;go_loopw [6,7] (fun g i wr=>∃ (j gn:Nat) (Fc:List Nat) (sc:X.σ),j<=z/\i=.int .i64 ((j:Int)-1)/\g=.int .i64 gn/\Hid (X.At Fc wr sc)/\Hid (bw F w Fc wr)/\Hid (ck X.C u j gn sc=ck X.C u z 1 s3)/\Hid (X.Ok (n+26+2*(z-j)) sc)) (fun _ i _=>(intOf i+1).toNat)
   case atStart=>exact ⟨z,1,_,s3,Lm _,by first | rfl | (rw [hz];go_num) | (subst hz;go_num) | (subst hz;rfl),rfl,HkC,Hg1,lh rfl,lh (X.ok_le HoC.out Mf)⟩
   case round =>
    obtain ⟨j,gn,Fd,sd,hj,rfl,rfl,Hkd,Hgd,Hed,Hod⟩:=hrel;have UY:=(gI X u j gn Hod.out).2.1;rw [Hed.out] at UY;have Hgn:=lh (LO UY HZb.out);clear UY;cases j with
    | zero =>
     exact yi
    | succ j =>
     have WB:((j+1:Nat):Int)-1=(j:Int):=Mf;rw [WB];have hjn:(0:Int)<=(j:Int):=Mf;have Jke:(j:Int)<13:=Mf;have hgs:gn<8192:=by have:=Hgn.out;rw [Nat.pow_succ] at this;have h1:1<=2 ^ j:=Nat.one_le_two_pow;have:=Nat.mul_le_mul_left gn (show 2<=2 ^ j*2 by omega);omega
     have HB:=lh (fun (w':World) (o:ae [] wr w') (b:Bool) (hb:b=decide (u / (2:Int) ^ j % 2=1))=>(by subst hb;exact X.flat _ (X.quiet Hkd.out o) Hod.out Mf:Calls Tryz.prog X.ff #[.pointer (some ⟨X.R,0,none⟩),.bool b] w' _));have Tc:=lh (X.ok_flat (decide (u / (2:Int) ^ j % 2=1)) Hod.out);have Ws:Hid (ck X.C u (j+1) gn sd=ck X.C u j (if (X.C.flat (decide (u / (2:Int) ^ j % 2=1)) sd).1 then 2*gn+1 else 2*gn) (X.C.flat (decide (u / (2:Int) ^ j % 2=1)) sd).2):=lh rfl;have Hgs:=lh hgs;have Hj:=lh hj;clear WB hj;cases hb:(X.C.flat (decide (u / (2:Int) ^ j % 2=1)) sd).1 with
     | true =>
      exact yg
     | false =>
      exact yh
end
end Go.Proofs.YthcafdfdglfabaaGreatDoor
