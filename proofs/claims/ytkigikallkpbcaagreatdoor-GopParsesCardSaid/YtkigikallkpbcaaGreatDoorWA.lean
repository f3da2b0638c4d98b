/- Joined texts: EPc, ENums, EGreat. Conditions: each part names its own. -/
import Derived.Test.YtkigikallkpbcaaGreatDoorT1
import Derived.Test.YtkigikallkpbcaaGreatDoorS1
import Derived.Test.YtkigikallkpbcaaGreatDoorR2
import Derived.Deep.DeepCutAuto
import Derived.Deep.RegionWith
namespace Go.Proofs.YtkigikallkpbcaaGreatDoor
open Go.RowKit
set_option linter.unusedVariables false
set_option linter.unusedSimpArgs false
set_option maxRecDepth 100000
set_option maxHeartbeats 16000000
/-- a coder of the program's, behind the interface model.Coder: a pointer to its struct in block R -/
structure PC where
 σ:Type
 C:CodO σ
 T:TypeId
 R:Nat
 fb:Nat
 ff:Nat
 base:Nat
 At:List Nat→World→σ→Prop
 Ok:Nat→σ→Prop
 mB:∀ w:World,(Go.method 419 T (.pointer (some ⟨R,0,none⟩)) "Bit").run Tryz.prog w=.ok (fb,.pointer (some ⟨R,0,none⟩)) w
 mF:∀ w:World,(Go.method 419 T (.pointer (some ⟨R,0,none⟩)) "Flat").run Tryz.prog w=.ok (ff,.pointer (some ⟨R,0,none⟩)) w
 eB:∀ (args:Array Value) (w:World),(callFunc fb args).run Tryz.prog w=.ok (.enter fb args) w
 eF:∀ (args:Array Value) (w:World),(callFunc ff args).run Tryz.prog w=.ok (.enter ff args) w
 nB:∀ w:World,(nilAhead 419 T (.pointer (some ⟨R,0,none⟩)) "Bit").run Tryz.prog w=.ok (some false) w
 nF:∀ w:World,(nilAhead 419 T (.pointer (some ⟨R,0,none⟩)) "Flat").run Tryz.prog w=.ok (some false) w
 ok_le:∀ {n k:Nat} {s:σ},Ok n s→n≤k→Ok k s
 ok_bit:∀ {n:Nat} {s:σ} (c:Nat) (b:Bool),Ok n s→c<64→Ok (n+2) (C.bit c b s).2
 ok_flat:∀ {n:Nat} {s:σ} (b:Bool),Ok n s→Ok (n+2) (C.flat b s).2
 only:∀ {F S:List Nat} {w w':World} {s:σ},At F w s→Only S w w'→(∀ g∈S,base≤g∧g∉F)→At F w' s
 lt:∀ {F:List Nat} {w:World} {s:σ},At F w s→∀ g∈F,g<w.heap.size
 base_le:∀ {F:List Nat} {w:World} {s:σ},At F w s→base≤w.heap.size
 bit:∀ {F:List Nat} {w:World} {s:σ} {n:Nat} (c:Nat) (b:Bool),At F w s→Ok n s→n≤900000000→c<64 →
  Calls Tryz.prog fb #[.pointer (some ⟨R,0,none⟩),.int .i64 c,.bool b] w fun e w'=>e=.returned (.bool (C.bit c b s).1)∧∃ F',At F' w' (C.bit c b s).2∧Went F w F' w'
 flat:∀ {F:List Nat} {w:World} {s:σ} {n:Nat} (b:Bool),At F w s→Ok n s→n≤900000000 →
  Calls Tryz.prog ff #[.pointer (some ⟨R,0,none⟩),.bool b] w fun e w'=>e=.returned (.bool (C.flat b s).1)∧∃ F',At F' w' (C.flat b s).2∧Went F w F' w'
/-- it as a model.Coder -/
abbrev PC.val (X:PC):Value:=.iface X.T (.pointer (some ⟨X.R,0,none⟩))
theorem PC.quiet (X:PC) {F:List Nat} {w w':World} {s:X.σ} (h:X.At F w s) (o:Only [] w w'):X.At F w' s:=X.only h o (by simp)
section
variable (X:PC)
/-- a number told, the coder gone on -/
def NumE (F:List Nat) (w:World) (r:Int×X.σ) (e:Ending) (w':World):Prop:=e=.returned (.int .i64 r.1)∧∃ F',X.At F' w' r.2∧Went F w F' w'
theorem ponesG_ok {f:Nat→Nat} (hf:∀ i,f i<64) (v:Int):∀ (k i:Nat) {n:Nat} {s:X.σ},X.Ok n s→X.Ok (n+2*k) (onesG X.C f v k i s).2∧i≤(onesG X.C f v k i s).1∧(onesG X.C f v k i s).1≤i+k
 | 0,i,n,s,h=>⟨h,Nat.le_refl _,Nat.le_refl _⟩
 | k+1,i,n,s,h=>by
  have a:=X.ok_bit (f i) (decide ((i:Int)<v)) h (hf i)
  unfold onesG
  split
  ·obtain ⟨x,y,z⟩:=ponesG_ok hf v k (i+1) a
   exact ⟨X.ok_le x (by omega),by omega,by omega⟩
  ·exact ⟨X.ok_le a (by omega),by simp,by simp⟩
theorem pflatsG_ok (u:Int):∀ (k i:Nat) {n:Nat} {s:X.σ},X.Ok n s→X.Ok (n+2*k) (flatsG X.C u k i s).2∧i≤(flatsG X.C u k i s).1∧(flatsG X.C u k i s).1≤i+k
 | 0,i,n,s,h=>⟨h,Nat.le_refl _,Nat.le_refl _⟩
 | k+1,i,n,s,h=>by
  have a:=X.ok_flat (decide ((2:Int) ^ (i+1)≤u)) h
  unfold flatsG
  split
  ·obtain ⟨x,y,z⟩:=pflatsG_ok u k (i+1) a
   exact ⟨X.ok_le x (by omega),by omega,by omega⟩
  ·exact ⟨X.ok_le a (by omega),by simp,by simp⟩
theorem pbitsG_ok (u:Int):∀ (k i:Nat) {n:Nat} {s:X.σ},X.Ok n s→X.Ok (n+2*k) (bitsG X.C u k i s).2∧i*2 ^ k≤(bitsG X.C u k i s).1∧(bitsG X.C u k i s).1<(i+1)*2 ^ k
 | 0,i,n,s,h=>⟨h,by simp [bitsG],by simp [bitsG]⟩
 | k+1,i,n,s,h=>by
  have a:=X.ok_flat (decide (u / (2:Int) ^ k % 2=1)) h
  unfold bitsG
  obtain ⟨x,y,z⟩:=pbitsG_ok u k (if (X.C.flat (decide (u / (2:Int) ^ k % 2=1)) s).1 then 2*i+1 else 2*i) a
  refine ⟨X.ok_le x (by omega),?_,?_⟩
  ·refine Nat.le_trans ?_ y
   rw [Nat.pow_succ]
   split <;> (generalize 2 ^ k=q;simp only [Nat.mul_comm,Nat.mul_left_comm,Nat.add_mul,Nat.mul_add];omega)
  ·refine Nat.lt_of_lt_of_le z ?_
   rw [Nat.pow_succ]
   split <;> (generalize 2 ^ k=q;simp only [Nat.mul_comm,Nat.mul_left_comm,Nat.add_mul,Nat.mul_add];omega)
theorem ponesG_step {C:CodO X.σ} {f:Nat→Nat} {v:Int} {k n:Nat} {s:X.σ} (h:(C.bit (f n) (decide ((n:Int)<v)) s).1=true):onesG C f v (k+1) n s=onesG C f v k (n+1) (C.bit (f n) (decide ((n:Int)<v)) s).2:=if_pos h
theorem ponesG_stop {C:CodO X.σ} {f:Nat→Nat} {v:Int} {k n:Nat} {s:X.σ} (h:(C.bit (f n) (decide ((n:Int)<v)) s).1=false):onesG C f v (k+1) n s=(n,(C.bit (f n) (decide ((n:Int)<v)) s).2):=if_neg (by rw [h];simp)
theorem pflatsG_step {C:CodO X.σ} {u:Int} {k n:Nat} {s:X.σ} (h:(C.flat (decide ((2:Int) ^ (n+1)≤u)) s).1=true):flatsG C u (k+1) n s=flatsG C u k (n+1) (C.flat (decide ((2:Int) ^ (n+1)≤u)) s).2:=if_pos h
theorem pflatsG_stop {C:CodO X.σ} {u:Int} {k n:Nat} {s:X.σ} (h:(C.flat (decide ((2:Int) ^ (n+1)≤u)) s).1=false):flatsG C u (k+1) n s=(n,(C.flat (decide ((2:Int) ^ (n+1)≤u)) s).2):=if_neg (by rw [h];simp)
theorem qENums1 {p:Prop} (h:p:=by
 refine (HB.out _ ?_ _ ?_).mono ?_
 ·first | rfl | exact bne_dec _ _ | exact beq_dec _ _ | (simp;done) | (simp;omega)
 ·first | rfl | omega
 rintro e w2 ⟨rfl,F2,hk2,hg2⟩
 have Hk2:=lh hk2
 have Hg2:=lh (Hg.out.trans hg2)
 clear hk2 hg2 HB
 go_wp2_with fail
 exact ⟨⟨c+1,F2,_,by have:=Hlt.out;omega,by go_num,Hk2,Hg2,lh (by rw [Hn3.out.2,Hfin.out];exact (ponesG_step X Hb.out).symm),lh (X.ok_le Hob.out (by omega))⟩,by simp [intOf];have:=Hlt.out;omega⟩):p:=h
theorem pkind_any {F:List Nat} {w:World} {s:X.σ} {n:Nat} (h:X.At F w s) {v:Int} (hv:0≤v∧v≤3) (ok:X.Ok n s) (hn:n≤800000000) :
  Calls Tryz.prog 114 #[X.val,.int .i64 v] w (NumE X F w (((kindG X.C v s).1:Int),(kindG X.C v s).2)):=by
 refine hidQ fun Q HPost=>?_
 have HK:=lh h
 have HOk:=lh ok
 have mb:=X.mB
 have mf:=X.mF
 have eb:=X.eB
 have ef:=X.eF
 clear h ok
 go_enter Tryz.func114,Tryz.ntmps114
 go_wp2_with fail
 go_at_call 139
 refine (bound_any _ _ _ _).mono ?_
 rintro e w1 ⟨rfl,rfl⟩
 rw [show min (max v (0)) 3=v by omega]
 go_wp2_with fail
 go_loopw [5] (fun i wr=>∃ (c:Nat) (Fc:List Nat) (sc:X.σ),c≤3∧i=.int .i64 c∧Hid (X.At Fc wr sc)∧Hid (Went F w Fc wr)∧Hid (onesG X.C (fun n=>min n 63) v (3-c) c sc=onesG X.C (fun n=>min n 63) v 3 0 s)∧Hid (X.Ok (n+2*c) sc)) (fun i _=>3-(intOf i).toNat)
 case atStart=>exact ⟨0,_,_,by omega,rfl,HK,lh (Went.refl _ _),lh rfl,HOk⟩
 case round =>
  obtain ⟨c,Fc,sc,hc,rfl,Hk,Hg,He,Ho⟩:=hrel
  by_cases hlt:c<3
  ·have hlti:(c:Int)<3:=by omega
   have hc0:(0:Int)≤(c:Int):=by omega
   have hctx:(fun n=>min n 63) c<64:=by show min c 63<64;omega
   have HB:=lh (fun (b:Bool) (hb:b=decide ((c:Int)<v)) (y:Int) (hy:y=((min c 63:Nat):Int))=>(by subst hb;subst hy;exact X.bit ((fun n=>min n 63) c) _ Hk.out Ho.out (by omega) hctx:Calls Tryz.prog X.fb #[.pointer (some ⟨X.R,0,none⟩),.int .i64 y,.bool b] wr _))
   have Hob:=lh (X.ok_bit ((fun n=>min n 63) c) (decide ((c:Int)<v)) Ho.out hctx)
   obtain ⟨k3,hk3⟩:∃ k3,3-c=k3+1:=⟨3-c-1,by omega⟩
   have hk3':3-(c+1)=k3:=by omega
   have Hn3:=lh (And.intro hk3 hk3')
   have Hlt:=lh hlt
   clear hk3 hk3' hctx
   have Hfin:Hid (onesG X.C (fun n=>min n 63) v 3 0 s=onesG X.C (fun n=>min n 63) v (k3+1) c sc):=lh (by rw [← Hn3.out.1,He.out])
   cases hb:(X.C.bit ((fun n=>min n 63) c) (decide ((c:Int)<v)) sc).1 with
   | true =>
    rw [hb] at HB
    have Hb:=lh hb
    clear hb
    go_wp2_with fail
    exact qENums1
   | false =>
    rw [hb] at HB
    have Hb:=lh hb
    clear hb
    go_wp2_with fail
    refine (HB.out _ ?_ _ ?_).mono ?_
    ·first | rfl | exact bne_dec _ _ | exact beq_dec _ _ | (simp;done) | (simp;omega)
    ·first | rfl | omega
    rintro e w2 ⟨rfl,F2,hk2,hg2⟩
    have Hk2:=lh hk2
    have Hg2:=lh (Hg.out.trans hg2)
    clear hk2 hg2 HB
    have Hez:Hid (onesG X.C (fun n=>min n 63) v 3 0 s=(c,(X.C.bit ((fun n=>min n 63) c) (decide ((c:Int)<v)) sc).2)):=lh (Hfin.out.trans (ponesG_stop X Hb.out))
    go_wp2_with fail
    refine HPost.out _ _ ?_
    unfold kindG
    rw [Hez.out]
    exact ⟨rfl,F2,Hk2.out,Hg2.out⟩
  ·obtain rfl:c=3:=by omega
   have hlti:¬ ((3:Nat):Int)<3:=by omega
   have Hez:Hid (onesG X.C (fun n=>min n 63) v 3 0 s=(3,sc)):=lh (He.out.symm.trans rfl)
   go_wp2_with fail
   refine HPost.out _ _ ?_
   unfold kindG
   rw [Hez.out]
   exact ⟨rfl,Fc,Hk.out,Hg.out⟩
theorem qENums0 {p:Prop} (h:p:=by
 go_wp2_with fail
 refine (HB1.out _ _ HK.out _ ?_).mono ?_
 ·first | rfl | exact bne_dec _ _ | exact beq_dec _ _ | (simp;done) | (simp [Hm2.out];done) | (simp;omega)
 rintro e w1 ⟨rfl,F1,hk1,hg1⟩
 have Hk1:=lh hk1
 have Hg1:=lh (hg1)
 clear hk1 hg1
 go_wp2_with fail
 refine (HB2.out _ _ Hk1.out _ ?_).mono ?_
 ·first | rfl | exact bne_dec _ _ | exact beq_dec _ _ | (simp;done) | (simp [Hm2.out];done) | (simp;omega)
 rintro e w2 ⟨rfl,F2,hk2,hg2⟩
 have Hk2:=lh hk2
 have Hg2:=lh (Hg1.out.trans hg2)
 clear hk2 hg2
 go_wp2_with fail
 refine HPost.out _ _ ?_
 rw [HM.out]
 exact ⟨rfl,F2,Hk2.out,Hg2.out⟩):p:=h
theorem pmode_any {F:List Nat} {w:World} {s:X.σ} {n:Nat} (h:X.At F w s) {v:Int} (hv:0≤v∧v≤3) (ok:X.Ok n s) (hn:n≤800000000) :
  Calls Tryz.prog 140 #[X.val,.int .i64 v] w (NumE X F w (((modeG X.C v s).1:Int),(modeG X.C v s).2)):=by
 refine hidQ fun Q HPost=>?_
 have HK:=lh h
 have HOk:=lh ok
 have mb:=X.mB
 have mf:=X.mF
 have eb:=X.eB
 have ef:=X.eF
 clear h ok
 go_enter Tryz.func140,Tryz.ntmps140
 go_wp2_with fail
 go_at_call 139
 refine (bound_any _ _ _ _).mono ?_
 rintro e w1 ⟨rfl,rfl⟩
 rw [show min (max v (0)) 3=v by omega]
 have HP:Hid (modeG X.C v s=modeG2 X.C v s):=lh (by show modeG2 X.C (min (max v 0) 3) s=_;rw [show min (max v 0) 3=v by omega])
 rw [HP.out] at HPost
 clear HP
 have hm0:=hv
 obtain ⟨m,hm⟩:∃ m,m=v:=⟨_,rfl⟩
 subst hm
 have hm2:m.tmod 2=m % 2:=Int.tmod_eq_emod_of_nonneg hm0.1
 have Hm2:=lh hm2
 have ok1:=X.ok_bit 3 (decide (1<m)) HOk.out (by omega)
 have HB1:=lh (fun (wx:World) (Fx:List Nat) (hx:X.At Fx wx s) (b:Bool) (hb:b=decide (1<m))=>(by subst hb;exact X.bit 3 _ hx HOk.out (by omega) (by omega):Calls Tryz.prog X.fb #[.pointer (some ⟨X.R,0,none⟩),.int .i64 3,.bool b] wx _))
 have HM:Hid (modeG2 X.C m s=if (X.C.bit 3 (decide (1<m)) s).1 then (if (X.C.bit 5 (decide (m % 2=1)) (X.C.bit 3 (decide (1<m)) s).2).1 then 3 else 2,(X.C.bit 5 (decide (m % 2=1)) (X.C.bit 3 (decide (1<m)) s).2).2) else (if (X.C.bit 4 (decide (m % 2=1)) (X.C.bit 3 (decide (1<m)) s).2).1 then 1 else 0,(X.C.bit 4 (decide (m % 2=1)) (X.C.bit 3 (decide (1<m)) s).2).2)):=lh rfl
 generalize X.C.bit 3 (decide (1<m)) s=b1 at *
 obtain ⟨t1,s1⟩:=b1
 simp only at ok1 HB1 HM
 have Ok1:=lh ok1
 clear ok1
 cases t1 with
 | true =>
  have ok2:=X.ok_bit 5 (decide (m % 2=1)) Ok1.out (by omega)
  have HB2:=lh (fun (wx:World) (Fx:List Nat) (hx:X.At Fx wx s1) (b:Bool) (hb:b=decide (m % 2=1))=>(by subst hb;exact X.bit 5 _ hx Ok1.out (by omega) (by omega):Calls Tryz.prog X.fb #[.pointer (some ⟨X.R,0,none⟩),.int .i64 5,.bool b] wx _))
  generalize X.C.bit 5 (decide (m % 2=1)) s1=b2 at *
  obtain ⟨t2,s2⟩:=b2
  simp only at HB2 HM
  clear ok2
  cases t2 with
  | true =>
   exact qENums0
  | false =>
   exact qENums0
 | false =>
  have ok2:=X.ok_bit 4 (decide (m % 2=1)) Ok1.out (by omega)
  have HB2:=lh (fun (wx:World) (Fx:List Nat) (hx:X.At Fx wx s1) (b:Bool) (hb:b=decide (m % 2=1))=>(by subst hb;exact X.bit 4 _ hx Ok1.out (by omega) (by omega):Calls Tryz.prog X.fb #[.pointer (some ⟨X.R,0,none⟩),.int .i64 4,.bool b] wx _))
  generalize X.C.bit 4 (decide (m % 2=1)) s1=b2 at *
  obtain ⟨t2,s2⟩:=b2
  simp only at HB2 HM
  clear ok2
  cases t2 with
  | true =>
   exact qENums0
  | false =>
   exact qENums0
theorem ppart_any {F:List Nat} {w:World} {s:X.σ} {n:Nat} (h:X.At F w s) {v:Int} (hv:-15≤v∧v≤15) (ok:X.Ok n s) (hn:n≤800000000) :
  Calls Tryz.prog 142 #[X.val,.int .i64 v] w (NumE X F w ((partG X.C v s).1,(partG X.C v s).2)):=by
 refine hidQ fun Q HPost=>?_
 have HK:=lh h
 have HOk:=lh ok
 have mb:=X.mB
 have mf:=X.mF
 have eb:=X.eB
 have ef:=X.eF
 clear h ok
 go_enter Tryz.func142,Tryz.ntmps142
 go_wp2_with fail
 go_at_call 139
 refine (bound_any _ _ _ _).mono ?_
 rintro e w1 ⟨rfl,rfl⟩
 rw [show min (max v (-15)) 15=v by omega]
 have HP:Hid (partG X.C v s=partG2 X.C v s):=lh (by show partG2 X.C (min (max v (-15)) 15) s=_;rw [show min (max v (-15)) 15=v by omega])
 rw [HP.out] at HPost
 clear HP
 have hm0:=hv
 obtain ⟨m,hm⟩:∃ m,m=v:=⟨_,rfl⟩
 subst hm
 have ok1:=X.ok_bit 6 (decide (m≠0)) HOk.out (by omega)
 have HB1:=lh (fun (wx:World) (Fx:List Nat) (hx:X.At Fx wx s) (b:Bool) (hb:b=decide (m≠0))=>(by subst hb;exact X.bit 6 _ hx HOk.out (by omega) (by omega):Calls Tryz.prog X.fb #[.pointer (some ⟨X.R,0,none⟩),.int .i64 6,.bool b] wx _))
 have HM:Hid (partG2 X.C m s=if (X.C.bit 6 (decide (m≠0)) s).1 then partG3 X.C m (X.C.flat (decide (m<0)) (X.C.bit 6 (decide (m≠0)) s).2).1 (X.C.flat (decide (m<0)) (X.C.bit 6 (decide (m≠0)) s).2).2 else (0,(X.C.bit 6 (decide (m≠0)) s).2)):=lh rfl
 generalize X.C.bit 6 (decide (m≠0)) s=b1 at *
 obtain ⟨t1,s1⟩:=b1
 simp only at ok1 HB1 HM
 have Ok1:=lh ok1
 clear ok1
 cases t1 with
 | false =>
  go_wp2_with fail
  refine (HB1.out _ _ HK.out _ ?_).mono ?_
  ·first | rfl | exact bne_dec _ _ | exact beq_dec _ _ | (simp;done) | (simp;omega)
  rintro e w1 ⟨rfl,F1,hk1,hg1⟩
  have Hk1:=lh hk1
  have Hg1:=lh (hg1)
  clear hk1 hg1
  go_wp2_with fail
  refine HPost.out _ _ ?_
  rw [HM.out]
  exact ⟨rfl,F1,Hk1.out,Hg1.out⟩
 | true =>
  have ok2:=X.ok_flat (decide (m<0)) Ok1.out
  have HB2:=lh (fun (wx:World) (Fx:List Nat) (hx:X.At Fx wx s1) (b:Bool) (hb:b=decide (m<0))=>(by subst hb;exact X.flat _ hx Ok1.out (by omega):Calls Tryz.prog X.ff #[.pointer (some ⟨X.R,0,none⟩),.bool b] wx _))
  generalize X.C.flat (decide (m<0)) s1=b2 at *
  obtain ⟨t2,s2⟩:=b2
  simp only at ok2 HB2 HM
  have Ok2:=lh ok2
  clear ok2
  go_wp2_with fail
  refine (HB1.out _ _ HK.out _ ?_).mono ?_
  ·first | rfl | exact bne_dec _ _ | exact beq_dec _ _ | (simp;done) | (simp;omega)
  rintro e w1 ⟨rfl,F1,hk1,hg1⟩
  have Hk1:=lh hk1
  have Hg1:=lh (hg1)
  clear hk1 hg1
  go_wp2_with fail
  refine (HB2.out _ _ Hk1.out _ ?_).mono ?_
  ·first | rfl | exact bne_dec _ _ | exact beq_dec _ _ | (simp;done) | (simp;omega)
  rintro e w2 ⟨rfl,F2,hk2,hg2⟩
  have Hk2:=lh hk2
  have Hg2:=lh (Hg1.out.trans hg2)
  clear hk2 hg2
  go_upto_region 5 with (fail)
  go_cut [6,7] (fun s6 s7 wx=>s6=.int .i64 (max m (-m)-1)∧s7=.int .i64 0∧w2=wx)
  case first =>
   go_wp2_with fail
   all_goals (go_meet;exact ⟨by congr 1;omega,rfl,rfl⟩)
  case rest =>
   obtain ⟨rfl,rfl,rfl⟩:=hcut
   have HgA:=Hg2
   have HV:Hid (partG3 X.C m t2 s2=(signD t2 (onesG X.C (fun n=>7+min n 6) (max m (-m)-1) 14 0 s2).1,(onesG X.C (fun n=>7+min n 6) (max m (-m)-1) 14 0 s2).2)):=lh rfl
   generalize max m (-m)-1=vv at *
   go_wp2_with fail
   go_loopw [7] (fun i wr=>∃ (c:Nat) (Fc:List Nat) (sc:X.σ),c≤14∧i=.int .i64 c∧Hid (X.At Fc wr sc)∧Hid (Went F2 w2 Fc wr)∧Hid (onesG X.C (fun n=>7+min n 6) vv (14-c) c sc=onesG X.C (fun n=>7+min n 6) vv 14 0 s2)∧Hid (X.Ok ((n+2+2)+2*c) sc)) (fun i _=>14-(intOf i).toNat)
   case atStart=>exact ⟨0,_,_,by omega,rfl,Hk2,lh (Went.refl _ _),lh rfl,Ok2⟩
   case round =>
    obtain ⟨c,Fc,sc,hc,rfl,Hk,Hg,He,Ho⟩:=hrel
    by_cases hlt:c<14
    ·have hlti:(c:Int)<14:=by omega
     have hc0:(0:Int)≤(c:Int):=by omega
     have hctx:(fun n=>7+min n 6) c<64:=by show 7+min c 6<64;omega
     have HB:=lh (fun (b:Bool) (hb:b=decide ((c:Int)<vv)) (y:Int) (hy:y=((7+min c 6:Nat):Int))=>(by subst hb;subst hy;exact X.bit ((fun n=>7+min n 6) c) _ Hk.out Ho.out (by omega) hctx:Calls Tryz.prog X.fb #[.pointer (some ⟨X.R,0,none⟩),.int .i64 y,.bool b] wr _))
     have Hob:=lh (X.ok_bit ((fun n=>7+min n 6) c) (decide ((c:Int)<vv)) Ho.out hctx)
     obtain ⟨k3,hk3⟩:∃ k3,14-c=k3+1:=⟨14-c-1,by omega⟩
     have hk3':14-(c+1)=k3:=by omega
     have Hn3:=lh (And.intro hk3 hk3')
     have Hlt:=lh hlt
     clear hk3 hk3' hctx
     have Hfin:Hid (onesG X.C (fun n=>7+min n 6) vv 14 0 s2=onesG X.C (fun n=>7+min n 6) vv (k3+1) c sc):=lh (by rw [← Hn3.out.1,He.out])
     cases hb:(X.C.bit ((fun n=>7+min n 6) c) (decide ((c:Int)<vv)) sc).1 with
     | true =>
      rw [hb] at HB
      have Hb:=lh hb
      clear hb
      go_wp2_with fail
      all_goals
       exact qENums1
     | false =>
      rw [hb] at HB
      have Hb:=lh hb
      clear hb
      go_wp2_with fail
      all_goals
       refine (HB.out _ ?_ _ ?_).mono ?_
       ·first | rfl | exact bne_dec _ _ | exact beq_dec _ _ | (simp;done) | (simp;omega)
       ·first | rfl | omega
       rintro e w2 ⟨rfl,F2,hk2,hg2⟩
       have Hk2:=lh hk2
       have Hg2:=lh (Hg.out.trans hg2)
       clear hk2 hg2 HB
       have Hez:Hid (onesG X.C (fun n=>7+min n 6) vv 14 0 s2=(c,(X.C.bit ((fun n=>7+min n 6) c) (decide ((c:Int)<vv)) sc).2)):=lh (Hfin.out.trans (ponesG_stop X Hb.out))
       have HR:Hid (partG2 X.C m s=(signD t2 c,(X.C.bit ((fun n=>7+min n 6) c) (decide ((c:Int)<vv)) sc).2)):=lh (by rw [HM.out];show partG3 X.C m t2 s2=_;rw [HV.out,Hez.out])
       clear HM
       cases t2 with
       | true =>
        go_wp2_with fail
        refine HPost.out _ _ ?_
        rw [HR.out]
        exact ⟨rfl,F2,Hk2.out,(HgA.out.trans Hg2.out)⟩
       | false =>
        go_wp2_with fail
        refine HPost.out _ _ ?_
        rw [HR.out]
        exact ⟨rfl,F2,Hk2.out,(HgA.out.trans Hg2.out)⟩
    ·obtain rfl:c=14:=by omega
     have hlti:¬ ((14:Nat):Int)<14:=by omega
     have Hez:Hid (onesG X.C (fun n=>7+min n 6) vv 14 0 s2=(14,sc)):=lh (He.out.symm.trans rfl)
     have HR:Hid (partG2 X.C m s=(signD t2 14,sc)):=lh (by rw [HM.out];show partG3 X.C m t2 s2=_;rw [HV.out,Hez.out])
     clear HM
     cases t2 with
     | true =>
      go_wp2_with fail
      refine HPost.out _ _ ?_
      rw [HR.out]
      exact ⟨rfl,Fc,Hk.out,(HgA.out.trans Hg.out)⟩
     | false =>
      go_wp2_with fail
      refine HPost.out _ _ ?_
      rw [HR.out]
      exact ⟨rfl,Fc,Hk.out,(HgA.out.trans Hg.out)⟩
end
section
variable (X:PC)
theorem qEGreat0 {p:Prop} (h:p:=by
 rw [hb] at HB Hst
 clear hb
 go_wp2_with fail
 go_region_with (first
  | (refine (HB.out _ (Only.refl _ _).drew _ ?_).mono ?_;(first | rfl | (rw [show IntKind.i64.wrap (2*(2:Int) ^ c)=(2:Int) ^ (c+1) from by rw [IntKind.wrap_i64];have:=Hsh.out;rw [Int.pow_succ] at this ⊢;omega]) | (rw [bits_and_one];exact beq_dec _ _) | (simp;done) | (simp;omega));rintro e w5 ⟨rfl,F5,hk2,hg2⟩;have Hk2:=lh hk2;have Hg2:=lh ((Hgd.out.q (Only.refl [] _).drew).trans hg2);clear hk2 hg2)
  | fail)
 all_goals
  go_wp2_with fail
  exact ⟨⟨j,2*gn+1,F5,_,by have:=Hj.out;omega,by go_num,by go_num,Hk2,Hg2,lh (by rw [← Hed.out,Hst.out];rfl),lh (X.ok_le Hob.out (by have:=Hj.out;omega))⟩,by simp [intOf];try omega⟩):p:=h
theorem qEGreat1 {p:Prop} (h:p:=by
 rw [hb] at HB Hst
 clear hb
 go_wp2_with fail
 go_region_with (first
  | (refine (HB.out _ (Only.refl _ _).drew _ ?_).mono ?_;(first | rfl | (rw [show IntKind.i64.wrap (2*(2:Int) ^ c)=(2:Int) ^ (c+1) from by rw [IntKind.wrap_i64];have:=Hsh.out;rw [Int.pow_succ] at this ⊢;omega]) | (rw [bits_and_one];exact beq_dec _ _) | (simp;done) | (simp;omega));rintro e w5 ⟨rfl,F5,hk2,hg2⟩;have Hk2:=lh hk2;have Hg2:=lh ((Hgd.out.q (Only.refl [] _).drew).trans hg2);clear hk2 hg2)
  | fail)
 all_goals
  go_wp2_with fail
  exact ⟨⟨j,2*gn,F5,_,by have:=Hj.out;omega,by go_num,by go_num,Hk2,Hg2,lh (by rw [← Hed.out,Hst.out];rfl),lh (X.ok_le Hob.out (by have:=Hj.out;omega))⟩,by simp [intOf];try omega⟩):p:=h
theorem qEGreat2 {p:Prop} (h:p:=by
 have hneg:¬ (0:Int)≤((0:Nat):Int)-1:=by omega
 have hgs:=Hgn.out
 rw [Nat.pow_zero,Nat.mul_one] at hgs
 have Hlast:Hid (greatG X.C u s=(gn,sd)):=lh (HT.out.trans Hed.out.symm)
 go_wp2_with fail
 refine HPost.out _ _ ?_
 rw [Hlast.out]
 exact ⟨rfl,Fd,Hkd.out,Hgd.out⟩):p:=h
theorem pgreat_any {F:List Nat} {w:World} {s:X.σ} {n:Nat} (h:X.At F w s) (u:Int) (hu:-100000≤u∧u≤100000) (ok:X.Ok n s) (hn:n≤800000000) :
  Calls Tryz.prog 179 #[X.val,.int .i64 u] w (NumE X F w (((greatG X.C u s).1:Int),(greatG X.C u s).2)):=by
 refine hidQ fun Q HPost=>?_
 have HK:=lh h
 have HOk:=lh ok
 have mf:=X.mF
 have ef:=X.eF
 have nf:=X.nF
 clear h ok
 go_enter Tryz.func179,Tryz.ntmps179
 go_wp2_with fail
 go_loopw [5] (fun i wr=>∃ (c:Nat) (Fc:List Nat) (sc:X.σ),c≤13∧i=.int .i64 c∧Hid (X.At Fc wr sc)∧Hid (Went F w Fc wr)∧Hid (flatsG X.C u (13-c) c sc=flatsG X.C u 13 0 s)∧Hid (X.Ok (n+2*c) sc)) (fun i _=>13-(intOf i).toNat)
 case atStart=>exact ⟨0,_,_,by omega,rfl,HK,lh (Went.refl _ _),lh rfl,HOk⟩
 case round =>
  obtain ⟨c,Fc,sc,hc,rfl,Hk,Hg,He,Ho⟩:=hrel
  by_cases hlt:c<13
  ·have hlti:(c:Int)<13:=by omega
   have hc0:(0:Int)≤(c:Int):=by omega
   have hsh:(2:Int) ^ (c+1)≤8192∧(0:Int)≤(2:Int) ^ (c+1):=pow2_in (by omega)
   have Hsh:=lh hsh
   clear hsh
   have HB:=lh (fun (w':World) (o:Only [] wr w') (b:Bool) (hb:b=decide ((2:Int) ^ (c+1)≤u))=>(by subst hb;exact X.flat _ (X.quiet Hk.out o) Ho.out (by omega):Calls Tryz.prog X.ff #[.pointer (some ⟨X.R,0,none⟩),.bool b] w' _))
   have Hob:=lh (X.ok_flat (decide ((2:Int) ^ (c+1)≤u)) Ho.out)
   obtain ⟨k3,hk3⟩:∃ k3,13-c=k3+1:=⟨13-c-1,by omega⟩
   have hk3':13-(c+1)=k3:=by omega
   have Hn3:=lh (And.intro hk3 hk3')
   have Hlt:=lh hlt
   clear hk3 hk3'
   have Hfin:Hid (flatsG X.C u 13 0 s=flatsG X.C u (k3+1) c sc):=lh (by rw [← Hn3.out.1,He.out])
   cases hb:(X.C.flat (decide ((2:Int) ^ (c+1)≤u)) sc).1 with
   | true =>
    rw [hb] at HB
    have Hb:=lh hb
    clear hb
    go_wp2_with fail
    go_region_with (first
     | (refine (HB.out _ (Only.refl _ _).drew _ ?_).mono ?_;(first | rfl | (rw [show IntKind.i64.wrap (2*(2:Int) ^ c)=(2:Int) ^ (c+1) from by rw [IntKind.wrap_i64];have:=Hsh.out;rw [Int.pow_succ] at this ⊢;omega]) | (rw [bits_and_one];exact beq_dec _ _) | (simp;done) | (simp;omega));rintro e w3 ⟨rfl,F3,hk2,hg2⟩;have Hk2:=lh hk2;have Hg2:=lh ((Hg.out.q (Only.refl [] _).drew).trans hg2);clear hk2 hg2)
     | fail)
    all_goals
     go_wp2_with fail
     exact ⟨⟨c+1,F3,_,by have:=Hlt.out;omega,by go_num,Hk2,Hg2,lh (by rw [Hn3.out.2,Hfin.out];exact (pflatsG_step X Hb.out).symm),lh (X.ok_le Hob.out (by omega))⟩,by simp [intOf];have:=Hlt.out;omega⟩
   | false =>
    rw [hb] at HB
    have Hb:=lh hb
    clear hb
    go_wp2_with fail
    go_region_with (first
     | (refine (HB.out _ (Only.refl _ _).drew _ ?_).mono ?_;(first | rfl | (rw [show IntKind.i64.wrap (2*(2:Int) ^ c)=(2:Int) ^ (c+1) from by rw [IntKind.wrap_i64];have:=Hsh.out;rw [Int.pow_succ] at this ⊢;omega]) | (rw [bits_and_one];exact beq_dec _ _) | (simp;done) | (simp;omega));rintro e w3 ⟨rfl,F3,hk2,hg2⟩;have Hk2:=lh hk2;have Hg2:=lh ((Hg.out.q (Only.refl [] _).drew).trans hg2);clear hk2 hg2)
     | fail)
    all_goals
     clear HB
     have Hez:Hid (flatsG X.C u 13 0 s=(c,(X.C.flat (decide ((2:Int) ^ (c+1)≤u)) sc).2)):=lh (Hfin.out.trans (pflatsG_stop X Hb.out))
     obtain ⟨s3,hs3⟩:∃ x,x=(X.C.flat (decide ((2:Int) ^ (c+1)≤u)) sc).2:=⟨_,rfl⟩
     have HkC:Hid (X.At F3 _ s3):=lh (by rw [hs3];exact Hk2.out)
     have HoC:Hid (X.Ok (n+26) s3):=lh (by rw [hs3];exact (X.ok_le Hob.out (by omega)))
     rw [← hs3] at Hez
     have HT:Hid (greatG X.C u s=bitsG X.C u c 1 s3):=lh (by unfold greatG;rw [Hez.out])
     obtain ⟨z,hz⟩:∃ z:Nat,z=c:=⟨_,rfl⟩
     rw [← hz] at HT
     have hz13:z≤13:=by omega
     have hzb:=pbitsG_ok X u z 1 HoC.out
     have HZb:=lh (show (bitsG X.C u z 1 s3).1<16384 by have:=hzb.2.2;have h2:2 ^ z≤2 ^ 13:=Nat.pow_le_pow_right (by omega) hz13;omega)
     clear hzb hs3
     go_wp2_with fail
     go_loopw [6,7] (fun g i wr=>∃ (j gn:Nat) (Fc:List Nat) (sc:X.σ),j≤z∧i=.int .i64 ((j:Int)-1)∧g=.int .i64 gn∧Hid (X.At Fc wr sc)∧Hid (Went F w Fc wr)∧Hid (bitsG X.C u j gn sc=bitsG X.C u z 1 s3)∧Hid (X.Ok (n+26+2*(z-j)) sc)) (fun _ i _=>(intOf i+1).toNat)
     case atStart=>exact ⟨z,1,_,s3,Nat.le_refl _,by first | rfl | (rw [hz];go_num) | (subst hz;go_num) | (subst hz;rfl),rfl,HkC,Hg2,lh rfl,lh (X.ok_le HoC.out (by omega))⟩
     case round =>
      obtain ⟨j,gn,Fd,sd,hj,rfl,rfl,Hkd,Hgd,Hed,Hod⟩:=hrel
      have hgn:=(pbitsG_ok X u j gn Hod.out).2.1
      rw [Hed.out] at hgn
      have Hgn:=lh (Nat.lt_of_le_of_lt hgn HZb.out)
      clear hgn
      cases j with
      | zero =>
       exact qEGreat2
      | succ j =>
       have hj0:((j+1:Nat):Int)-1=(j:Int):=by omega
       rw [hj0]
       have hjn:(0:Int)≤(j:Int):=by omega
       have hj13:(j:Int)<13:=by omega
       have hgs:gn<8192:=by have:=Hgn.out;rw [Nat.pow_succ] at this;have h1:1≤2 ^ j:=Nat.one_le_two_pow;have:=Nat.mul_le_mul_left gn (show 2≤2 ^ j*2 by omega);omega
       have HB:=lh (fun (w':World) (o:Only [] wr w') (b:Bool) (hb:b=decide (u / (2:Int) ^ j % 2=1))=>(by subst hb;exact X.flat _ (X.quiet Hkd.out o) Hod.out (by omega):Calls Tryz.prog X.ff #[.pointer (some ⟨X.R,0,none⟩),.bool b] w' _))
       have Hob:=lh (X.ok_flat (decide (u / (2:Int) ^ j % 2=1)) Hod.out)
       have Hst:Hid (bitsG X.C u (j+1) gn sd=bitsG X.C u j (if (X.C.flat (decide (u / (2:Int) ^ j % 2=1)) sd).1 then 2*gn+1 else 2*gn) (X.C.flat (decide (u / (2:Int) ^ j % 2=1)) sd).2):=lh rfl
       have Hgs:=lh hgs
       have Hj:=lh hj
       clear hj0 hj
       cases hb:(X.C.flat (decide (u / (2:Int) ^ j % 2=1)) sd).1 with
       | true =>
        exact qEGreat0
       | false =>
        exact qEGreat1
  ·obtain rfl:c=13:=by omega
   have hlti:¬ ((13:Nat):Int)<13:=by omega
   have Hez:Hid (flatsG X.C u 13 0 s=(13,sc)):=lh (He.out.symm.trans rfl)
   have Hk1:=lh (X.quiet Hk.out (Only.refl [] _).drew)
   have Hg1:=lh (Hg.out.q (Only.refl [] _).drew)
   have hdf:decide (((13:Nat):Int)<13)=false:=decide_eq_false hlti
   clear He Hk Hg
   go_wp2_with fail
   refine wp_region_held_drew (S:=(fun _=>True)) (by kernel_rfl) ?_ (fun hHeld=>?_)
   ·trivial
   refine tk 0 8 ?_
   refine tk 1 9 ?_
   refine tk 2 10 ?_
   refine tkn 3 11 ?_
   refine tkn 4 12 ?_
   refine tkn 5 13 ?_
   refine tkn 6 14 ?_
   refine tkn 7 15 ?_
   refine tkn 8 16 ?_
   refine tkn 9 17 ?_
   refine tkn 10 18 ?_
   refine tkn 11 19 ?_
   refine tk 12 20 ?_
   refine wpAnyH_done (by kernel_rfl) ?_ _
   obtain ⟨s3,hs3⟩:∃ x,x=sc:=⟨_,rfl⟩
   have HkC:Hid (X.At Fc _ s3):=lh (by rw [hs3];exact Hk1.out)
   have HoC:Hid (X.Ok (n+26) s3):=lh (by rw [hs3];exact (X.ok_le Ho.out (by omega)))
   rw [← hs3] at Hez
   have HT:Hid (greatG X.C u s=bitsG X.C u 13 1 s3):=lh (by unfold greatG;rw [Hez.out])
   obtain ⟨z,hz⟩:∃ z:Nat,z=13:=⟨_,rfl⟩
   rw [← hz] at HT
   have hz13:z≤13:=by omega
   have hzb:=pbitsG_ok X u z 1 HoC.out
   have HZb:=lh (show (bitsG X.C u z 1 s3).1<16384 by have:=hzb.2.2;have h2:2 ^ z≤2 ^ 13:=Nat.pow_le_pow_right (by omega) hz13;omega)
   clear hzb hs3
   go_wp2_with fail
   go_loopw [6,7] (fun g i wr=>∃ (j gn:Nat) (Fc:List Nat) (sc:X.σ),j≤z∧i=.int .i64 ((j:Int)-1)∧g=.int .i64 gn∧Hid (X.At Fc wr sc)∧Hid (Went F w Fc wr)∧Hid (bitsG X.C u j gn sc=bitsG X.C u z 1 s3)∧Hid (X.Ok (n+26+2*(z-j)) sc)) (fun _ i _=>(intOf i+1).toNat)
   case atStart=>exact ⟨z,1,_,s3,Nat.le_refl _,by first | rfl | (rw [hz];go_num) | (subst hz;go_num) | (subst hz;rfl),rfl,HkC,Hg1,lh rfl,lh (X.ok_le HoC.out (by omega))⟩
   case round =>
    obtain ⟨j,gn,Fd,sd,hj,rfl,rfl,Hkd,Hgd,Hed,Hod⟩:=hrel
    have hgn:=(pbitsG_ok X u j gn Hod.out).2.1
    rw [Hed.out] at hgn
    have Hgn:=lh (Nat.lt_of_le_of_lt hgn HZb.out)
    clear hgn
    cases j with
    | zero =>
     exact qEGreat2
    | succ j =>
     have hj0:((j+1:Nat):Int)-1=(j:Int):=by omega
     rw [hj0]
     have hjn:(0:Int)≤(j:Int):=by omega
     have hj13:(j:Int)<13:=by omega
     have hgs:gn<8192:=by have:=Hgn.out;rw [Nat.pow_succ] at this;have h1:1≤2 ^ j:=Nat.one_le_two_pow;have:=Nat.mul_le_mul_left gn (show 2≤2 ^ j*2 by omega);omega
     have HB:=lh (fun (w':World) (o:Only [] wr w') (b:Bool) (hb:b=decide (u / (2:Int) ^ j % 2=1))=>(by subst hb;exact X.flat _ (X.quiet Hkd.out o) Hod.out (by omega):Calls Tryz.prog X.ff #[.pointer (some ⟨X.R,0,none⟩),.bool b] w' _))
     have Hob:=lh (X.ok_flat (decide (u / (2:Int) ^ j % 2=1)) Hod.out)
     have Hst:Hid (bitsG X.C u (j+1) gn sd=bitsG X.C u j (if (X.C.flat (decide (u / (2:Int) ^ j % 2=1)) sd).1 then 2*gn+1 else 2*gn) (X.C.flat (decide (u / (2:Int) ^ j % 2=1)) sd).2):=lh rfl
     have Hgs:=lh hgs
     have Hj:=lh hj
     clear hj0 hj
     cases hb:(X.C.flat (decide (u / (2:Int) ^ j % 2=1)) sd).1 with
     | true =>
      exact qEGreat0
     | false =>
      exact qEGreat1
end
end Go.Proofs.YtkigikallkpbcaaGreatDoor
