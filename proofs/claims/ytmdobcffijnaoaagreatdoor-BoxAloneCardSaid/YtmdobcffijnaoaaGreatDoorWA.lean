/- Joined texts: EPc, ENums, EGreat. Conditions: each part names its own. -/
import Derived.Test.YtmdobcffijnaoaaGreatDoorT1
import Derived.Test.YtmdobcffijnaoaaGreatDoorS1
import Derived.Test.YtmdobcffijnaoaaGreatDoorR2
import Derived.Deep.DeepCutAuto
import Derived.Test.YtmdobcffijnaoaaGreatDoorS2
import Derived.Deep.RegionWith
namespace Go.Proofs.YtmdobcffijnaoaaGreatDoor
open Go.RowKit
set_option linter.unusedVariables false
set_option linter.unusedSimpArgs false
set_option maxRecDepth 100000
set_option maxHeartbeats 16000000
/-- a coder of the program's, behind the interface model.Coder: a pointer to its struct in block R -/
structure PC where
 σ:Type
 C:CodO σ
 T:TypeId
 R:Nat
 fb:Nat
 ff:Nat
 base:Nat
 At:List Nat→World→σ→Prop
 Ok:Nat→σ→Prop
 mB:∀ w:World,(Go.method 444 T (.pointer (some ⟨R,0,none⟩)) "Bit").run Tryz.prog w=.ok (fb,.pointer (some ⟨R,0,none⟩)) w
 mF:∀ w:World,(Go.method 444 T (.pointer (some ⟨R,0,none⟩)) "Flat").run Tryz.prog w=.ok (ff,.pointer (some ⟨R,0,none⟩)) w
 eB:∀ (args:Array Value) (w:World),(callFunc fb args).run Tryz.prog w=.ok (.enter fb args) w
 eF:∀ (args:Array Value) (w:World),(callFunc ff args).run Tryz.prog w=.ok (.enter ff args) w
 nB:∀ w:World,(nilAhead 444 T (.pointer (some ⟨R,0,none⟩)) "Bit").run Tryz.prog w=.ok (some false) w
 nF:∀ w:World,(nilAhead 444 T (.pointer (some ⟨R,0,none⟩)) "Flat").run Tryz.prog w=.ok (some false) w
 ok_le:∀ {n k:Nat} {s:σ},Ok n s→n≤k→Ok k s
 ok_bit:∀ {n:Nat} {s:σ} (c:Nat) (b:Bool),Ok n s→c<64→Ok (n+2) (C.bit c b s).2
 ok_flat:∀ {n:Nat} {s:σ} (b:Bool),Ok n s→Ok (n+2) (C.flat b s).2
 only:∀ {F S:List Nat} {w w':World} {s:σ},At F w s→Only S w w'→(∀ g∈S,base≤g∧g∉F)→At F w' s
 lt:∀ {F:List Nat} {w:World} {s:σ},At F w s→∀ g∈F,g<w.heap.size
 base_le:∀ {F:List Nat} {w:World} {s:σ},At F w s→base≤w.heap.size
 bit:∀ {F:List Nat} {w:World} {s:σ} {n:Nat} (c:Nat) (b:Bool),At F w s→Ok n s→n≤900000000→c<64 →
  Calls Tryz.prog fb #[.pointer (some ⟨R,0,none⟩),.int .i64 c,.bool b] w fun e w'=>e=.returned (.bool (C.bit c b s).1)∧∃ F',At F' w' (C.bit c b s).2∧Went F w F' w'
 flat:∀ {F:List Nat} {w:World} {s:σ} {n:Nat} (b:Bool),At F w s→Ok n s→n≤900000000 →
  Calls Tryz.prog ff #[.pointer (some ⟨R,0,none⟩),.bool b] w fun e w'=>e=.returned (.bool (C.flat b s).1)∧∃ F',At F' w' (C.flat b s).2∧Went F w F' w'
/-- it as a model.Coder -/
abbrev PC.val (X:PC):Value:=.iface X.T (.pointer (some ⟨X.R,0,none⟩))
theorem PC.quiet (X:PC) {F:List Nat} {w w':World} {s:X.σ} (h:X.At F w s) (o:Only [] w w'):X.At F w' s:=X.only h o (by simp)
section
variable (X:PC)
/-- a number told, the coder gone on -/
def NumE (F:List Nat) (w:World) (r:Int×X.σ) (e:Ending) (w':World):Prop:=e=.returned (.int .i64 r.1)∧∃ F',X.At F' w' r.2∧Went F w F' w'
theorem ponesG_ok {f:Nat→Nat} (hf:∀ i,f i<64) (v:Int):∀ (k i:Nat) {n:Nat} {s:X.σ},X.Ok n s→X.Ok (n+2*k) (onesG X.C f v k i s).2∧i≤(onesG X.C f v k i s).1∧(onesG X.C f v k i s).1≤i+k
 | 0,i,n,s,h=>⟨h,Nat.le_refl _,Nat.le_refl _⟩
 | k+1,i,n,s,h=>by
  have a:=X.ok_bit (f i) (decide ((i:Int)<v)) h (hf i)
  unfold onesG
  split
  ·obtain ⟨x,y,z⟩:=ponesG_ok hf v k (i+1) a
   exact ⟨X.ok_le x (by omega),by omega,by omega⟩
  ·exact ⟨X.ok_le a (by omega),by simp,by simp⟩
theorem pflatsG_ok (u:Int):∀ (k i:Nat) {n:Nat} {s:X.σ},X.Ok n s→X.Ok (n+2*k) (flatsG X.C u k i s).2∧i≤(flatsG X.C u k i s).1∧(flatsG X.C u k i s).1≤i+k
 | 0,i,n,s,h=>⟨h,Nat.le_refl _,Nat.le_refl _⟩
 | k+1,i,n,s,h=>by
  have a:=X.ok_flat (decide ((2:Int) ^ (i+1)≤u)) h
  unfold flatsG
  split
  ·obtain ⟨x,y,z⟩:=pflatsG_ok u k (i+1) a
   exact ⟨X.ok_le x (by omega),by omega,by omega⟩
  ·exact ⟨X.ok_le a (by omega),by simp,by simp⟩
theorem pbitsG_ok (u:Int):∀ (k i:Nat) {n:Nat} {s:X.σ},X.Ok n s→X.Ok (n+2*k) (bitsG X.C u k i s).2∧i*2 ^ k≤(bitsG X.C u k i s).1∧(bitsG X.C u k i s).1<(i+1)*2 ^ k
 | 0,i,n,s,h=>⟨h,by simp [bitsG],by simp [bitsG]⟩
 | k+1,i,n,s,h=>by
  have a:=X.ok_flat (decide (u / (2:Int) ^ k % 2=1)) h
  unfold bitsG
  obtain ⟨x,y,z⟩:=pbitsG_ok u k (if (X.C.flat (decide (u / (2:Int) ^ k % 2=1)) s).1 then 2*i+1 else 2*i) a
  refine ⟨X.ok_le x (by omega),?_,?_⟩
  ·refine Nat.le_trans ?_ y
   rw [Nat.pow_succ]
   split <;> (generalize 2 ^ k=q;simp only [Nat.mul_comm,Nat.mul_left_comm,Nat.add_mul,Nat.mul_add];omega)
  ·refine Nat.lt_of_lt_of_le z ?_
   rw [Nat.pow_succ]
   split <;> (generalize 2 ^ k=q;simp only [Nat.mul_comm,Nat.mul_left_comm,Nat.add_mul,Nat.mul_add];omega)
theorem ponesG_step {C:CodO X.σ} {f:Nat→Nat} {v:Int} {k n:Nat} {s:X.σ} (h:(C.bit (f n) (decide ((n:Int)<v)) s).1=true):onesG C f v (k+1) n s=onesG C f v k (n+1) (C.bit (f n) (decide ((n:Int)<v)) s).2:=if_pos h
theorem ponesG_stop {C:CodO X.σ} {f:Nat→Nat} {v:Int} {k n:Nat} {s:X.σ} (h:(C.bit (f n) (decide ((n:Int)<v)) s).1=false):onesG C f v (k+1) n s=(n,(C.bit (f n) (decide ((n:Int)<v)) s).2):=if_neg (by rw [h];simp)
theorem pflatsG_step {C:CodO X.σ} {u:Int} {k n:Nat} {s:X.σ} (h:(C.flat (decide ((2:Int) ^ (n+1)≤u)) s).1=true):flatsG C u (k+1) n s=flatsG C u k (n+1) (C.flat (decide ((2:Int) ^ (n+1)≤u)) s).2:=if_pos h
theorem pflatsG_stop {C:CodO X.σ} {u:Int} {k n:Nat} {s:X.σ} (h:(C.flat (decide ((2:Int) ^ (n+1)≤u)) s).1=false):flatsG C u (k+1) n s=(n,(C.flat (decide ((2:Int) ^ (n+1)≤u)) s).2):=if_neg (by rw [h];simp)
end
section
variable (X:PC)
theorem qEGreat0 {p:Prop} (h:p:=by
 rw [hb] at HB Hst
 clear hb
 go_wp2_with fail
 go_region_with (first
  | (refine (HB.out _ (Only.refl _ _).drew _ ?_).mono ?_;(first | rfl | (rw [show IntKind.i64.wrap (2*(2:Int) ^ c)=(2:Int) ^ (c+1) from by rw [IntKind.wrap_i64];have:=Hsh.out;rw [Int.pow_succ] at this ⊢;omega]) | (rw [bits_and_one];exact beq_dec _ _) | (simp;done) | (simp;omega));rintro e w5 ⟨rfl,F5,hk2,hg2⟩;have Hk2:=lh hk2;have Hg2:=lh ((Hgd.out.q (Only.refl [] _).drew).trans hg2);clear hk2 hg2)
  | fail)
 all_goals
  go_wp2_with fail
  exact ⟨⟨j,2*gn+1,F5,_,by have:=Hj.out;omega,by go_num,by go_num,Hk2,Hg2,lh (by rw [← Hed.out,Hst.out];rfl),lh (X.ok_le Hob.out (by have:=Hj.out;omega))⟩,by simp [intOf];try omega⟩):p:=h
theorem qEGreat1 {p:Prop} (h:p:=by
 rw [hb] at HB Hst
 clear hb
 go_wp2_with fail
 go_region_with (first
  | (refine (HB.out _ (Only.refl _ _).drew _ ?_).mono ?_;(first | rfl | (rw [show IntKind.i64.wrap (2*(2:Int) ^ c)=(2:Int) ^ (c+1) from by rw [IntKind.wrap_i64];have:=Hsh.out;rw [Int.pow_succ] at this ⊢;omega]) | (rw [bits_and_one];exact beq_dec _ _) | (simp;done) | (simp;omega));rintro e w5 ⟨rfl,F5,hk2,hg2⟩;have Hk2:=lh hk2;have Hg2:=lh ((Hgd.out.q (Only.refl [] _).drew).trans hg2);clear hk2 hg2)
  | fail)
 all_goals
  go_wp2_with fail
  exact ⟨⟨j,2*gn,F5,_,by have:=Hj.out;omega,by go_num,by go_num,Hk2,Hg2,lh (by rw [← Hed.out,Hst.out];rfl),lh (X.ok_le Hob.out (by have:=Hj.out;omega))⟩,by simp [intOf];try omega⟩):p:=h
theorem qEGreat2 {p:Prop} (h:p:=by
 have hneg:¬ (0:Int)≤((0:Nat):Int)-1:=by omega
 have hgs:=Hgn.out
 rw [Nat.pow_zero,Nat.mul_one] at hgs
 have Hlast:Hid (greatG X.C u s=(gn,sd)):=lh (HT.out.trans Hed.out.symm)
 go_wp2_with fail
 refine HPost.out _ _ ?_
 rw [Hlast.out]
 exact ⟨rfl,Fd,Hkd.out,Hgd.out⟩):p:=h
theorem pgreat_any {F:List Nat} {w:World} {s:X.σ} {n:Nat} (h:X.At F w s) (u:Int) (hu:-100000≤u∧u≤100000) (ok:X.Ok n s) (hn:n≤800000000) :
  Calls Tryz.prog 208 #[X.val,.int .i64 u] w (NumE X F w (((greatG X.C u s).1:Int),(greatG X.C u s).2)):=by
 refine hidQ fun Q HPost=>?_
 have HK:=lh h
 have HOk:=lh ok
 have mf:=X.mF
 have ef:=X.eF
 have nf:=X.nF
 clear h ok
 go_enter Tryz.func208,Tryz.ntmps208
 go_wp2_with fail
 go_loopw [5] (fun i wr=>∃ (c:Nat) (Fc:List Nat) (sc:X.σ),c≤13∧i=.int .i64 c∧Hid (X.At Fc wr sc)∧Hid (Went F w Fc wr)∧Hid (flatsG X.C u (13-c) c sc=flatsG X.C u 13 0 s)∧Hid (X.Ok (n+2*c) sc)) (fun i _=>13-(intOf i).toNat)
 case atStart=>exact ⟨0,_,_,by omega,rfl,HK,lh (Went.refl _ _),lh rfl,HOk⟩
 case round =>
  obtain ⟨c,Fc,sc,hc,rfl,Hk,Hg,He,Ho⟩:=hrel
  by_cases hlt:c<13
  ·have hlti:(c:Int)<13:=by omega
   have hc0:(0:Int)≤(c:Int):=by omega
   have hsh:(2:Int) ^ (c+1)≤8192∧(0:Int)≤(2:Int) ^ (c+1):=pow2_in (by omega)
   have Hsh:=lh hsh
   clear hsh
   have HB:=lh (fun (w':World) (o:Only [] wr w') (b:Bool) (hb:b=decide ((2:Int) ^ (c+1)≤u))=>(by subst hb;exact X.flat _ (X.quiet Hk.out o) Ho.out (by omega):Calls Tryz.prog X.ff #[.pointer (some ⟨X.R,0,none⟩),.bool b] w' _))
   have Hob:=lh (X.ok_flat (decide ((2:Int) ^ (c+1)≤u)) Ho.out)
   obtain ⟨k3,hk3⟩:∃ k3,13-c=k3+1:=⟨13-c-1,by omega⟩
   have hk3':13-(c+1)=k3:=by omega
   have Hn3:=lh (And.intro hk3 hk3')
   have Hlt:=lh hlt
   clear hk3 hk3'
   have Hfin:Hid (flatsG X.C u 13 0 s=flatsG X.C u (k3+1) c sc):=lh (by rw [← Hn3.out.1,He.out])
   cases hb:(X.C.flat (decide ((2:Int) ^ (c+1)≤u)) sc).1 with
   | true =>
    rw [hb] at HB
    have Hb:=lh hb
    clear hb
    go_wp2_with fail
    go_region_with (first
     | (refine (HB.out _ (Only.refl _ _).drew _ ?_).mono ?_;(first | rfl | (rw [show IntKind.i64.wrap (2*(2:Int) ^ c)=(2:Int) ^ (c+1) from by rw [IntKind.wrap_i64];have:=Hsh.out;rw [Int.pow_succ] at this ⊢;omega]) | (rw [bits_and_one];exact beq_dec _ _) | (simp;done) | (simp;omega));rintro e w3 ⟨rfl,F3,hk2,hg2⟩;have Hk2:=lh hk2;have Hg2:=lh ((Hg.out.q (Only.refl [] _).drew).trans hg2);clear hk2 hg2)
     | fail)
    all_goals
     go_wp2_with fail
     exact ⟨⟨c+1,F3,_,by have:=Hlt.out;omega,by go_num,Hk2,Hg2,lh (by rw [Hn3.out.2,Hfin.out];exact (pflatsG_step X Hb.out).symm),lh (X.ok_le Hob.out (by omega))⟩,by simp [intOf];have:=Hlt.out;omega⟩
   | false =>
    rw [hb] at HB
    have Hb:=lh hb
    clear hb
    go_wp2_with fail
    go_region_with (first
     | (refine (HB.out _ (Only.refl _ _).drew _ ?_).mono ?_;(first | rfl | (rw [show IntKind.i64.wrap (2*(2:Int) ^ c)=(2:Int) ^ (c+1) from by rw [IntKind.wrap_i64];have:=Hsh.out;rw [Int.pow_succ] at this ⊢;omega]) | (rw [bits_and_one];exact beq_dec _ _) | (simp;done) | (simp;omega));rintro e w3 ⟨rfl,F3,hk2,hg2⟩;have Hk2:=lh hk2;have Hg2:=lh ((Hg.out.q (Only.refl [] _).drew).trans hg2);clear hk2 hg2)
     | fail)
    all_goals
     clear HB
     have Hez:Hid (flatsG X.C u 13 0 s=(c,(X.C.flat (decide ((2:Int) ^ (c+1)≤u)) sc).2)):=lh (Hfin.out.trans (pflatsG_stop X Hb.out))
     obtain ⟨s3,hs3⟩:∃ x,x=(X.C.flat (decide ((2:Int) ^ (c+1)≤u)) sc).2:=⟨_,rfl⟩
     have HkC:Hid (X.At F3 _ s3):=lh (by rw [hs3];exact Hk2.out)
     have HoC:Hid (X.Ok (n+26) s3):=lh (by rw [hs3];exact (X.ok_le Hob.out (by omega)))
     rw [← hs3] at Hez
     have HT:Hid (greatG X.C u s=bitsG X.C u c 1 s3):=lh (by unfold greatG;rw [Hez.out])
     obtain ⟨z,hz⟩:∃ z:Nat,z=c:=⟨_,rfl⟩
     rw [← hz] at HT
     have hz13:z≤13:=by omega
     have hzb:=pbitsG_ok X u z 1 HoC.out
     have HZb:=lh (show (bitsG X.C u z 1 s3).1<16384 by have:=hzb.2.2;have h2:2 ^ z≤2 ^ 13:=Nat.pow_le_pow_right (by omega) hz13;omega)
     clear hzb hs3
     go_wp2_with fail
     go_loopw [6,7] (fun g i wr=>∃ (j gn:Nat) (Fc:List Nat) (sc:X.σ),j≤z∧i=.int .i64 ((j:Int)-1)∧g=.int .i64 gn∧Hid (X.At Fc wr sc)∧Hid (Went F w Fc wr)∧Hid (bitsG X.C u j gn sc=bitsG X.C u z 1 s3)∧Hid (X.Ok (n+26+2*(z-j)) sc)) (fun _ i _=>(intOf i+1).toNat)
     case atStart=>exact ⟨z,1,_,s3,Nat.le_refl _,by first | rfl | (rw [hz];go_num) | (subst hz;go_num) | (subst hz;rfl),rfl,HkC,Hg2,lh rfl,lh (X.ok_le HoC.out (by omega))⟩
     case round =>
      obtain ⟨j,gn,Fd,sd,hj,rfl,rfl,Hkd,Hgd,Hed,Hod⟩:=hrel
      have hgn:=(pbitsG_ok X u j gn Hod.out).2.1
      rw [Hed.out] at hgn
      have Hgn:=lh (Nat.lt_of_le_of_lt hgn HZb.out)
      clear hgn
      cases j with
      | zero =>
       exact qEGreat2
      | succ j =>
       have hj0:((j+1:Nat):Int)-1=(j:Int):=by omega
       rw [hj0]
       have hjn:(0:Int)≤(j:Int):=by omega
       have hj13:(j:Int)<13:=by omega
       have hgs:gn<8192:=by have:=Hgn.out;rw [Nat.pow_succ] at this;have h1:1≤2 ^ j:=Nat.one_le_two_pow;have:=Nat.mul_le_mul_left gn (show 2≤2 ^ j*2 by omega);omega
       have HB:=lh (fun (w':World) (o:Only [] wr w') (b:Bool) (hb:b=decide (u / (2:Int) ^ j % 2=1))=>(by subst hb;exact X.flat _ (X.quiet Hkd.out o) Hod.out (by omega):Calls Tryz.prog X.ff #[.pointer (some ⟨X.R,0,none⟩),.bool b] w' _))
       have Hob:=lh (X.ok_flat (decide (u / (2:Int) ^ j % 2=1)) Hod.out)
       have Hst:Hid (bitsG X.C u (j+1) gn sd=bitsG X.C u j (if (X.C.flat (decide (u / (2:Int) ^ j % 2=1)) sd).1 then 2*gn+1 else 2*gn) (X.C.flat (decide (u / (2:Int) ^ j % 2=1)) sd).2):=lh rfl
       have Hgs:=lh hgs
       have Hj:=lh hj
       clear hj0 hj
       cases hb:(X.C.flat (decide (u / (2:Int) ^ j % 2=1)) sd).1 with
       | true =>
        exact qEGreat0
       | false =>
        exact qEGreat1
  ·obtain rfl:c=13:=by omega
   have hlti:¬ ((13:Nat):Int)<13:=by omega
   have Hez:Hid (flatsG X.C u 13 0 s=(13,sc)):=lh (He.out.symm.trans rfl)
   have Hk1:=lh (X.quiet Hk.out (Only.refl [] _).drew)
   have Hg1:=lh (Hg.out.q (Only.refl [] _).drew)
   have hdf:decide (((13:Nat):Int)<13)=false:=decide_eq_false hlti
   clear He Hk Hg
   go_wp2_with fail
   refine wp_region_held_drew (S:=(fun _=>True)) (by kernel_rfl) ?_ (fun hHeld=>?_)
   ·trivial
   refine tk 0 8 ?_
   refine tk 1 9 ?_
   refine tk 2 10 ?_
   refine tkn 3 11 ?_
   refine tkn 4 12 ?_
   refine tkn 5 13 ?_
   refine tkn 6 14 ?_
   refine tkn 7 15 ?_
   refine tkn 8 16 ?_
   refine tkn 9 17 ?_
   refine tkn 10 18 ?_
   refine tkn 11 19 ?_
   refine tk 12 20 ?_
   refine wpAnyH_done (by kernel_rfl) ?_ _
   obtain ⟨s3,hs3⟩:∃ x,x=sc:=⟨_,rfl⟩
   have HkC:Hid (X.At Fc _ s3):=lh (by rw [hs3];exact Hk1.out)
   have HoC:Hid (X.Ok (n+26) s3):=lh (by rw [hs3];exact (X.ok_le Ho.out (by omega)))
   rw [← hs3] at Hez
   have HT:Hid (greatG X.C u s=bitsG X.C u 13 1 s3):=lh (by unfold greatG;rw [Hez.out])
   obtain ⟨z,hz⟩:∃ z:Nat,z=13:=⟨_,rfl⟩
   rw [← hz] at HT
   have hz13:z≤13:=by omega
   have hzb:=pbitsG_ok X u z 1 HoC.out
   have HZb:=lh (show (bitsG X.C u z 1 s3).1<16384 by have:=hzb.2.2;have h2:2 ^ z≤2 ^ 13:=Nat.pow_le_pow_right (by omega) hz13;omega)
   clear hzb hs3
   go_wp2_with fail
   go_loopw [6,7] (fun g i wr=>∃ (j gn:Nat) (Fc:List Nat) (sc:X.σ),j≤z∧i=.int .i64 ((j:Int)-1)∧g=.int .i64 gn∧Hid (X.At Fc wr sc)∧Hid (Went F w Fc wr)∧Hid (bitsG X.C u j gn sc=bitsG X.C u z 1 s3)∧Hid (X.Ok (n+26+2*(z-j)) sc)) (fun _ i _=>(intOf i+1).toNat)
   case atStart=>exact ⟨z,1,_,s3,Nat.le_refl _,by first | rfl | (rw [hz];go_num) | (subst hz;go_num) | (subst hz;rfl),rfl,HkC,Hg1,lh rfl,lh (X.ok_le HoC.out (by omega))⟩
   case round =>
    obtain ⟨j,gn,Fd,sd,hj,rfl,rfl,Hkd,Hgd,Hed,Hod⟩:=hrel
    have hgn:=(pbitsG_ok X u j gn Hod.out).2.1
    rw [Hed.out] at hgn
    have Hgn:=lh (Nat.lt_of_le_of_lt hgn HZb.out)
    clear hgn
    cases j with
    | zero =>
     exact qEGreat2
    | succ j =>
     have hj0:((j+1:Nat):Int)-1=(j:Int):=by omega
     rw [hj0]
     have hjn:(0:Int)≤(j:Int):=by omega
     have hj13:(j:Int)<13:=by omega
     have hgs:gn<8192:=by have:=Hgn.out;rw [Nat.pow_succ] at this;have h1:1≤2 ^ j:=Nat.one_le_two_pow;have:=Nat.mul_le_mul_left gn (show 2≤2 ^ j*2 by omega);omega
     have HB:=lh (fun (w':World) (o:Only [] wr w') (b:Bool) (hb:b=decide (u / (2:Int) ^ j % 2=1))=>(by subst hb;exact X.flat _ (X.quiet Hkd.out o) Hod.out (by omega):Calls Tryz.prog X.ff #[.pointer (some ⟨X.R,0,none⟩),.bool b] w' _))
     have Hob:=lh (X.ok_flat (decide (u / (2:Int) ^ j % 2=1)) Hod.out)
     have Hst:Hid (bitsG X.C u (j+1) gn sd=bitsG X.C u j (if (X.C.flat (decide (u / (2:Int) ^ j % 2=1)) sd).1 then 2*gn+1 else 2*gn) (X.C.flat (decide (u / (2:Int) ^ j % 2=1)) sd).2):=lh rfl
     have Hgs:=lh hgs
     have Hj:=lh hj
     clear hj0 hj
     cases hb:(X.C.flat (decide (u / (2:Int) ^ j % 2=1)) sd).1 with
     | true =>
      exact qEGreat0
     | false =>
      exact qEGreat1
end
end Go.Proofs.YtmdobcffijnaoaaGreatDoor
