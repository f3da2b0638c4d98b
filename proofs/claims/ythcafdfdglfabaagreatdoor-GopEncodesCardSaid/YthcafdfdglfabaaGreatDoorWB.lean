/- Joined texts: ELevel, DCoefA, ECoefA. Conditions: each part names its own. -/
import Derived.Test.YthcafdfdglfabaaGreatDoorWA
namespace Go.Proofs.YthcafdfdglfabaaGreatDoor
open Tryz
open Go.RowKit
set_option linter.unusedVariables false
set_option linter.unusedSimpArgs false
set_option maxRecDepth 100000
set_option maxHeartbeats 16000000
section
variable (X:PC)
theorem Ib (u:Int) {n:Nat} {s:X.σ} (h:X.Ok n s):(cH X.C u s).1<16384:=by
 obtain ⟨a,b,c⟩:=oW X u 13 0 h;have z:=(iy X u (bF X.C u 13 0 s).1 1 a).2.2;have D:2 ^ (bF X.C u 13 0 s).1<=2 ^ 13:=Nat.pow_le_pow_right Qa Qa;show (cB X.C u _ 1 _).1<16384;omega
theorem Be {p:Prop} (h:p:=by
 go_wp2_with fail;refine (HGr.out _ ?_).mono ?_
 ·omega
 rintro e w5 ⟨rfl,F5,hk5,hg5⟩;have Hk5:=lh hk5;have Hg5:=lh (HgA.out.trans (Hg.out.trans hg5));clear hk5 hg5 HGr;go_wp2_with fail;refine QF.out _ _ ?_;rw [HS.out];exact ⟨ee (by simp [dW];try omega),F5,Hk5.out,Hg5.out⟩):p:=h
theorem lH {F:List Nat} {w:World} {s:X.σ} {n:Nat} (h:X.At F w s) {base:Nat} (E:base<=39) (v:Int) (hv:-100000<=v/\v<=100000) (ok:X.Ok n s) (hn:n<=700000000) :
  Calls prog 200 #[X.val,base,v] w (xA X F w ((aV X.C base v s).1,(aV X.C base v s).2)):=by
 refine aK fun Q QF=>?_
 have HK:=lh h;have QX:=lh ok;have mb:=X.mB;have mf:=X.mF;have eb:=X.eB;have ef:=X.eF;clear h ok;have hbi:(base:Int)<=39:=Qa;have WZ:(0:Int)<=(base:Int):=Qa;have XD:=X.ok_flat (decide (v<0)) QX.out;have Si:=lh (fun (wx:World) (Fx:List Nat) (hx:X.At Fx wx s) (b:Bool) (E:b=decide (v<0))=>(by subst E;exact X.flat _ hx QX.out Qa:Calls prog X.ff #[.pointer X.R,.bool b] wx _));have Y:Hid (aV X.C base v s=(dW (X.C.flat (decide (v<0)) s).1 (dz X.C base (max v (-v)-1) (X.C.flat (decide (v<0)) s).2).1,(dz X.C base (max v (-v)-1) (X.C.flat (decide (v<0)) s).2).2)):=lh rfl;generalize X.C.flat (decide (v<0)) s=b1 at *
 obtain ⟨t2,V⟩:=b1;simp only at XD Si Y;have WY:=lh XD;clear XD;go_enter func200,ntmps200;go_wp2_with fail;refine (Si.out _ _ HK.out _ ?_).mono ?_
 ·first | rfl | exact bG _ _ | exact aX _ _ | (simp;done) | (simp;omega)
 rintro e w2 ⟨rfl,L,I,J⟩;have N:=lh I;have O:=lh (J);clear I J;go_upto_region 2 with (fail)
 go_cut [8,9] (fun s8 s9 wx=>s8=.int .i64 (max v (-v)-1)/\s9=.int .i64 0/\w2=wx)
 case first =>
  go_wp2_with fail
  all_goals (go_meet;exact ⟨by congr 1;omega,rfl,rfl⟩)
 case rest =>
  obtain ⟨rfl,rfl,rfl⟩:=hcut;have HgA:=O;have hv0:-1<=max v (-v)-1/\max v (-v)-1<=99999:=Qa;generalize max v (-v)-1=vv at *
  go_wp2_with fail;go_loopw [9] (fun i wr=>∃ (c:Nat) (Fc:List Nat) (D:X.σ),c<=14/\i=.int .i64 c/\Hid (X.At Fc wr D)/\Hid (bA L w2 Fc wr)/\Hid (aW X.C (fun n=>base+17+min n 7) vv (14-c) c D=aW X.C (fun n=>base+17+min n 7) vv 14 0 V)/\Hid (X.Ok ((n+2)+2*c) D)) (fun i _=>14-(intOf i).toNat)
  case atStart=>exact ⟨0,_,_,Qa,rfl,N,lh (bA.refl _ _),lh rfl,WY⟩
  case round =>
   obtain ⟨c,Fc,D,hc,rfl,Hk,Hg,He,Ho⟩:=hrel;by_cases QH:c<14
   ·have Tl:(c:Int)<14:=Qa
    have TM:(0:Int)<=(c:Int):=Qa;have Ua:(fun n=>base+17+min n 7) c<64:=by show base+17+min c 7<64;omega
    have M:=lh (fun (b:Bool) (E:b=decide ((c:Int)<vv)) (y:Int) (hy:y=((base+17+min c 7:Nat):Int))=>(by subst E;subst hy;exact X.bit ((fun n=>base+17+min n 7) c) _ Hk.out Ho.out Qa Ua:Calls prog X.fb #[.pointer X.R,y,.bool b] wr _));have WW:=lh (X.ok_bit ((fun n=>base+17+min n 7) c) (decide ((c:Int)<vv)) Ho.out Ua);obtain ⟨k3,Ub⟩:∃ k3,14-c=k3+1:=⟨14-c-1,Qa⟩
    have Uc:14-(c+1)=k3:=Qa;have Z:=lh (VL Ub Uc);have Sj:=lh QH;clear Ub Uc Ua;have Sm:Hid (aW X.C (fun n=>base+17+min n 7) vv 14 0 V=aW X.C (fun n=>base+17+min n 7) vv (k3+1) c D):=lh (by rw [<- Z.out.1,He.out]);cases E:(X.C.bit ((fun n=>base+17+min n 7) c) (decide ((c:Int)<vv)) D).1 with
    | true =>
     rw [E] at M;have Hb:=lh E;clear E;go_wp2_with fail
     all_goals
      refine (M.out _ ?_ _ ?_).mono ?_
      ·first | rfl | exact bG _ _ | exact aX _ _ | (simp;done) | (simp;omega)
      ·first | rfl | omega
      rintro e w2 ⟨rfl,L,I,J⟩;have N:=lh I;have O:=lh (Hg.out.trans J);clear I J M;go_wp2_with fail;exact ⟨⟨c+1,L,_,by have:=Sj.out;omega,Qh,N,O,lh (by rw [Z.out.2,Sm.out];exact (rD X Hb.out).symm),lh (X.ok_le WW.out Qa)⟩,by simp [intOf];have:=Sj.out;omega⟩
    | false =>
     rw [E] at M;have Hb:=lh E;clear E;go_wp2_with fail
     all_goals
      refine (M.out _ ?_ _ ?_).mono ?_
      ·first | rfl | exact bG _ _ | exact aX _ _ | (simp;done) | (simp;omega)
      ·first | rfl | omega
      rintro e w2 ⟨rfl,L,I,J⟩;have N:=lh I;have O:=lh (Hg.out.trans J);clear I J M;have Vs:Hid (aW X.C (fun n=>base+17+min n 7) vv 14 0 V=(c,(X.C.bit ((fun n=>base+17+min n 7) c) (decide ((c:Int)<vv)) D).2)):=Sm.out.trans (mQ X Hb.out);have JhL:¬ c=14:=dT Sj
      have HR:Hid (aV X.C base v s=(dW t2 c,(X.C.bit ((fun n=>base+17+min n 7) c) (decide ((c:Int)<vv)) D).2)):=lh (by rw [Y.out,show dz X.C base vv V=(c,(X.C.bit ((fun n=>base+17+min n 7) c) (decide ((c:Int)<vv)) D).2) from by unfold dz;rw [Vs.out];exact if_neg JhL]);have JEp:¬ (c:Int)=14:=Qa;clear JhL Y;cases t2 with
      | true =>
       go_wp2_with fail;refine QF.out _ _ ?_;rw [HR.out];exact ⟨rfl,L,N.out,(HgA.out.trans O.out)⟩
      | false =>
       go_wp2_with fail;refine QF.out _ _ ?_;rw [HR.out];exact ⟨rfl,L,N.out,(HgA.out.trans O.out)⟩
   ·obtain rfl:c=14:=Qa
    have Tl:¬ ((14:Nat):Int)<14:=Qa;have Vs:Hid (aW X.C (fun n=>base+17+min n 7) vv 14 0 V=(14,D)):=He.out.symm.trans rfl;have HS:Hid (aV X.C base v s=(dW t2 (13+(cH X.C (vv-13) D).1),(cH X.C (vv-13) D).2)):=lh (by rw [Y.out,show dz X.C base vv V=(13+(cH X.C (vv-13) D).1,(cH X.C (vv-13) D).2) from by unfold dz;rw [Vs.out];exact if_pos rfl]);have hgl:=Ib X (vv-13) Ho.out;have HGr:=lh (fun (u:Int) (hu:u=vv-13)=>(by subst hu;exact Dz X Hk.out _ Qa Ho.out Qa:Calls prog 225 #[X.val,u] wr _));generalize cH X.C (vv-13) D=gg at *
    obtain ⟨gn,gs⟩:=gg;simp only at hgl HGr HS;clear Y;cases t2 with
    | true =>
     exact Be
    | false =>
     exact Be
end
theorem FF (w:World):Calls prog 198 #[.int .i64 4] w fun e w'=>e=.returned (.int .i64 14)/\w=w':=by
 go_enter func198,ntmps198;go_wp2;go_ret;exact ⟨rfl,rfl⟩
theorem FH (w:World):Calls prog 198 #[.int .i64 8] w fun e w'=>e=.returned (.int .i64 39)/\w=w':=by
 go_enter func198,ntmps198;go_wp2;go_ret;exact ⟨rfl,rfl⟩
section
variable {base last a i:Nat} {rest:List Nat} {out:List Int} {m:j7}
end
def im (l:List Int) (o:List Nat):Nat:=o.countP fun a=>m8 (l.getD a 0)
theorem oF (l:List Int) (a:Nat) (r:List Nat):im l (a :: r)=im l r+(if m8 (l.getD a 0) then 1 else 0):=by
 unfold im;rw [List.countP_cons]
theorem nh (l:List Int):∀ o:List Nat,bR l o=decide ((im l o:Int)=0)
 | []=>rfl
 | a :: r=>by
  have E:=nh l r;unfold bR at E |-
  rw [List.all_cons,E,oF];by_cases h:l.getD a 0=0
  ·have D:m8 (l.getD a 0)=false:=by unfold m8;rw [h];rfl
   rw [D,h];simp
  ·have D:m8 (l.getD a 0)=true:=by unfold m8;simpa using h
   have F:(l.getD a 0 == 0)=false:=Qp;rw [D,F];simp;omega
theorem rb (l:List Int):im l (List.range l.length)=l.countP m8:=by
 have e:(List.range l.length).map (fun a=>l.getD a 0)=l:=by
  refine List.ext_getElem Qb (fun i h1 D=>?_);simp [D]
 calc im l (List.range l.length)=((List.range l.length).map (fun a=>l.getD a 0)).countP m8:=by rw [List.countP_map];rfl
  _=l.countP m8:=by rw [e]
theorem Cm {l:List Int} (h:l.length=64):im l (aD 8)=l.countP m8:=by
 rw [<- rb,h];exact List.Perm.countP_eq _ (by rw [jM];decide +kernel)
theorem Cl {l:List Int} (h:l.length=16):im l (aD 4)=l.countP m8:=by
 rw [<- rb,h];exact List.Perm.countP_eq _ (by rw [jL];decide +kernel)
theorem ze {l:List Int} {k:Nat} (h:k<l.length):(l.take (k+1)).countP m8=(l.take k).countP m8+(if m8 (l.getD k 0) then 1 else 0):=by
 rw [UJ h,List.countP_append];simp [h,List.countP_cons]
theorem BU (l:List Int):(!cN l)=l.any m8:=by
 unfold cN m8
 induction l with
 | nil=>rfl
 | cons a l ih=>rw [List.all_cons,List.any_cons,<- ih,Bool.not_and];rfl
theorem tO {l:List Int} (h:cE l):Dn l=true:=by
 unfold Dn;rw [t6];intro x hx;exact decide_eq_true (h x hx)
def lO (X:PC) (F:List Nat) (w:World) (r:Except l4 (List Int)×X.σ) (e:Ending) (w':World):Prop :=
 ∃ F',X.At F' w' r.2/\bA F w F' w'/\match r.1 with
  | .ok o=>∃ v',e=.returned (.tuple #[v',.nilIface])/\f9 .i64 3 w.heap.size w' v' o/\∀ g,v'.ownBlock=some g->g∉F'
  | .error er=>∃ ev,e=.returned (.tuple #[d8,ev])/\eK w.heap.size w'.heap.size w' ev er
theorem nP (X:PC) {base:Nat} (D:base<=39) (v:Int) {n:Nat} {s:X.σ} (h:X.Ok n s):X.Ok (n+82) (aV X.C base v s).2:=by
 have h0:=X.ok_flat (decide (v<0)) h;obtain ⟨a,b,c⟩:=wP X (f:=fun n=>base+17+min n 7) (fun i=>Qa) (max v (-v)-1) 14 0 h0;show X.Ok (n+82) (dz X.C base (max v (-v)-1) (X.C.flat (decide (v<0)) s).2).2;unfold dz
 split
 ·obtain ⟨p,q,r⟩:=oW X (max v (-v)-1-13) 13 0 a
  obtain ⟨x,y,z⟩:=iy X (max v (-v)-1-13) (bF X.C (max v (-v)-1-13) 13 0 (aW X.C (fun n=>base+17+min n 7) (max v (-v)-1) 14 0 (X.C.flat (decide (v<0)) s).2).2).1 1 p;exact X.ok_le x Qa
 ·exact X.ok_le a Qa
end Go.Proofs.YthcafdfdglfabaaGreatDoor
