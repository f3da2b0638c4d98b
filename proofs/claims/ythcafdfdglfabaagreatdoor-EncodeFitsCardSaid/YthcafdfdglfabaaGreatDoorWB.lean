/- Joined texts: ELevel, ECoefA. Conditions: each part names its own. -/
import Derived.Test.YthcafdfdglfabaaGreatDoorWA
import Derived.Test.YthcafdfdglfabaaGreatDoorZDCoefA
namespace Go.Proofs.YthcafdfdglfabaaGreatDoor
open Go.RowKit
set_option linter.unusedVariables false
set_option linter.unusedSimpArgs false
set_option maxRecDepth 100000
set_option maxHeartbeats 16000000
section
variable (X:PC)
theorem DW (u:Int) {n:Nat} {s:X.σ} (h:X.Ok n s):(cw X.C u s).1<16384:=by
 obtain ⟨a,b,c⟩:=nj X u 13 0 h;have z:=(gI X u (bF X.C u 13 0 s).1 1 a).2.2;have h2:2 ^ (bF X.C u 13 0 s).1<=2 ^ 13:=Nat.pow_le_pow_right Mf Mf;show (ck X.C u _ 1 _).1<16384;omega
theorem yj {p:Prop} (h:p:=by
 go_wp2_with fail;go_at_call 225;refine (HGr.out _ ?_).mono ?_
 ·omega
 rintro e w5 ⟨rfl,F5,hk5,Zp⟩;have Hk5:=lh hk5;have Hg5:=lh (ZY.out.trans (Hg.out.trans Zp));clear hk5 Zp HGr;go_wp2_with fail;refine MM.out _ _ ?_;rw [HS.out];exact ⟨dN (by simp [dG];try omega),F5,Hk5.out,Hg5.out⟩):p:=h
theorem km {F:List Nat} {w:World} {s:X.σ} {n:Nat} (h:X.At F w s) {base:Nat} (hb:base<=39) (v:Int) (hv:-100000<=v/\v<=100000) (ok:X.Ok n s) (hn:n<=700000000) :
  Calls Tryz.prog 200 #[X.val,base,v] w (uK X F w ((aV X.C base v s).1,(aV X.C base v s).2)):=by
 refine aN fun Q MM=>?_
 have HK:=lh h;have Nc:=lh ok;have mb:=X.mB;have mf:=X.mF;have eb:=X.eB;have ef:=X.eF;clear h ok;have hbi:(base:Int)<=39:=Mf;have hb0:(0:Int)<=(base:Int):=Mf;have TR:=X.ok_flat (decide (v<0)) Nc.out;have Oj:=lh (fun (wx:World) (Fx:List Nat) (hx:X.At Fx wx s) (b:Bool) (hb:b=decide (v<0))=>(by subst hb;exact X.flat _ hx Nc.out Mf:Calls Tryz.prog X.ff #[.pointer (some ⟨X.R,0,none⟩),.bool b] wx _));have HM:Hid (aV X.C base v s=(dG (X.C.flat (decide (v<0)) s).1 (cY X.C base (max v (-v)-1) (X.C.flat (decide (v<0)) s).2).1,(cY X.C base (max v (-v)-1) (X.C.flat (decide (v<0)) s).2).2)):=lh rfl;generalize X.C.flat (decide (v<0)) s=b1 at *
 obtain ⟨t2,s1⟩:=b1;simp only at TR Oj HM;have Td:=lh TR;clear TR;go_enter Tryz.func200,Tryz.ntmps200;go_wp2_with fail;refine (Oj.out _ _ HK.out _ ?_).mono ?_
 ·first | rfl | exact bG _ _ | exact aY _ _ | (simp;done) | (simp;omega)
 rintro e w2 ⟨rfl,F2,NK,Nl⟩;have Po:=lh NK;have Qi:=lh (Nl);clear NK Nl;go_upto_region 2 with (fail)
 go_cut [8,9] (fun s8 s9 wx=>s8=.int .i64 (max v (-v)-1)/\s9=.int .i64 0/\w2=wx)
 case first =>
  go_wp2_with fail
  all_goals (go_meet;exact ⟨by congr 1;omega,rfl,rfl⟩)
 case rest =>
  obtain ⟨rfl,rfl,rfl⟩:=hcut;have ZY:=Qi;have hv0:-1<=max v (-v)-1/\max v (-v)-1<=99999:=Mf;generalize max v (-v)-1=vv at *
  go_wp2_with fail;go_loopw [9] (fun i wr=>∃ (c:Nat) (Fc:List Nat) (sc:X.σ),c<=14/\i=.int .i64 c/\Hid (X.At Fc wr sc)/\Hid (bw F2 w2 Fc wr)/\Hid (aW X.C (fun n=>base+17+min n 7) vv (14-c) c sc=aW X.C (fun n=>base+17+min n 7) vv 14 0 s1)/\Hid (X.Ok ((n+2)+2*c) sc)) (fun i _=>14-(intOf i).toNat)
  case atStart=>exact ⟨0,_,_,Mf,rfl,Po,lh (bw.refl _ _),lh rfl,Td⟩
  case round =>
   obtain ⟨c,Fc,sc,hc,rfl,Hk,Hg,He,Ho⟩:=hrel;by_cases MO:c<14
   ·have Py:(c:Int)<14:=Mf
    have Vq:(0:Int)<=(c:Int):=Mf;have Qa:(fun n=>base+17+min n 7) c<64:=by show base+17+min c 7<64;omega
    have HB:=lh (fun (b:Bool) (hb:b=decide ((c:Int)<vv)) (y:Int) (hy:y=((base+17+min c 7:Nat):Int))=>(by subst hb;subst hy;exact X.bit ((fun n=>base+17+min n 7) c) _ Hk.out Ho.out Mf Qa:Calls Tryz.prog X.fb #[.pointer (some ⟨X.R,0,none⟩),y,.bool b] wr _));have Tc:=lh (X.ok_bit ((fun n=>base+17+min n 7) c) (decide ((c:Int)<vv)) Ho.out Qa);obtain ⟨k3,Qd⟩:∃ k3,14-c=k3+1:=⟨14-c-1,Mf⟩
    have Qe:14-(c+1)=k3:=Mf;have Wq:=lh (And.intro Qd Qe);have Oq:=lh MO;clear Qd Qe Qa;have Pm:Hid (aW X.C (fun n=>base+17+min n 7) vv 14 0 s1=aW X.C (fun n=>base+17+min n 7) vv (k3+1) c sc):=lh (by rw [<- Wq.out.1,He.out]);cases hb:(X.C.bit ((fun n=>base+17+min n 7) c) (decide ((c:Int)<vv)) sc).1 with
    | true =>
     rw [hb] at HB;have Hb:=lh hb;clear hb;go_wp2_with fail
     all_goals
      refine (HB.out _ ?_ _ ?_).mono ?_
      ·first | rfl | exact bG _ _ | exact aY _ _ | (simp;done) | (simp;omega)
      ·first | rfl | omega
      rintro e w2 ⟨rfl,F2,NK,Nl⟩;have Po:=lh NK;have Qi:=lh (Hg.out.trans Nl);clear NK Nl HB;go_wp2_with fail;exact ⟨⟨c+1,F2,_,by have:=Oq.out;omega,Mm,Po,Qi,lh (by rw [Wq.out.2,Pm.out];exact (pP X Hb.out).symm),lh (X.ok_le Tc.out Mf)⟩,by simp [intOf];have:=Oq.out;omega⟩
    | false =>
     rw [hb] at HB;have Hb:=lh hb;clear hb;go_wp2_with fail
     all_goals
      refine (HB.out _ ?_ _ ?_).mono ?_
      ·first | rfl | exact bG _ _ | exact aY _ _ | (simp;done) | (simp;omega)
      ·first | rfl | omega
      rintro e w2 ⟨rfl,F2,NK,Nl⟩;have Po:=lh NK;have Qi:=lh (Hg.out.trans Nl);clear NK Nl HB;have Rs:Hid (aW X.C (fun n=>base+17+min n 7) vv 14 0 s1=(c,(X.C.bit ((fun n=>base+17+min n 7) c) (decide ((c:Int)<vv)) sc).2)):=lh (Pm.out.trans (kY X Hb.out));have JdG:¬ c=14:=by have:=Oq.out;omega
      have HR:Hid (aV X.C base v s=(dG t2 c,(X.C.bit ((fun n=>base+17+min n 7) c) (decide ((c:Int)<vv)) sc).2)):=lh (by rw [HM.out,show cY X.C base vv s1=(c,(X.C.bit ((fun n=>base+17+min n 7) c) (decide ((c:Int)<vv)) sc).2) from by unfold cY;rw [Rs.out];exact if_neg JdG]);have Jxb:¬ (c:Int)=14:=Mf;clear JdG HM;cases t2 with
      | true =>
       go_wp2_with fail;refine MM.out _ _ ?_;rw [HR.out];exact ⟨rfl,F2,Po.out,(ZY.out.trans Qi.out)⟩
      | false =>
       go_wp2_with fail;refine MM.out _ _ ?_;rw [HR.out];exact ⟨rfl,F2,Po.out,(ZY.out.trans Qi.out)⟩
   ·obtain rfl:c=14:=Mf
    have Py:¬ ((14:Nat):Int)<14:=Mf;have Rs:Hid (aW X.C (fun n=>base+17+min n 7) vv 14 0 s1=(14,sc)):=lh (He.out.symm.trans rfl);have HS:Hid (aV X.C base v s=(dG t2 (13+(cw X.C (vv-13) sc).1),(cw X.C (vv-13) sc).2)):=lh (by rw [HM.out,show cY X.C base vv s1=(13+(cw X.C (vv-13) sc).1,(cw X.C (vv-13) sc).2) from by unfold cY;rw [Rs.out];exact if_pos rfl]);have hgl:=DW X (vv-13) Ho.out;have HGr:=lh (fun (u:Int) (hu:u=vv-13)=>(by subst hu;exact Ag X Hk.out _ Mf Ho.out Mf:Calls Tryz.prog 225 #[X.val,u] wr _));generalize cw X.C (vv-13) sc=gg at *
    obtain ⟨gn,gs⟩:=gg;simp only at hgl HGr HS;clear HM;cases t2 with
    | true =>
     exact yj
    | false =>
     exact yj
end
def gz (l:List Int) (o:List Nat):Nat:=o.countP fun a=>nzB (l.getD a 0)
theorem mS (l:List Int) (a:Nat) (r:List Nat):gz l (a :: r)=gz l r+(if nzB (l.getD a 0) then 1 else 0):=by
 unfold gz;rw [List.countP_cons]
theorem lw (l:List Int):∀ o:List Nat,bO l o=decide ((gz l o:Int)=0)
 | []=>rfl
 | a :: r=>by
  have ih:=lw l r;unfold bO at ih |-
  rw [List.all_cons,ih,mS];by_cases h:l.getD a 0=0
  ·have hn:nzB (l.getD a 0)=false:=by unfold nzB;rw [h];rfl
   rw [hn,h];simp
  ·have hn:nzB (l.getD a 0)=true:=by unfold nzB;simpa using h
   have hb:(l.getD a 0 == 0)=false:=Ms;rw [hn,hb];simp;omega
theorem pB (l:List Int):gz l (List.range l.length)=l.countP nzB:=by
 have e:(List.range l.length).map (fun a=>l.getD a 0)=l:=by
  refine List.ext_getElem Mg (fun i h1 h2=>?_);simp [h2]
 calc gz l (List.range l.length)=((List.range l.length).map (fun a=>l.getD a 0)).countP nzB:=by rw [List.countP_map];rfl
  _=l.countP nzB:=by rw [e]
theorem zq {l:List Int} (h:l.length=64):gz l (aC 8)=l.countP nzB:=by
 rw [<- pB,h];exact List.Perm.countP_eq _ (by rw [iR];decide +kernel)
theorem zo {l:List Int} (h:l.length=16):gz l (aC 4)=l.countP nzB:=by
 rw [<- pB,h];exact List.Perm.countP_eq _ (by rw [iQ];decide +kernel)
theorem wB {l:List Int} {k:Nat} (h:k<l.length):(l.take (k+1)).countP nzB=(l.take k).countP nzB+(if nzB (l.getD k 0) then 1 else 0):=by
 rw [List.take_succ_eq_append_getElem h,List.countP_append];simp [h,List.countP_cons]
theorem yU (l:List Int):(!cB l)=l.any nzB:=by
 unfold cB nzB
 induction l with
 | nil=>rfl
 | cons a l ih=>rw [List.all_cons,List.any_cons,<- ih,Bool.not_and];rfl
theorem rD {l:List Int} (h:cu l):zX l=true:=by
 unfold zX;rw [List.all_eq_true];intro x hx;exact decide_eq_true (h x hx)
def kt (X:PC) (F:List Nat) (w:World) (r:Except Err (List Int)×X.σ) (e:Ending) (w':World):Prop :=
 ∃ F',X.At F' w' r.2/\bw F w F' w'/\match r.1 with
  | .ok o=>∃ v',e=.returned (.tuple #[v',.nilIface])/\Own .i64 3 w.heap.size w' v' o/\∀ g,v'.ownBlock=some g->g∉F'
  | .error er=>∃ ev,e=.returned (.tuple #[JEu,ev])/\gN w.heap.size w'.heap.size w' ev er
theorem lU (X:PC) {base:Nat} (hb:base<=39) (v:Int) {n:Nat} {s:X.σ} (h:X.Ok n s):X.Ok (n+82) (aV X.C base v s).2:=by
 have h0:=X.ok_flat (decide (v<0)) h;obtain ⟨a,b,c⟩:=ui X (f:=fun n=>base+17+min n 7) (fun i=>Mf) (max v (-v)-1) 14 0 h0;show X.Ok (n+82) (cY X.C base (max v (-v)-1) (X.C.flat (decide (v<0)) s).2).2;unfold cY
 split
 ·obtain ⟨p,q,r⟩:=nj X (max v (-v)-1-13) 13 0 a
  obtain ⟨x,y,z⟩:=gI X (max v (-v)-1-13) (bF X.C (max v (-v)-1-13) 13 0 (aW X.C (fun n=>base+17+min n 7) (max v (-v)-1) 14 0 (X.C.flat (decide (v<0)) s).2).2).1 1 p;exact X.ok_le x Mf
 ·exact X.ok_le a Mf
end Go.Proofs.YthcafdfdglfabaaGreatDoor
