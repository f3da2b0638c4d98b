/- Joined texts: ELevel, ECoefA. Conditions: each part names its own. -/
import Derived.Test.YtmdobcffijnaoaaGreatDoorT1
import Derived.Test.YtmdobcffijnaoaaGreatDoorWA
import Derived.Test.YtmdobcffijnaoaaGreatDoorR2
import Derived.Test.YtmdobcffijnaoaaGreatDoorS2
namespace Go.Proofs.YtmdobcffijnaoaaGreatDoor
open Go.RowKit
set_option linter.unusedVariables false
set_option linter.unusedSimpArgs false
set_option maxRecDepth 100000
set_option maxHeartbeats 16000000
section
variable (X:PC)
theorem pgreat_lt (u:Int) {n:Nat} {s:X.σ} (h:X.Ok n s):(greatG X.C u s).1<16384:=by
 obtain ⟨a,b,c⟩:=pflatsG_ok X u 13 0 h
 have z:=(pbitsG_ok X u (flatsG X.C u 13 0 s).1 1 a).2.2
 have h2:2 ^ (flatsG X.C u 13 0 s).1≤2 ^ 13:=Nat.pow_le_pow_right (by omega) (by omega)
 show (bitsG X.C u _ 1 _).1<16384
 omega
theorem qELevel0 {p:Prop} (h:p:=by
 go_wp2_with fail
 go_at_call 208
 refine (HGr.out _ ?_).mono ?_
 ·omega
 rintro e w5 ⟨rfl,F5,hk5,hg5⟩
 have Hk5:=lh hk5
 have Hg5:=lh (HgA.out.trans (Hg.out.trans hg5))
 clear hk5 hg5 HGr
 go_wp2_with fail
 refine HPost.out _ _ ?_
 rw [HS.out]
 exact ⟨ret_int (by simp [signD];try omega),F5,Hk5.out,Hg5.out⟩):p:=h
theorem plevel_any {F:List Nat} {w:World} {s:X.σ} {n:Nat} (h:X.At F w s) {base:Nat} (hb:base≤39) (v:Int) (hv:-100000≤v∧v≤100000) (ok:X.Ok n s) (hn:n≤700000000) :
  Calls Tryz.prog 182 #[X.val,.int .i64 base,.int .i64 v] w (NumE X F w ((levelG X.C base v s).1,(levelG X.C base v s).2)):=by
 refine hidQ fun Q HPost=>?_
 have HK:=lh h
 have HOk:=lh ok
 have mb:=X.mB
 have mf:=X.mF
 have eb:=X.eB
 have ef:=X.eF
 clear h ok
 have hbi:(base:Int)≤39:=by omega
 have hb0:(0:Int)≤(base:Int):=by omega
 have ok1:=X.ok_flat (decide (v<0)) HOk.out
 have HB2:=lh (fun (wx:World) (Fx:List Nat) (hx:X.At Fx wx s) (b:Bool) (hb:b=decide (v<0))=>(by subst hb;exact X.flat _ hx HOk.out (by omega):Calls Tryz.prog X.ff #[.pointer (some ⟨X.R,0,none⟩),.bool b] wx _))
 have HM:Hid (levelG X.C base v s=(signD (X.C.flat (decide (v<0)) s).1 (sizeG X.C base (max v (-v)-1) (X.C.flat (decide (v<0)) s).2).1,(sizeG X.C base (max v (-v)-1) (X.C.flat (decide (v<0)) s).2).2)):=lh rfl
 generalize X.C.flat (decide (v<0)) s=b1 at *
 obtain ⟨t2,s1⟩:=b1
 simp only at ok1 HB2 HM
 have Ok1:=lh ok1
 clear ok1
 go_enter Tryz.func182,Tryz.ntmps182
 go_wp2_with fail
 refine (HB2.out _ _ HK.out _ ?_).mono ?_
 ·first | rfl | exact bne_dec _ _ | exact beq_dec _ _ | (simp;done) | (simp;omega)
 rintro e w2 ⟨rfl,F2,hk2,hg2⟩
 have Hk2:=lh hk2
 have Hg2:=lh (hg2)
 clear hk2 hg2
 go_upto_region 2 with (fail)
 go_cut [8,9] (fun s8 s9 wx=>s8=.int .i64 (max v (-v)-1)∧s9=.int .i64 0∧w2=wx)
 case first =>
  go_wp2_with fail
  all_goals (go_meet;exact ⟨by congr 1;omega,rfl,rfl⟩)
 case rest =>
  obtain ⟨rfl,rfl,rfl⟩:=hcut
  have HgA:=Hg2
  have hv0:-1≤max v (-v)-1∧max v (-v)-1≤99999:=by omega
  generalize max v (-v)-1=vv at *
  go_wp2_with fail
  go_loopw [9] (fun i wr=>∃ (c:Nat) (Fc:List Nat) (sc:X.σ),c≤14∧i=.int .i64 c∧Hid (X.At Fc wr sc)∧Hid (Went F2 w2 Fc wr)∧Hid (onesG X.C (fun n=>base+17+min n 7) vv (14-c) c sc=onesG X.C (fun n=>base+17+min n 7) vv 14 0 s1)∧Hid (X.Ok ((n+2)+2*c) sc)) (fun i _=>14-(intOf i).toNat)
  case atStart=>exact ⟨0,_,_,by omega,rfl,Hk2,lh (Went.refl _ _),lh rfl,Ok1⟩
  case round =>
   obtain ⟨c,Fc,sc,hc,rfl,Hk,Hg,He,Ho⟩:=hrel
   by_cases hlt:c<14
   ·have hlti:(c:Int)<14:=by omega
    have hc0:(0:Int)≤(c:Int):=by omega
    have hctx:(fun n=>base+17+min n 7) c<64:=by show base+17+min c 7<64;omega
    have HB:=lh (fun (b:Bool) (hb:b=decide ((c:Int)<vv)) (y:Int) (hy:y=((base+17+min c 7:Nat):Int))=>(by subst hb;subst hy;exact X.bit ((fun n=>base+17+min n 7) c) _ Hk.out Ho.out (by omega) hctx:Calls Tryz.prog X.fb #[.pointer (some ⟨X.R,0,none⟩),.int .i64 y,.bool b] wr _))
    have Hob:=lh (X.ok_bit ((fun n=>base+17+min n 7) c) (decide ((c:Int)<vv)) Ho.out hctx)
    obtain ⟨k3,hk3⟩:∃ k3,14-c=k3+1:=⟨14-c-1,by omega⟩
    have hk3':14-(c+1)=k3:=by omega
    have Hn3:=lh (And.intro hk3 hk3')
    have Hlt:=lh hlt
    clear hk3 hk3' hctx
    have Hfin:Hid (onesG X.C (fun n=>base+17+min n 7) vv 14 0 s1=onesG X.C (fun n=>base+17+min n 7) vv (k3+1) c sc):=lh (by rw [← Hn3.out.1,He.out])
    cases hb:(X.C.bit ((fun n=>base+17+min n 7) c) (decide ((c:Int)<vv)) sc).1 with
    | true =>
     rw [hb] at HB
     have Hb:=lh hb
     clear hb
     go_wp2_with fail
     all_goals
      refine (HB.out _ ?_ _ ?_).mono ?_
      ·first | rfl | exact bne_dec _ _ | exact beq_dec _ _ | (simp;done) | (simp;omega)
      ·first | rfl | omega
      rintro e w2 ⟨rfl,F2,hk2,hg2⟩
      have Hk2:=lh hk2
      have Hg2:=lh (Hg.out.trans hg2)
      clear hk2 hg2 HB
      go_wp2_with fail
      exact ⟨⟨c+1,F2,_,by have:=Hlt.out;omega,by go_num,Hk2,Hg2,lh (by rw [Hn3.out.2,Hfin.out];exact (ponesG_step X Hb.out).symm),lh (X.ok_le Hob.out (by omega))⟩,by simp [intOf];have:=Hlt.out;omega⟩
    | false =>
     rw [hb] at HB
     have Hb:=lh hb
     clear hb
     go_wp2_with fail
     all_goals
      refine (HB.out _ ?_ _ ?_).mono ?_
      ·first | rfl | exact bne_dec _ _ | exact beq_dec _ _ | (simp;done) | (simp;omega)
      ·first | rfl | omega
      rintro e w2 ⟨rfl,F2,hk2,hg2⟩
      have Hk2:=lh hk2
      have Hg2:=lh (Hg.out.trans hg2)
      clear hk2 hg2 HB
      have Hez:Hid (onesG X.C (fun n=>base+17+min n 7) vv 14 0 s1=(c,(X.C.bit ((fun n=>base+17+min n 7) c) (decide ((c:Int)<vv)) sc).2)):=lh (Hfin.out.trans (ponesG_stop X Hb.out))
      have hc14:¬ c=14:=by have:=Hlt.out;omega
      have HR:Hid (levelG X.C base v s=(signD t2 c,(X.C.bit ((fun n=>base+17+min n 7) c) (decide ((c:Int)<vv)) sc).2)):=lh (by rw [HM.out,show sizeG X.C base vv s1=(c,(X.C.bit ((fun n=>base+17+min n 7) c) (decide ((c:Int)<vv)) sc).2) from by unfold sizeG;rw [Hez.out];exact if_neg hc14])
      have hci14:¬ (c:Int)=14:=by omega
      clear hc14 HM
      cases t2 with
      | true =>
       go_wp2_with fail
       refine HPost.out _ _ ?_
       rw [HR.out]
       exact ⟨rfl,F2,Hk2.out,(HgA.out.trans Hg2.out)⟩
      | false =>
       go_wp2_with fail
       refine HPost.out _ _ ?_
       rw [HR.out]
       exact ⟨rfl,F2,Hk2.out,(HgA.out.trans Hg2.out)⟩
   ·obtain rfl:c=14:=by omega
    have hlti:¬ ((14:Nat):Int)<14:=by omega
    have Hez:Hid (onesG X.C (fun n=>base+17+min n 7) vv 14 0 s1=(14,sc)):=lh (He.out.symm.trans rfl)
    have HS:Hid (levelG X.C base v s=(signD t2 (13+(greatG X.C (vv-13) sc).1),(greatG X.C (vv-13) sc).2)):=lh (by rw [HM.out,show sizeG X.C base vv s1=(13+(greatG X.C (vv-13) sc).1,(greatG X.C (vv-13) sc).2) from by unfold sizeG;rw [Hez.out];exact if_pos rfl])
    have hgl:=pgreat_lt X (vv-13) Ho.out
    have HGr:=lh (fun (u:Int) (hu:u=vv-13)=>(by subst hu;exact pgreat_any X Hk.out _ (by omega) Ho.out (by omega):Calls Tryz.prog 208 #[X.val,.int .i64 u] wr _))
    generalize greatG X.C (vv-13) sc=gg at *
    obtain ⟨gn,gs⟩:=gg
    simp only at hgl HGr HS
    clear HM
    cases t2 with
    | true =>
     exact qELevel0
    | false =>
     exact qELevel0
end
/-- how many of the levels at these places are not 0 -/
def cntAt (l:List Int) (o:List Nat):Nat:=o.countP fun a=>nzB (l.getD a 0)
theorem cntAt_cons (l:List Int) (a:Nat) (r:List Nat):cntAt l (a :: r)=cntAt l r+(if nzB (l.getD a 0) then 1 else 0):=by
 unfold cntAt;rw [List.countP_cons]
theorem zerosAt_cnt (l:List Int):∀ o:List Nat,zerosAt l o=decide ((cntAt l o:Int)=0)
 | []=>rfl
 | a :: r=>by
  have ih:=zerosAt_cnt l r
  unfold zerosAt at ih ⊢
  rw [List.all_cons,ih,cntAt_cons]
  by_cases h:l.getD a 0=0
  ·have hn:nzB (l.getD a 0)=false:=by unfold nzB;rw [h];rfl
   rw [hn,h];simp
  ·have hn:nzB (l.getD a 0)=true:=by unfold nzB;simpa using h
   have hb:(l.getD a 0 == 0)=false:=by simpa using h
   rw [hn,hb];simp;omega
theorem cntAt_range (l:List Int):cntAt l (List.range l.length)=l.countP nzB:=by
 have e:(List.range l.length).map (fun a=>l.getD a 0)=l:=by
  refine List.ext_getElem (by simp) (fun i h1 h2=>?_)
  simp [h2]
 calc cntAt l (List.range l.length)=((List.range l.length).map (fun a=>l.getD a 0)).countP nzB:=by rw [List.countP_map];rfl
  _=l.countP nzB:=by rw [e]
theorem cnt_order8 {l:List Int} (h:l.length=64):cntAt l (orderD 8)=l.countP nzB:=by
 rw [← cntAt_range,h]
 exact List.Perm.countP_eq _ (by rw [orderD_8];decide +kernel)
theorem cnt_order4 {l:List Int} (h:l.length=16):cntAt l (orderD 4)=l.countP nzB:=by
 rw [← cntAt_range,h]
 exact List.Perm.countP_eq _ (by rw [orderD_4];decide +kernel)
theorem cnt_take {l:List Int} {k:Nat} (h:k<l.length):(l.take (k+1)).countP nzB=(l.take k).countP nzB+(if nzB (l.getD k 0) then 1 else 0):=by
 rw [List.take_succ_eq_append_getElem h,List.countP_append]
 simp [h,List.countP_cons]
theorem zeroB_nz (l:List Int):(!zeroB l)=l.any nzB:=by
 unfold zeroB nzB
 induction l with
 | nil=>rfl
 | cons a l ih=>rw [List.all_cons,List.any_cons,← ih,Bool.not_and];rfl
theorem lev_levB {l:List Int} (h:LevOk l):levB l=true:=by
 unfold levB
 rw [List.all_eq_true]
 intro x hx
 exact decide_eq_true (h x hx)
/-- what coef.Code hands back -/
def CodeP (X:PC) (F:List Nat) (w:World) (r:Except Err (List Int)×X.σ) (e:Ending) (w':World):Prop :=
 ∃ F',X.At F' w' r.2∧Went F w F' w'∧match r.1 with
  | .ok o=>∃ v',e=.returned (.tuple #[v',.nilIface])∧Own .i64 3 w.heap.size w' v' o∧∀ g,v'.ownBlock=some g→g∉F'
  | .error er=>∃ ev,e=.returned (.tuple #[.slice none 0 0,ev])∧ErrV w.heap.size w'.heap.size w' ev er
theorem plevel_ok (X:PC) {base:Nat} (hb:base≤39) (v:Int) {n:Nat} {s:X.σ} (h:X.Ok n s):X.Ok (n+82) (levelG X.C base v s).2:=by
 have h0:=X.ok_flat (decide (v<0)) h
 obtain ⟨a,b,c⟩:=ponesG_ok X (f:=fun n=>base+17+min n 7) (fun i=>by omega) (max v (-v)-1) 14 0 h0
 show X.Ok (n+82) (sizeG X.C base (max v (-v)-1) (X.C.flat (decide (v<0)) s).2).2
 unfold sizeG
 split
 ·obtain ⟨p,q,r⟩:=pflatsG_ok X (max v (-v)-1-13) 13 0 a
  obtain ⟨x,y,z⟩:=pbitsG_ok X (max v (-v)-1-13) (flatsG X.C (max v (-v)-1-13) 13 0 (onesG X.C (fun n=>base+17+min n 7) (max v (-v)-1) 14 0 (X.C.flat (decide (v<0)) s).2).2).1 1 p
  exact X.ok_le x (by omega)
 ·exact X.ok_le a (by omega)
end Go.Proofs.YtmdobcffijnaoaaGreatDoor
