/- coef.Code of 16 levels by any coder of the program's. Conditions: the coder stands so; the levels may be; a bit that is told as 0 was asked as 0. -/
import Derived.Test.YtmdobcffijnaoaaGreatDoorT1
import Derived.Test.YtmdobcffijnaoaaGreatDoorWB
namespace Go.Proofs.YtmdobcffijnaoaaGreatDoor
open Go.RowKit
set_option linter.unusedVariables false
set_option linter.unusedSimpArgs false
set_option maxRecDepth 100000
set_option maxHeartbeats 16000000
theorem qECoef43 {p:Prop} (h:p:=by
 go_wp2_with fail
 go_at_call 182
 refine (HLx.out _ _ Hk7.out _ _ (by omega) (by omega)).mono ?_
 rintro e w8 ⟨rfl,F8,hk8,hg8⟩
 have Hk8:=lh hk8
 have HC8:=lh (HC7.out.went hg8)
 clear hk8 hg8
 go_wp2_with fail
 go_at_call 26
 refine (in_any _ _ (ErrV.code w8.heap.size w8.heap.size w8 3) (Nat.le_refl _) (Nat.le_refl _)).mono ?_
 rintro e w9 ⟨ev,rfl,hev,hq9⟩
 have Hev:=lh hev
 have Hq9:=lh hq9
 clear hev hq9
 go_wp2_with fail
 refine HPost.out _ _ ?_
 unfold CodeP
 rw [Hend.out]
 exact ⟨F8,X.quiet Hk8.out Hq9.out,CLoop.end HQ5.out HC8.out (Hq9.out.mono (U:=[g]) (by simp)) HNum.out.2.2.1 HNum.out.2.2.1,ev,rfl,Hev.out.mono (Nat.le_trans HQ5.out.size HC8.out.only.size) (Nat.le_refl _)⟩):p:=h
theorem qECoef40 {p:Prop} (h:p:=by
 obtain ⟨⟨x,m2⟩,hLV⟩:∃ b,b=levelG X.C 14 v m1:=⟨_,rfl⟩
 replace hLV:=hLV.symm
 have Ok8:=lh (show X.Ok (q+2+90*k+2+82) m2 by have:=plevel_ok X (base:=14) (by omega) v Ok7.out;rw [hLV] at this;exact this)
 have HLx:=lh (fun (W:World) (Fx:List Nat) (hx:X.At Fx W m1) (bb vv:Int) (hbb:bb=14) (hvv:vv=v)=>(by have t:=plevel_any X (base:=14) hx (by omega) v (by omega) Ok7.out (by omega);rw [hLV] at t;subst hbb;subst hvv;exact t:Calls Tryz.prog 182 #[X.val,.int .i64 bb,.int .i64 vv] W (NumE X Fx W (x,m2))))
 have HLV:=lh hLV
 clear hLV
 by_cases hv:x < -16320∨16320<x
 ·have Hend:Hid (coefG X.C 4 l s=(.error ⟨[(sCoef,(k:Int))],3⟩,m2)):=lh (by rw [HE0.out];exact HBad.out m1 m2 x hkl hB HLV.out hv)
  go_wp2_with fail
  all_goals
   refine (HBt.out _ _ _ _ Hkc.out Hok.out (by omega) (14+1+min k 7) (by omega) (decide (v≠0)) _ (by omega) _ ?_).mono ?_
   ·first | rfl | exact bne_dec _ _ | exact beq_dec _ _ | (simp;done) | (simp;omega) | (rw [Bool.eq_iff_iff];simp;try omega)
   rintro e w7 ⟨rfl,F7,hk7,hg7⟩
   rw [hB] at hk7
   simp only [hB]
   have Hk7:=lh hk7
   have HO7:=lh (HOc.out.only hg7.1 (fun x hx e=>by simp [Value.ownBlock] at e;exact Hgc.out (e ▸ hx)))
   have HC7:=lh (HCl.out.went hg7)
   clear hk7 hg7
   rcases hv with hv | hv
   ·exact qECoef43
   ·have hv1:¬ x < -16320:=by omega
    exact qECoef43
 ·have hv1:¬ x < -16320:=by omega
  have hv2:¬ 16320<x:=by omega
  have hin:InK .i64 x:=by simp only [InK];omega
  have hok9:=X.ok_bit (14+9+min k 7) (decide ((c2:Int)=0)) Ok8.out (by omega)
  obtain ⟨⟨t9,m3⟩,h9⟩:∃ b,b=X.C.bit (14+9+min k 7) (decide ((c2:Int)=0)) m2:=⟨_,rfl⟩
  replace h9:=h9.symm
  rw [h9] at hok9
  have Ok9:=lh hok9
  clear hok9
  cases t9 with
  | true =>
   have Hend:Hid (coefG X.C 4 l s=(.ok (ol.set a x),m3)):=lh (by rw [HE0.out];exact HDone.out m1 m2 m3 x hkl hB HLV.out hv h9)
   go_wp2_with fail
   all_goals
    refine (HBt.out _ _ _ _ Hkc.out Hok.out (by omega) (14+1+min k 7) (by omega) (decide (v≠0)) _ (by omega) _ ?_).mono ?_
    ·first | rfl | exact bne_dec _ _ | exact beq_dec _ _ | (simp;done) | (simp;omega) | (rw [Bool.eq_iff_iff];simp;try omega)
    rintro e w7 ⟨rfl,F7,hk7,hg7⟩
    rw [hB] at hk7
    simp only [hB]
    have Hk7:=lh hk7
    have HO7:=lh (HOc.out.only hg7.1 (fun x hx e=>by simp [Value.ownBlock] at e;exact Hgc.out (e ▸ hx)))
    have HC7:=lh (HCl.out.went hg7)
    clear hk7 hg7
    go_wp2_with fail
    go_at_call 182
    refine (HLx.out _ _ Hk7.out _ _ (by omega) (by omega)).mono ?_
    rintro e w8 ⟨rfl,F8,hk8,hg8⟩
    have hc8:=HC7.out.went hg8
    have ho8:=HO7.out.only hg8.1 (fun x hx e=>by simp [Value.ownBlock] at e;exact HC7.out.apart HG5.out HNum.out.2.2.2.2.1 (e ▸ hx))
    have cg:=ho8.cellS Hlen.out.symm (i:=a) (by have:=Hlen.out;omega)
    have fg:=ho8.frzS Hlen.out.symm a
    obtain ⟨hs1,hs2⟩:=ho8.storeS Hlen.out.symm hin a
    have HO8:=lh hs1
    have Hk8:=lh (X.only hk8 hs2 (fun x hx=>by rw [mSg] at hx;subst hx;exact ⟨Nat.le_trans HBase.out HNum.out.2.2.1,hc8.apart HG5.out HNum.out.2.2.2.2.1⟩))
    have HC8:=lh (hc8.store hs2)
    clear hk8 hg8 hc8 ho8 hs1 hs2
    go_wp2_with fail
    all_goals
     refine (HBt.out _ _ _ _ Hk8.out Ok8.out (by omega) (14+9+min k 7) (by omega) (decide ((c2:Int)=0)) _ (by omega) _ ?_).mono ?_
     ·first | rfl | exact bne_dec _ _ | exact beq_dec _ _ | (simp;done) | (simp;omega) | (rw [Bool.eq_iff_iff];simp;try omega)
     rintro e w10 ⟨rfl,F10,hk10,hg10⟩
     rw [h9] at hk10
     simp only [h9]
     have Hk10:=lh hk10
     have HO10:=lh (HO8.out.only hg10.1 (fun x hx e=>by simp [Value.ownBlock] at e;exact HC8.out.apart HG5.out HNum.out.2.2.2.2.1 (e ▸ hx)))
     have HC10:=lh (HC8.out.went hg10)
     clear hk10 hg10
     go_wp2_with fail
     refine HPost.out _ _ ?_
     unfold CodeP
     rw [Hend.out]
     exact ⟨F10,Hk10.out,CLoop.end HQ5.out HC10.out ((Only.refl [g] _)) HNum.out.2.2.1 HNum.out.2.2.1,_,rfl,HO10.out.lower HNum.out.2.2.1,fun x hx hm=>by simp [Value.ownBlock] at hx;subst hx;exact HC10.out.apart HG5.out HNum.out.2.2.2.2.1 hm⟩
  | false =>
   have Hgo:=lh (HMore.out m1 m2 m3 x hkl hB HLV.out hv h9)
   go_wp2_with fail
   all_goals
    refine (HBt.out _ _ _ _ Hkc.out Hok.out (by omega) (14+1+min k 7) (by omega) (decide (v≠0)) _ (by omega) _ ?_).mono ?_
    ·first | rfl | exact bne_dec _ _ | exact beq_dec _ _ | (simp;done) | (simp;omega) | (rw [Bool.eq_iff_iff];simp;try omega)
    rintro e w7 ⟨rfl,F7,hk7,hg7⟩
    rw [hB] at hk7
    simp only [hB]
    have Hk7:=lh hk7
    have HO7:=lh (HOc.out.only hg7.1 (fun x hx e=>by simp [Value.ownBlock] at e;exact Hgc.out (e ▸ hx)))
    have HC7:=lh (HCl.out.went hg7)
    clear hk7 hg7
    go_wp2_with fail
    go_at_call 182
    refine (HLx.out _ _ Hk7.out _ _ (by omega) (by omega)).mono ?_
    rintro e w8 ⟨rfl,F8,hk8,hg8⟩
    have hc8:=HC7.out.went hg8
    have ho8:=HO7.out.only hg8.1 (fun x hx e=>by simp [Value.ownBlock] at e;exact HC7.out.apart HG5.out HNum.out.2.2.2.2.1 (e ▸ hx))
    have cg:=ho8.cellS Hlen.out.symm (i:=a) (by have:=Hlen.out;omega)
    have fg:=ho8.frzS Hlen.out.symm a
    obtain ⟨hs1,hs2⟩:=ho8.storeS Hlen.out.symm hin a
    have HO8:=lh hs1
    have Hk8:=lh (X.only hk8 hs2 (fun x hx=>by rw [mSg] at hx;subst hx;exact ⟨Nat.le_trans HBase.out HNum.out.2.2.1,hc8.apart HG5.out HNum.out.2.2.2.2.1⟩))
    have HC8:=lh (hc8.store hs2)
    clear hk8 hg8 hc8 ho8 hs1 hs2
    go_wp2_with fail
    all_goals
     refine (HBt.out _ _ _ _ Hk8.out Ok8.out (by omega) (14+9+min k 7) (by omega) (decide ((c2:Int)=0)) _ (by omega) _ ?_).mono ?_
     ·first | rfl | exact bne_dec _ _ | exact beq_dec _ _ | (simp;done) | (simp;omega) | (rw [Bool.eq_iff_iff];simp;try omega)
     rintro e w10 ⟨rfl,F10,hk10,hg10⟩
     rw [h9] at hk10
     simp only [h9]
     have Hk10:=lh hk10
     have HO10:=lh (HO8.out.only hg10.1 (fun x hx e=>by simp [Value.ownBlock] at e;exact HC8.out.apart HG5.out HNum.out.2.2.2.2.1 (e ▸ hx)))
     have HC10:=lh (HC8.out.went hg10)
     clear hk10 hg10
     go_wp2_with fail
     exact ⟨⟨k+1,c2,m3,ol.set a x,F10,by omega,by omega,by go_num,by first | rfl | go_num,HC2,Hk10,HO10,lh (by rw [List.length_set];exact Hlen.out),lh (by rw [← Hgo.out];exact HGo0.out),lh (X.ok_le Ok9.out (by omega)),HC10⟩,by simp [intOf];omega⟩):p:=h
theorem qECoef41 {p:Prop} (h:p:=by
 exact qECoef43):p:=h
theorem qECoef42 {p:Prop} (h:p:=by
 have hv1:¬ x < -16320:=by omega
 have hv2:¬ 16320<x:=by omega
 have hin:InK .i64 x:=by simp only [InK];omega
 have Hgo:=lh (HMore2.out m2 x hkl HLV.out hv)
 go_wp2_with fail
 go_at_call 182
 refine (HLx.out _ _ Hk7.out _ _ (by omega) (by omega)).mono ?_
 rintro e w8 ⟨rfl,F8,hk8,hg8⟩
 have hc8:=HC7.out.went hg8
 have ho8:=HO7.out.only hg8.1 (fun x hx e=>by simp [Value.ownBlock] at e;exact HC7.out.apart HG5.out HNum.out.2.2.2.2.1 (e ▸ hx))
 have cg:=ho8.cellS Hlen.out.symm (i:=a) (by have:=Hlen.out;omega)
 have fg:=ho8.frzS Hlen.out.symm a
 obtain ⟨hs1,hs2⟩:=ho8.storeS Hlen.out.symm hin a
 have HO8:=lh hs1
 have Hk8:=lh (X.only hk8 hs2 (fun x hx=>by rw [mSg] at hx;subst hx;exact ⟨Nat.le_trans HBase.out HNum.out.2.2.1,hc8.apart HG5.out HNum.out.2.2.2.2.1⟩))
 have HC8:=lh (hc8.store hs2)
 clear hk8 hg8 hc8 ho8 hs1 hs2
 go_wp2_with fail
 exact ⟨⟨k+1,c2,m2,ol.set a x,F8,by omega,by omega,by go_num,by first | rfl | go_num,HC2,Hk8,HO8,lh (by rw [List.length_set];exact Hlen.out),lh (by rw [← Hgo.out];exact HGo0.out),lh (X.ok_le Ok8.out (by omega)),HC8⟩,by simp [intOf];omega⟩):p:=h
theorem qECoef44 {p:Prop} (h:p:=by
 have hkli:¬ (k:Int)<15:=by omega
 obtain ⟨⟨x,m2⟩,hLV⟩:∃ b,b=levelG X.C 14 v mc:=⟨_,rfl⟩
 replace hLV:=hLV.symm
 have Ok8:=lh (show X.Ok (q+2+90*k+82) m2 by have:=plevel_ok X (base:=14) (by omega) v Hok.out;rw [hLV] at this;exact this)
 have HLx:=lh (fun (W:World) (Fx:List Nat) (hx:X.At Fx W mc) (bb vv:Int) (hbb:bb=14) (hvv:vv=v)=>(by have t:=plevel_any X (base:=14) hx (by omega) v (by omega) Hok.out (by omega);rw [hLV] at t;subst hbb;subst hvv;exact t:Calls Tryz.prog 182 #[X.val,.int .i64 bb,.int .i64 vv] W (NumE X Fx W (x,m2))))
 have HLV:=lh hLV
 clear hLV
 have Hk7:=Hkc
 have Ok7:=Hok
 have HO7:=HOc
 have HC7:=HCl
 by_cases hv:x < -16320∨16320<x
 ·have Hend:Hid (coefG X.C 4 l s=(.error ⟨[(sCoef,(k:Int))],3⟩,m2)):=lh (by rw [HE0.out];exact HBad2.out m2 x hkl HLV.out hv)
  rcases hv with hv | hv
  ·exact qECoef41
  ·have hv1:¬ x < -16320:=by omega
   exact qECoef41
 ·exact qECoef42):p:=h
theorem pcode4_any (X:PC) {F:List Nat} {lo' hi' q:Nat} {lv:Value} {w:World} {s:X.σ} {l:List Int} (h:X.At F w s) (hl:Ints .i64 lo' hi' w lv l) (hlen:l.length=16) (hlev:LevOk l) (hF:∀ x∈F,x<lo'∨hi'≤x) (hw:hi'≤w.heap.size)
  (hE:∀ a,a<16→∀ c m,(X.C.bit c (decide (l.getD a 0≠0)) m).1=false→l.getD a 0=0) (ok:X.Ok q s) (hq:q≤600000000) :
  Calls Tryz.prog 142 #[X.val,lv] w (CodeP X F w (coefG X.C 4 l s)):=by
 refine hidQ fun Q HPost=>?_
 have mb:=X.mB
 have eb:=X.eB
 have nb:=X.nB
 have HCheck:=lh (coefCheck_any hl (by rw [hlen];omega))
 have hcn:checkL l=none:=by unfold checkL;rw [if_neg (by rw [hlen];simp),lev_levB hlev];rfl
 rw [hcn] at HCheck
 have HL:=lh hl
 have HZero:=lh (fun (W:World) (o:Only [] w W)=>zero_any (hl.quiet o) (by rw [hlen];omega))
 obtain ⟨la,lcap,hlv,-,-,hlat,-⟩:=hl.open
 rw [hlen] at hlv hlat
 subst hlv
 have Hlat:=lh hlat
 have HK:=lh h
 have HB:=lh (fun (W:World) (o:Only [] w W) (b:Bool) (hb:b=!zeroB l)=>(by subst hb;exact X.bit 14 _ (X.quiet h o) ok (by omega) (by omega):Calls Tryz.prog X.fb #[.pointer (some ⟨X.R,0,none⟩),.int .i64 14,.bool b] W _))
 have HW:=lh hw
 have HLen:=lh hlen
 have HLev:=lh hlev
 have HF:=lh hF
 have HE:=lh hE
 have Hlt:=lh (X.lt h)
 have HBase:=lh (X.base_le h)
 have ok1:=X.ok_bit 14 (!zeroB l) ok (by omega)
 have HM:Hid (coefG X.C 4 l s=if (X.C.bit 14 (!zeroB l) s).1 then coefGoG X.C 14 15 l (orderD 4) 0 (List.replicate 16 0) (X.C.bit 14 (!zeroB l) s).2 else (.ok (List.replicate 16 0),(X.C.bit 14 (!zeroB l) s).2)):=lh rfl
 generalize X.C.bit 14 (!zeroB l) s=b0 at *
 obtain ⟨t0,s1⟩:=b0
 simp only at ok1 HB HM
 have Ok1:=lh ok1
 clear h hl hcn hlat hw hlen hlev hF hE ok ok1
 go_enter Tryz.func142,Tryz.ntmps142
 go_wp2_with fail
 go_at_call 178
 refine HCheck.out.mono ?_
 rintro e w1 ⟨⟨u,rfl,hu⟩,hq1⟩
 have hu':u=.nilIface:=hu
 subst hu'
 have HQ1:=lh hq1
 clear hq1 hu
 go_wp2_with fail
 go_at_call 179
 refine (base_any4 _).mono ?_
 rintro e w2 ⟨rfl,rfl⟩
 go_wp2_with fail
 go_at_call 180
 refine (order4_any _).mono ?_
 rintro e w2 ⟨ov,rfl,hord,hq2⟩
 have hol:(natI (orderD 4)).length=16:=by simp [natI,orderD_4]
 obtain ⟨ob,ocap,hov,hob1,hob2⟩:=hord.form (by omega)
 rw [hol] at hov
 subst hov
 have HOrd:=lh hord
 have HQ2:=lh (HQ1.out.q hq2)
 have hz1:=HQ1.out.size
 clear hord hq2 hol
 have hmk:∀ W:World,(Instr.makeSlice 48 (.int .i64 16) (.int .i64 16)).run Tryz.prog W=.ok (.slice (some ⟨W.heap.size,0,none⟩) 16 16) (W.alloc (.cells (madeCells #[.int .i64 0] 16) 3)):=fun W=>run_make_row' (P:=Tryz.prog) 48 3 (.int .i64 0) 8 EI.ut (by kernel_rfl) rfl .i64 .i64 16 (by omega) (by omega) W
 go_wp2_with fail
 clear hmk
 have hqn:=Only.new w2 (.cells (madeCells #[.int .i64 0] 16) 3)
 have hout:=own_made .i64 3 w2 16 (by simp [maxLen])
 have HOut:=lh hout
 have HQ3:=lh (HQ2.out.q hqn)
 have HOrd3:=lh (HOrd.out.quiet hqn)
 have hzw:=HQ2.out.size
 have hz3:w2.heap.size<(w2.alloc (.cells (madeCells #[.int .i64 0] 16) 3)).heap.size:=by simp
 clear hqn hout HOrd
 generalize World.alloc w2 _=W3 at *
 generalize w2.heap.size=g at *
 have HNum:Hid (w.heap.size≤ob∧ob<g∧w.heap.size≤g∧g<W3.heap.size∧g∉F∧ob∉F):=lh ⟨by omega,by omega,by omega,by omega,fun hm=>by have:=Hlt.out g hm;omega,fun hm=>by have:=Hlt.out ob hm;omega⟩
 clear hob1 hob2 hz1 hzw hz3 HQ1 HQ2 HCheck
 refine wp_region_held_drew (S:=(fun _=>True)) (by kernel_rfl) ?_ (fun hHeld=>?_)
 ·trivial
 refine tk 0 37 ?_
 refine tk 1 38 ?_
 refine tk 2 39 ?_
 refine tk 5 42 ?_
 refine tk 6 43 ?_
 refine tk 7 44 ?_
 refine rdy (rdc 3 40 (fun K hK=>?_) .nil)
 go_simp
 go_at_call 181;refine (HZero.out _ HQ3.out.drew).mono ?_;rintro e w5 ⟨rfl,hq5⟩;have HQ5:=lh (HQ3.out.drew.q hq5);have HQ35:=lh ((Only.refl [] W3).drew.q hq5);clear hq5;try simp only [Bool.not_not]
 refine hK.out _ _ ?_ (fun hHeld=>?_)
 ·trivial
 clear hK K
 try simp only [Act.put,List.setIfInBounds_toArray,List.set_cons_zero,List.set_cons_succ]
 refine tk 4 41 ?_
 refine rdy (rdc 8 45 (fun K hK=>?_) .nil)
 go_simp
 refine (HB.out _ HQ5.out _ (by rw [zeroB_nz] <;> first | rfl | simp)).mono ?_;rintro e w6 ⟨rfl,F6,hk6,hg6⟩;have Hk6:=lh hk6;have Hg6:=lh hg6;clear hk6 hg6
 refine hK.out _ _ ?_ (fun hHeld=>?_)
 ·trivial
 clear hK K
 try simp only [Act.put,List.setIfInBounds_toArray,List.set_cons_zero,List.set_cons_succ]
 refine tk 9 46 ?_
 refine wpAnyH_done (by kernel_rfl) ?_ _
 have HC6:Hid (CLoop g F w5 F6 w6):=lh (CLoop.went ⟨Only.refl _ _,fun x h=>.inl h⟩ Hg6.out)
 have HG5:Hid (g<w5.heap.size):=lh (Nat.lt_of_lt_of_le HNum.out.2.2.2.1 HQ35.out.size)
 have HOut6:=lh ((HOut.out.quiet HQ35.out).only Hg6.out.1 (fun x hx e=>by simp [Value.ownBlock] at e;exact HNum.out.2.2.2.2.1 (e ▸ hx)))
 cases t0 with
 | false =>
  go_wp2_with fail
  refine HPost.out _ _ ?_
  unfold CodeP
  rw [HM.out]
  exact ⟨F6,Hk6.out,Went.ahead HQ5.out Hg6.out,_,rfl,HOut6.out.lower HNum.out.2.2.1,fun x hx hm=>by simp [Value.ownBlock] at hx;subst hx;exact HC6.out.apart HG5.out HNum.out.2.2.2.2.1 hm⟩
 | true =>
  have HOrd5:=lh (HOrd3.out.quiet HQ35.out)
  have HL5:Hid (Ints .i64 lo' hi' w5 (.slice la 16 lcap) l):=lh (HL.out.quiet HQ5.out)
  obtain ⟨la',lcap',hle,-,-,hlat5,hlcell5⟩:=HL5.out.open
  injection hle with hle1 hle2 hle3
  subst hle1
  rw [HLen.out] at hlat5 hlcell5
  have Hlat5:=lh hlat5
  have Hlcell5:=lh hlcell5
  have HLb:Hid (∀ a,a<16→∀ lb loff,la=some ⟨lb,loff,none⟩→lb∉g :: F):=lh (fun a ha lb loff e=>by
   obtain ⟨b',o',e',x,y⟩:=Hlat5.out a ha
   rw [e] at e'
   injection e' with e'
   injection e' with e1 e2
   subst e1
   intro hm
   rcases List.mem_cons.1 hm with rfl | hm
   ·have:=HNum.out.2.2.1;have:=HW.out;omega
   ·have:=HF.out _ hm;omega)
  clear hle2 hle3 hlat5 hlcell5 HL HOut HOrd3 HQ3 HB HZero Hlat HL5
  go_wp2_with fail
  go_loopw [12,50] (fun lf i wr=>∃ k c:Nat,k≤16∧c≤k∧i=.int .i64 k∧lf=.int .i64 c∧Hid ((l.take k).countP nzB=c)∧w6=wr) (fun _ i _=>16-(intOf i).toNat)
  case atStart=>exact ⟨0,0,by omega,by omega,rfl,rfl,lh (by simp),rfl⟩
  case round =>
   obtain ⟨k,c,hk,hc,rfl,rfl,Hc,rfl⟩:=hrel
   by_cases hlt:k<16
   ·have hki:(k:Int)<16:=by omega
    have hk0:(0:Int)≤(k:Int):=by omega
    obtain ⟨lb,loff,rfl,_,_⟩:=Hlat5.out k hlt
    have c0:=HC6.out.only.cell (Hlcell5.out lb loff rfl k hlt) (HLb.out k hlt lb loff rfl)
    have HCt:=lh (cnt_take (l:=l) (k:=k) (by rw [HLen.out];exact hlt))
    generalize l.getD k 0=x at *
    by_cases hz:x=0
    ·have HC2:Hid ((l.take (k+1)).countP nzB=c):=lh (by rw [HCt.out,Hc.out,hz] <;> rfl)
     clear HCt
     go_wp2_with fail
     exact ⟨⟨k+1,c,by omega,by omega,by go_num,by first | rfl | trivial,HC2,by first | rfl | trivial⟩,by simp [intOf];omega⟩
    ·have HC2:Hid ((l.take (k+1)).countP nzB=c+1):=lh (by rw [HCt.out,Hc.out,if_pos (by simpa [nzB] using hz)])
     clear HCt
     go_wp2_with fail
     exact ⟨⟨k+1,c+1,by omega,by omega,by go_num,by go_num,HC2,by first | rfl | trivial⟩,by simp [intOf];omega⟩
   ·obtain rfl:k=16:=by omega
    have hki:¬ ((16:Nat):Int)<16:=by omega
    have HCn:Hid (cntAt l (orderD 4)=c):=lh (by rw [cnt_order4 HLen.out,← Hc.out,List.take_of_length_le (by rw [HLen.out];omega)])
    clear hlt hk Hc
    go_wp2_with fail
    go_loopw [12,61] (fun lf i wx=>∃ (k c:Nat) (mc:X.σ) (ol:List Int) (Fc:List Nat),k≤16∧c≤16∧i=.int .i64 k∧lf=.int .i64 c∧Hid (cntAt l ((orderD 4).drop k)=c)∧Hid (X.At Fc wx mc)∧Hid (Own .i64 3 g wx (.slice (some ⟨g,0,none⟩) 16 16) ol)∧Hid (ol.length=16)∧Hid (coefGoG X.C 14 15 l ((orderD 4).drop k) k ol mc=coefGoG X.C 14 15 l (orderD 4) 0 (List.replicate 16 0) s1)∧Hid (X.Ok (q+2+90*k) mc)∧Hid (CLoop g F w5 Fc wx)) (fun _ i _=>16-(intOf i).toNat)
    case atStart=>exact ⟨0,c,s1,_,F6,by omega,by omega,rfl,rfl,HCn,Hk6,HOut6,lh (by simp),lh rfl,Ok1,HC6⟩
    case round =>
     obtain ⟨k,c,mc,ol,Fc,hk,hcn,rfl,rfl,HCc,Hkc,HOc,Hlen,He,Hok,HCl⟩:=hrel
     by_cases hlt:k<16
     ·have hki2:(k:Int)<16:=by omega
      have hk0:(0:Int)≤(k:Int):=by omega
      obtain ⟨a,ha,hdrop⟩:∃ a,(a<16∧(orderD 4).getD k 0=a)∧(orderD 4).drop k=a :: (orderD 4).drop (k+1):=by
       have hk':k<(orderD 4).length:=by rw [orderD_len4];exact hlt
       refine ⟨(orderD 4)[k],⟨orderD_lt4 _ (List.getElem_mem _),by simp [hk']⟩,List.drop_eq_getElem_cons hk'⟩
      obtain ⟨ha1,ha2⟩:=ha
      obtain ⟨lb,loff,rfl,-,-⟩:=Hlat5.out a ha1
      have cl:=HCl.out.only.cell (Hlcell5.out lb loff rfl a ha1) (HLb.out a ha1 lb loff rfl)
      have co5:=HOrd5.out.cellS (by simp [natI,orderD_4]) (i:=k) (by simp [natI,orderD_4];omega)
      rw [natI_at2,ha2] at co5
      have co:=HCl.out.only.cell co5 (fun hm=>by
       obtain ⟨n1,n2,n3,n4,n5,n6⟩:=HNum.out
       rcases List.mem_cons.1 hm with e | hm
       ·have e':ob=g:=e
        omega
       ·exact n6 hm)
      have hai:(0:Int)≤(a:Int):=by omega
      have hai2:(a:Int)<16:=by omega
      have hgc:g∉Fc:=HCl.out.apart HG5.out HNum.out.2.2.2.2.1
      have Hgc:=lh hgc
      have HEk:=lh (HE.out a ha1 (14+1+min k 7) mc)
      have hvr:-16320≤l.getD a 0∧l.getD a 0≤16320:=HLev.out _ (by have:=HLen.out;rw [List.getD_eq_getElem?_getD,List.getElem?_eq_getElem (by omega)];exact List.getElem_mem _)
      have HCc2:Hid (cntAt l ((orderD 4).drop (k+1))+(if nzB (l.getD a 0) then 1 else 0)=c):=lh (by rw [← HCc.out,hdrop,cntAt_cons])
      have HE0:Hid (coefG X.C 4 l s=coefGoG X.C 14 15 l (a :: (orderD 4).drop (k+1)) k ol mc):=lh (by rw [HM.out,if_pos trivial,← He.out,hdrop])
      have HGo0:Hid (coefGoG X.C 14 15 l (a :: (orderD 4).drop (k+1)) k ol mc=coefGoG X.C 14 15 l (orderD 4) 0 (List.replicate 16 0) s1):=lh (by rw [← hdrop];exact He.out)
      have HSk:=lh (fun (m1:X.σ) (hi:k<15) hB=>@goG_skip X.σ X.C 14 15 a k l ol ((orderD 4).drop (k+1)) mc m1 hi hB)
      have HBad:=lh (fun (m1 m2:X.σ) (x:Int) (hi:k<15) hB hL hx=>@goG_bad X.σ X.C 14 15 a k l ol ((orderD 4).drop (k+1)) mc m1 m2 x hi hB hL hx)
      have HDone:=lh (fun (m1 m2 m3:X.σ) (x:Int) (hi:k<15) hB hL hx h9=>@goG_done X.σ X.C 14 15 a k l ol ((orderD 4).drop (k+1)) mc m1 m2 m3 x hi hB hL hx h9)
      have HMore:=lh (fun (m1 m2 m3:X.σ) (x:Int) (hi:k<15) hB hL hx h9=>@goG_more X.σ X.C 14 15 a k l ol ((orderD 4).drop (k+1)) mc m1 m2 m3 x hi hB hL hx h9)
      have HBad2:=lh (fun (m2:X.σ) (x:Int) (hi:¬ k<15) hL hx=>@goG_bad' X.σ X.C 14 15 a k l ol ((orderD 4).drop (k+1)) mc m2 x hi hL hx)
      have HMore2:=lh (fun (m2:X.σ) (x:Int) (hi:¬ k<15) hL hx=>@goG_more' X.σ X.C 14 15 a k l ol ((orderD 4).drop (k+1)) mc m2 x hi hL hx)
      rw [zerosAt_cnt] at HDone HMore
      clear co5 hdrop ha2 He HCc hgc
      obtain ⟨c2,hc2⟩:∃ c2,c2=cntAt l ((orderD 4).drop (k+1)):=⟨_,rfl⟩
      have HC2:Hid (cntAt l ((orderD 4).drop (k+1))=c2):=lh hc2.symm
      rw [← hc2] at HCc2 HDone HMore
      clear hc2
      generalize l.getD a 0=v at *
      have HBt:=lh (fun (W:World) (Fx:List Nat) (mx:X.σ) (z:Nat) (hx:X.At Fx W mx) (okx:X.Ok z mx) (hz:z≤650000000) (cc:Nat) (hcc:cc<64) (b0:Bool) (y:Int) (hy:y=(cc:Int)) (b:Bool) (hb:b=b0)=>(by subst hy;subst hb;exact X.bit cc b hx okx (by omega) hcc:Calls Tryz.prog X.fb #[.pointer (some ⟨X.R,0,none⟩),.int .i64 y,.bool b] W _))
      by_cases hz:v=0
      ·obtain rfl:c2=c:=by have:=HCc2.out;rw [hz] at this;exact this
       by_cases hkl:k<15
       ·have hkli:(k:Int)<15:=by omega
        have hok7:=X.ok_bit (14+1+min k 7) (decide (v≠0)) Hok.out (by omega)
        obtain ⟨⟨t1,m1⟩,hB⟩:∃ b,b=X.C.bit (14+1+min k 7) (decide (v≠0)) mc:=⟨_,rfl⟩
        replace hB:=hB.symm
        rw [hB] at HEk hok7
        have Ok7:=lh hok7
        clear hok7
        cases t1 with
        | false =>
         have Hgo:=lh (HSk.out m1 hkl hB)
         go_wp2_with fail
         all_goals
          refine (HBt.out _ _ _ _ Hkc.out Hok.out (by omega) (14+1+min k 7) (by omega) (decide (v≠0)) _ (by omega) _ ?_).mono ?_
          ·first | rfl | exact bne_dec _ _ | exact beq_dec _ _ | (simp;done) | (simp;omega) | (rw [Bool.eq_iff_iff];simp;try omega)
          rintro e w7 ⟨rfl,F7,hk7,hg7⟩
          rw [hB] at hk7
          simp only [hB]
          have Hk7:=lh hk7
          have HO7:=lh (HOc.out.only hg7.1 (fun x hx e=>by simp [Value.ownBlock] at e;exact Hgc.out (e ▸ hx)))
          have HC7:=lh (HCl.out.went hg7)
          clear hk7 hg7
          go_wp2_with fail
          exact ⟨⟨k+1,c2,m1,ol,F7,by omega,by omega,by go_num,by first | rfl | go_num,HC2,Hk7,HO7,Hlen,lh (by rw [← Hgo.out];exact HGo0.out),lh (X.ok_le Ok7.out (by omega)),HC7⟩,by simp [intOf];omega⟩
        | true =>
         exact qECoef40
       ·exact qECoef44
      ·obtain rfl:c=c2+1:=by have:=HCc2.out;rw [if_pos (by simpa [nzB] using hz)] at this;exact this.symm
       by_cases hkl:k<15
       ·have hkli:(k:Int)<15:=by omega
        have hok7:=X.ok_bit (14+1+min k 7) (decide (v≠0)) Hok.out (by omega)
        obtain ⟨⟨t1,m1⟩,hB⟩:∃ b,b=X.C.bit (14+1+min k 7) (decide (v≠0)) mc:=⟨_,rfl⟩
        replace hB:=hB.symm
        rw [hB] at HEk hok7
        have Ok7:=lh hok7
        clear hok7
        cases t1 with
        | false =>
         exact absurd (HEk.out rfl) hz
        | true =>
         exact qECoef40
       ·exact qECoef44
     ·obtain rfl:k=16:=by omega
      have hki2:¬ ((16:Nat):Int)<16:=by omega
      have Hend:Hid (coefG X.C 4 l s=(.ok ol,mc)):=lh (by rw [HM.out,if_pos trivial,← He.out,List.drop_eq_nil_of_le (by rw [orderD_len4];omega)];rfl)
      go_wp2_with fail
      refine HPost.out _ _ ?_
      unfold CodeP
      rw [Hend.out]
      exact ⟨Fc,Hkc.out,CLoop.end HQ5.out HCl.out ((Only.refl [g] _)) HNum.out.2.2.1 HNum.out.2.2.1,_,rfl,HOc.out.lower HNum.out.2.2.1,fun x hx hm=>by simp [Value.ownBlock] at hx;subst hx;exact HCl.out.apart HG5.out HNum.out.2.2.2.2.1 hm⟩
end Go.Proofs.YtmdobcffijnaoaaGreatDoor
