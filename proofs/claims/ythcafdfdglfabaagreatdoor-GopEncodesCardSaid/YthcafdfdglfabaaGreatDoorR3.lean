/- Joined texts: DRkC4, DRkC8. Conditions: each part names its own. -/
import Derived.Test.YthcafdfdglfabaaGreatDoorR2
namespace Go.Proofs.YthcafdfdglfabaaGreatDoor
open Tryz
open Go.RowKit
set_option linter.unusedVariables false
set_option linter.unusedSimpArgs false
set_option maxRecDepth 100000
set_option maxHeartbeats 16000000
theorem CO {R:Nat} (X:KC R) {F:List Nat} {w:World} {s:X.σ} {n0 lo' hi':Nat} {lv:Value} {l:List Int} (h:X.At F w s) (hl:aj .i64 lo' hi' w lv l) (QJ:l.length=16) (Re:cE l) (hap:∀ g∈F,g<lo'\/hi'<=g) (hw:hi'<=w.heap.size) (ok:X.Ok n0 s) (hn:n0<=700000000) :
  Calls prog 105 #[.pointer R,lv] w (lN X F w (aR X.C 4 l s)):=by
 refine aK fun Q QF=>?_
 obtain ⟨la,Rl,hlv,-⟩:=hl.open;rw [QJ] at hlv;subst hlv;have hwi:aO l (-16320) 16320=true:=uI Re;have YF:=lh (fun (wx:World) (o:ae [] w wx)=>bQ (-16320) 16320 (hl.quiet o));rw [hwi] at YF;have HZe:=lh (fun (wx:World) (o:ae [] w wx)=>qL (hl.quiet o));have Tc:=lh (fun (wx:World) (o:ae [] w wx) (b:Bool) (hb:b=!cN l)=>(by subst hb;exact X.bit 14 _ (X.quiet h o) ok Qa Qa:Calls prog 163 #[.pointer R,.int .i64 14,.bool b] wx _));have Jhq:=lh (X.ok_bit 14 (!cN l) ok Qa);have HL:=lh hl;have Jde:=lh (X.lt h);have Yw:=lh (X.base_le h);have Hap:=lh hap;have Hw:=lh hw;have Ra:=lh QJ;have YL:=lh Re;have HC:Hid (aR X.C 4 l s=if (X.C.bit 14 (!cN l) s).1 then aH X.C 14 15 l (aD 4) 0 (List.replicate 16 0) (X.C.bit 14 (!cN l) s).2 else (.ok (List.replicate 16 0),(X.C.bit 14 (!cN l) s).2)):=lh rfl;have Vq:=lh (fun (wx:World)=>Aa wx);have Jdo:=lh (gP);have JgO:=lh (oT);have YA:Hid ((cY (aD 4)).length=16):=lh (by rw [show (cY (aD 4)).length=(aD 4).length by simp [cY]];exact gP);generalize aD 4=OD at *
 have Xz:=ae.new w (.cells #[(),d8] 39);have HE0:Hid ((w.alloc (.cells #[(),d8] 39)).heap[w.heap.size]?=some (.cells #[(),d8] 39)):=Sd w _;have HQ0:=lh Xz;clear h hl Re hap hw ok hwi Xz;go_enter func105,ntmps105;go_wp2_with fail;generalize hW0:World.alloc w _=w0 at *
 have Yg:Hid (w.heap.size<w0.heap.size):=lh (l8.1 HE0).1;clear hW0;refine (YF.out w0 HQ0).mono ?_;rintro e w1 ⟨rfl,rfl⟩;go_wp2_with fail;refine (Dc _).mono ?_;rintro e w1 ⟨rfl,rfl⟩;go_wp2_with fail;refine (Vq.out _).mono ?_;rintro e w1 ⟨ov,rfl,Ux,QI⟩;have Xl:(cY OD).length=16:=YA.out;obtain ⟨ob,Jiu,hov,Jbc,Jbd⟩:=Ux.form Qa;rw [Xl] at hov;subst hov;have JbV:=lh Ux;have QO:=lh (HQ0.q QI);have HE1:=lh (QI.row HE0);have UN:=lh (PH Yg QI.size);have WW:=lh (VL (PH Yg Jbc) Jbd);clear Ux QI Xl Jbc Jbd;have Uv:∀ W:World,(Instr.makeSlice 22 (.int .i64 16) (.int .i64 16)).run prog W=.ok (.slice W.heap.size 16 16) (W.alloc (.cells (madeCells #[()] 16) 3)):=fun wz=>run_make_row' (P:=prog) 22 3 (.int .i64 0) 8 EI.ut Qc rfl .i64 .i64 16 Qa Qa wz
 go_wp2_with fail;clear Uv;have Vf:=ae.new w1 (.cells (madeCells #[()] 16) 3);have YB:Hid (f9 .i64 3 w1.heap.size (w1.alloc (.cells (madeCells #[()] 16) 3)) (.slice w1.heap.size 16 16) (List.replicate 16 0)):=gB .i64 3 w1 16 Qj;have QT:=lh (QO.q Vf);have HE2:=lh (Vf.row HE1);have JaF:=lh (JbV.quiet Vf);have ZB:Hid (w1.heap.size<(w1.alloc (.cells (madeCells #[()] 16) 3)).heap.size):=lh Qb;generalize VZ:World.alloc w1 _=W2 at *
 clear Vf VZ JbV HE1 HE0;generalize hgg:w1.heap.size=g at *
 clear hgg;have N:Hid (g∉F):=lh (fun hx=>by have:=Jde.out g hx;have:=UN.out;omega);have I:Hid (w.heap.size∉g :: F):=lh (fun hx=>by rcases Zb.1 hx with hx | hx;have:=UN.out;omega;have:=Jde.out _ hx;omega);have HLs:=lh (fun (wx:World) (o:ae (g :: F) W2 wx)=>(HL.quiet QT).only o (fun x hx=>by rcases Zb.1 hx with rfl | hx;right;have:=UN.out;have:=Hw.out;omega;exact Hap.out x hx));have HOs:=lh (fun (wx:World) (o:ae (g :: F) W2 wx)=>JaF.only o (fun x hx e=>by have e2:ob=x:=(eH e);subst e2;rcases Zb.1 hx with hx | hx;have:=WW.2;omega;have:=Jde.out _ hx;have:=WW.1;omega));refine (HZe.out W2 QT).mono ?_;rintro e w2 ⟨rfl,rfl⟩;go_wp2_with fail;refine (Tc.out W2 QT _ rfl).mono ?_;rintro e w3 ⟨rfl,F1,Ub,hg3⟩;have Hk3:=lh Ub;have HL3:Hid (cQ g F W2 F1 w3):=cQ.went ⟨AY,fun x hx=>.inl hx⟩ hg3;have Ui:Hid (f9 .i64 3 g w3 (.slice g 16 16) (List.replicate 16 0)):=YB.only hg3.1 (fun x hx e=>by have e2:g=x:=(eH e);subst e2;exact N.out hx);clear Ub hg3 Tc HZe YF YB;generalize X.C.bit 14 (!cN l) s=b1 at *
 obtain ⟨t1,s1⟩:=b1;simp only at Hk3 HC Jhq |-
 cases t1 with
 | false =>
  rw [if_neg Qb] at HC
  skip
  have E:=lh (HL3.only.rowAt HE2 I);obtain ⟨z0,z1,y0,y1,-⟩:=aL E;go_wp2_with fail;obtain ⟨QK,L⟩:=aJ (x:=.int .i64 0) (y:=.slice none 0 0) E;refine TV (aA results105 _ _ w.heap.size _ _ _ _ _ rfl rfl QK underlying39 rfl (aG _ rfl)) rfl (QF.out _ _ ?_);unfold lN;rw [HC.out];have z1':=UN.out;exact ⟨_,X.only Hk3.out L (fun x hx=>by rw [i5] at hx;subst hx;exact ⟨Yw,fun hx=>(HL3.new _ hx).elim (fun a=>I.out (Pv _ a)) (fun a=>by have:=QT.size;have:=ZB.out;omega)⟩),cQ.end QT.out HL3.out L Qa (Pm _),_,rfl,(Ui.only L (fun x hx e=>by have e2:g=x:=(eH e);rw [i5] at hx;omega)).lower Qa,fun x e=>by have e2:g=x:=(eH e);subst e2;exact HL3.apart ZB N⟩
 | true =>
  rw [if_pos rfl] at HC;go_wp2_with fail;go_loopw [10] (fun i wr=>∃ (k:Nat) (Fc:List Nat) (sc:X.σ) (ol:List Int),k<=16/\i=.int .i64 k/\Hid (X.At Fc wr sc)/\Hid (cQ g F W2 Fc wr)/\Hid (f9 .i64 3 g wr (.slice g 16 16) ol)/\Hid (ol.length=16)/\Hid (aH X.C 14 15 l (OD.drop k) k ol sc=aH X.C 14 15 l OD 0 (List.replicate 16 0) s1)/\Hid (X.Ok (n0+2+90*k) sc)) (fun i _=>16-(intOf i).toNat)
  case atStart=>exact ⟨0,_,s1,_,Qa,rfl,Hk3,HL3,Ui,lh Qb,lh rfl,lh (X.ok_le Jhq Qa)⟩
  case round =>
   obtain ⟨k,Fc,sc,ol,hk,rfl,ZE,UW,Vq,UC,He,Ho⟩:=hrel;by_cases QH:k<16
   ·have Rt:(k:Int)<16:=Qa
    have RA:(0:Int)<=(k:Int):=Qa;obtain ⟨a,⟨ha1,YR⟩,Tp⟩:∃ a,(a<16/\OD.getD k 0=a)/\OD.drop k=a :: OD.drop (k+1):=by
     have hk':k<OD.length:=bC Jdo QH
     exact ⟨OD[k],⟨JgO.out _ (PG _),by simp [hk']⟩,Py hk'⟩
    obtain ⟨lb,Tu,Jax,he,Jpd,Jpe,hc⟩:=(HLs.out wr UW.only).at (i:=a) (bC Ra ha1);injection he with he1 he2 he3
    subst he1;clear he2 he3 Jpd Jpe;have cl:=hc;have co:=(HOs.out wr UW.only).cellS YA.symm (i:=k) (bC YA QH);rw [kM,YR] at co;have hai:(0:Int)<=(a:Int):=Qa;have JoJ:(a:Int)<16:=Qa;have hvr:-16320<=l.getD a 0/\l.getD a 0<=16320:=YL.out _ (by rw [Pd,Pe (bC Ra ha1)];exact PG _);have RV:=lh Tp;have Ha:=lh (VL ha1 YR);have Sj:=lh QH;have Hv:Hid (∃ v,v=l.getD a 0):=lh ⟨_,rfl⟩;obtain ⟨v,hv⟩:=Hv.out;rw [<- hv] at cl hvr;have Hv:=lh hv;clear Tp YR hv hc;have Vr:=lh (fun (wx:World) (Fx:List Nat) (hx:bA Fc wr Fx wx)=>(Vq.only hx.1 (fun x hx e=>by have e2:g=x:=(eH e);subst e2;exact UW.apart ZB N hx):f9 .i64 3 g wx (.slice g 16 16) ol));clear ha1;go_upto_region 17 with (fail)
    go_cut [76] (fun s76 wx=>∃ (F7:List Nat) (s7:X.σ) (sk:Bool),s76=.bool sk/\Hid (X.At F7 wx s7)/\Hid (bA Fc wr F7 wx)/\Hid ((k<15->X.C.bit (14+1+min k 7) (decide (v≠0)) sc=(!sk,s7))/\(¬ k<15->sk=false/\s7=sc))/\Hid (X.Ok (n0+4+90*k) s7))
    case first =>
     by_cases Y:k<15
     ·have Xy:(k:Int)<15:=Qa
      have TR:=lh (fun (wx:World) (Fx:List Nat) (hx:X.At Fx wx sc) (b:Bool) (hb:b=decide (v≠0)) (y:Int) (hy:y=((14+1+min k 7:Nat):Int))=>(by subst hb;subst hy;exact X.bit (14+1+min k 7) _ hx Ho Qa Qa:Calls prog 163 #[.pointer R,y,.bool b] wx _));have WY:=lh (X.ok_bit (14+1+min k 7) (decide (v≠0)) Ho Qa);obtain ⟨B1,hB1⟩:∃ y,y=X.C.bit (14+1+min k 7) (decide (v≠0)) sc:=⟨_,rfl⟩
      rw [<- hB1] at TR WY;obtain ⟨t1,s1'⟩:=B1;simp only at TR WY;have JmP:=lh hB1.symm;clear hB1;have O:=lh Y;clear cl co;go_wp2_with fail
      all_goals
       refine (TR.out _ _ ZE _ (by first | rfl | exact bG _ _ | exact aX _ _ | omega) _ Qa).mono ?_;rintro e w7 ⟨rfl,F7,Vk,Ul⟩;have WU:=lh Vk;have Hg7:=lh (Ul);clear Vk Ul;go_wp2_with fail;go_meet;exact ⟨F7,s1',_,rfl,WU,Hg7,lh ⟨fun _=>by rw [JmP.out,Bool.not_not],fun D=>absurd O.out D⟩,lh (X.ok_le WY Qa)⟩
     ·have Xy:¬ (k:Int)<15:=Qa
      have O:=lh Y;clear cl co;go_wp2_with fail;go_meet;exact ⟨Fc,sc,false,rfl,ZE,lh (bA.refl _ _),lh ⟨fun D=>absurd D O,fun _=>⟨rfl,rfl⟩⟩,lh (X.ok_le Ho Qa)⟩
    case rest =>
     obtain ⟨F7,s7,sk,rfl,WU,Hg7,M,Ok7⟩:=hcut;clear cl co;cases sk with
     | true =>
      have Y:k<15:=by rcases Nat.lt_or_ge k 15 with D | D;exact D;exact absurd (M.2 Qa).1 Qb
      have Tk:=lh (pH (base:=14) (a:=a) (l:=l) (m:=sc) (m1:=s7) (rest:=OD.drop (k+1)) (out:=ol) Y (by rw [<- Hv.out];exact M.1 Y));clear Y;have Uj:=lh (Vr.out _ _ Hg7);have HL7:=lh (UW.went Hg7);go_wp2_with fail;exact ⟨⟨k+1,F7,_,ol,by have:=Sj.out;omega,Qh,WU,HL7,Uj,UC,lh (by rw [<- He.out,RV.out];exact Tk.symm),lh (X.ok_le Ok7 Qa)⟩,by simp [intOf];have:=Sj.out;omega⟩
     | false =>
      have Vp:=lh (fun (wx:World) (Fx:List Nat) (hx:X.At Fx wx s7) (b:Bool) (hb:b=decide (v<0))=>(by subst hb;exact X.flat _ hx Ok7 Qa:Calls prog 162 #[.pointer R,.bool b] wx _));have XE:=X.ok_flat (decide (v<0)) Ok7;obtain ⟨FL,hFL⟩:∃ y,y=X.C.flat (decide (v<0)) s7:=⟨_,rfl⟩
      rw [<- hFL] at Vp XE;obtain ⟨neg,s2'⟩:=FL;simp only at Vp XE;have Ok2:=lh XE;have YE:=lh (fun (wx:World) (Fx:List Nat) (hx:X.At Fx wx s2') (y:Int) (hy:y=max v (-v)-1)=>(by subst hy;exact wb X hx (base:=14) Qa _ Qa Ok2 Qa:Calls prog 166 #[.pointer R,.int .i64 14,y] wx _));obtain ⟨ok3,hzn⟩:=Bv X (base:=14) Qa (max v (-v)-1) XE;obtain ⟨SZ,hSZ⟩:∃ y,y=dz X.C 14 (max v (-v)-1) s2':=⟨_,rfl⟩
      rw [<- hSZ] at YE ok3 hzn;obtain ⟨zn,J⟩:=SZ;simp only at YE ok3 hzn;have Ok3:=lh ok3;have JgJ:Hid (aV X.C 14 (l.getD a 0) s7=(dW neg zn,J)):=ww (by rw [<- Hv.out];exact hFL.symm) (by rw [<- Hv.out];exact hSZ.symm);clear XE ok3 hFL hSZ;obtain ⟨x,hx⟩:∃ x,dW neg zn=x:=⟨_,rfl⟩
      have HLe:Hid (aV X.C 14 (l.getD a 0) s7=(x,J)):=lh (by rw [JgJ.out,hx]);have Hx:=lh hx;have Wh:(x < -16320\/16320<x)↔16320<(zn:Int)+1:=by rw [<- hx];cases neg <;> simp only [dW] <;> first | (simp;omega) | omega
      clear hx JgJ;have Hxx:=lh Wh;clear Wh;go_wp2_with fail;refine (Vp.out _ _ WU _ (by first | rfl | exact bG _ _ | exact aX _ _ | omega)).mono ?_;rintro e w8 ⟨rfl,F8,Xa,UE⟩;have Hk8:=lh Xa;have Hg8:=lh (Hg7.trans UE);clear Xa UE;go_upto_region 19 with (fail)
      go_cut [13] (fun s13 wx=>∃ (F9:List Nat),s13=.int .i64 ((zn:Int)+1)/\Hid (X.At F9 wx J)/\Hid (bA Fc wr F9 wx))
      case first =>
       go_wp2_with fail
       all_goals
        refine (YE.out _ _ Hk8 _ Qa).mono ?_;rintro e w9 ⟨rfl,F9,hk9,hg9⟩;have Hk9:=lh hk9;have Hg9:=lh (Hg8.trans hg9);clear hk9 hg9;go_wp2_with fail;go_meet;exact ⟨F9,rfl,Hk9,Hg9⟩
      case rest =>
       obtain ⟨F9,rfl,Hk9,Hg9⟩:=hcut;have HL9:=lh (UW.went Hg9);have HO9:=lh (Vr.out _ _ Hg9);by_cases hbz:16320<(zn:Int)+1
       ·have JdS:=Hxx.2 hbz
        have TI:Hid (aR X.C 4 l s=(.error ⟨[(kP,(k:Int))],3⟩,J)):=lh (by
         rw [HC.out,<- He.out,RV.out];rcases Nat.lt_or_ge k 15 with D | D
         ·exact rW D (by rw [<- Hv.out];exact M.1 D) HLe JdS
         ·exact pE Qa (by rw [<- (M.2 Qa).2];exact HLe) JdS)
        clear JdS;have HE9:=lh (HL9.only.rowAt HE2 I);go_wp2_with fail;refine (uJ _ _ 3 _ Qa).mono ?_;rintro e VQ ⟨kv,rfl,⟨sv,rfl,Uo⟩,UI⟩;obtain ⟨_,a2,Ut,hsv,_⟩:=id Uo;subst hsv;have Hcs:=lh Uo;have JdI:=lh UI;clear Uo UI;have Jgy:=lh (JdI.row HE9);obtain ⟨z0,z1,y0,y1,-⟩:=aL Jgy;go_wp2_with fail;obtain ⟨QK,L⟩:=aJ (x:=.int .i64 3) (y:=.slice a2 1 Ut) Jgy;refine TV (aA results105 _ _ w.heap.size _ _ _ _ _ rfl rfl QK underlying39 rfl (aG _ rfl)) rfl (QF.out _ _ ?_);unfold lN;rw [TI.out];have z1':=UN.out;have UV:=HL9.quiet JdI;have z9:=HL9.only.size;have zg:=ZB.out;have z2:=QT.size;exact ⟨_,X.only (X.quiet Hk9 JdI) L (fun x hx=>by rw [i5] at hx;subst hx;exact ⟨Yw,fun hx=>(UV.new _ hx).elim (fun a=>I.out (Pv _ a)) (fun a=>Qa)⟩),cQ.end QT.out UV L Qa (Pm _),_,rfl,(Hcs.only L (fun x hx=>by rw [i5] at hx;subst hx;exact .inl Qa)).mono Qa L.size⟩
       ·have YI:=lh (fun D=>hbz (Hxx.1 D):¬ (x < -16320\/16320<x))
        go_upto_if 94 with (fail);go_cut [13] (fun s13 wx=>s13=.int .i64 x/\wc=wx)
        case first =>
         have Ry:=Hx.out;cases neg with
         | true =>
          go_wp2_with fail;go_meet;exact ⟨by rw [<- Ry];show _=Value.int .i64 (-(zn:Int)-1);congr 1;omega,rfl⟩
         | false =>
          go_wp2_with fail;go_meet;exact ⟨by rw [<- Ry];rfl,rfl⟩
        case rest =>
         obtain ⟨rfl,rfl⟩:=hcut;have co9:=(HOs.out wc HL9.only).cellS YA.symm (i:=k) (bC YA Sj);rw [kM,Ha.2] at co9;have cg9:=HO9.cellS UC.symm (i:=a) (by rw [UC.out];exact Ha.1);have fg9:=HO9.frzS UC.symm a;obtain ⟨Ru,Rz⟩:=HO9.storeS UC.symm (x:=x) (by rw [<- Hx.out];cases neg <;> simp only [dW,i7] <;> first | (simp;omega) | omega) a;have Ur:=lh Ru;have UV:=lh (HL9.store Rz);have Xu:=lh (X.only Hk9 Rz (fun y hy=>by rw [i5] at hy;subst hy;exact ⟨by have:=Yw.out;have:=UN.out;omega,HL9.apart ZB.out N.out⟩));clear Ru Rz hzn hvr;go_upto_region 25 with (fail)
         generalize JaR:World.setCell wc _ _=VQ at *
         clear JaR co9 cg9 fg9;go_cut [123] (fun JpQ wx=>∃ (Z:List Nat) (V:X.σ) (t9:Bool),JpQ=.bool t9/\Hid (X.At Z wx V)/\Hid (cQ g F W2 Z wx)/\Hid (f9 .i64 3 g wx (.slice g 16 16) (ol.set a x))/\Hid ((k<15->X.C.bit (14+9+min k 7) (bR l (OD.drop (k+1))) J=(t9,V))/\(¬ k<15->t9=false/\V=J))/\Hid (X.Ok (n0+92+90*k) V))
         case first =>
          by_cases Y:k<15
          ·have Xy:(k:Int)<15:=Qa
           have HB9:=lh (fun (wx:World) (Fx:List Nat) (hx:X.At Fx wx J) (b:Bool) (hb:b=bR l (OD.drop (k+1))) (y:Int) (hy:y=((14+9+min k 7:Nat):Int))=>(by subst hb;subst hy;exact X.bit (14+9+min k 7) _ hx Ok3 Qa Qa:Calls prog 163 #[.pointer R,y,.bool b] wx _));have Ok9:=lh (X.ok_bit (14+9+min k 7) (bR l (OD.drop (k+1))) Ok3 Qa);have O:=lh Y;have Sp:=lh (fun (y:Int) (hy:y=((k+1:Nat):Int))=>(by subst hy;exact tG (HLs.out _ UV.only) ((HOs.out _ UV.only).ints) (bC Ra JgO) (k+1) (by rw [Jdo.out];have:=Sj.out;omega):Calls prog 167 #[_,.slice ob 16 Jiu,y] VQ _));go_wp2_with fail
           all_goals
            refine (Sp.out _ Qa).mono ?_;rintro e wy ⟨rfl,rfl⟩;go_wp2_with fail;refine (HB9.out _ _ Xu _ rfl _ Qa).mono ?_;rintro e Uy ⟨rfl,Z,JhU,Wd⟩;have JaM:=lh JhU;have Wu:=lh (UV.went Wd);have Yz:=lh (Ur.only Wd.1 (fun y hy e=>by have e2:g=y:=(eH e);subst e2;exact UV.apart ZB N hy));clear JhU Wd;go_wp2_with fail;go_meet;exact ⟨Z,_,_,rfl,JaM,Wu,Yz,lh ⟨fun _=>rfl,fun D=>absurd O.out D⟩,lh (X.ok_le Ok9 Qa)⟩
          ·have Xy:¬ (k:Int)<15:=Qa
           have O:=lh Y;go_wp2_with fail;go_meet;exact ⟨F9,J,false,rfl,Xu,UV,Ur,lh ⟨fun D=>absurd D O,fun _=>⟨rfl,rfl⟩⟩,lh (X.ok_le Ok3 Qa)⟩
         case rest =>
          obtain ⟨Z,V,t9,rfl,JaM,Wu,Yz,Hb9,Ok9⟩:=hcut;cases t9 with
          | true =>
           have Y:k<15:=by rcases Nat.lt_or_ge k 15 with D | D;exact D;exact absurd (Hb9.2 Qa).1 Qb
           have TI:Hid (aR X.C 4 l s=(.ok (ol.set a x),V)):=lh (by rw [HC.out,<- He.out,RV.out];exact pF Y (by rw [<- Hv.out];exact M.1 Y) HLe YI (Hb9.1 Y));clear Y;have E:=lh (Wu.only.rowAt HE2 I);obtain ⟨z0,z1,y0,y1,-⟩:=aL E;go_wp2_with fail;obtain ⟨QK,L⟩:=aJ (x:=.int .i64 0) (y:=.slice none 0 0) E;refine TV (aA results105 _ _ w.heap.size _ _ _ _ _ rfl rfl QK underlying39 rfl (aG _ rfl)) rfl (QF.out _ _ ?_);unfold lN;rw [TI.out];have z1':=UN.out;exact ⟨_,X.only JaM.out L (fun x hx=>by rw [i5] at hx;subst hx;exact ⟨Yw,fun hx=>(Wu.new _ hx).elim (fun a=>I.out (Pv _ a)) (fun a=>by have:=QT.size;have:=ZB.out;omega)⟩),cQ.end QT.out Wu.out L Qa (Pm _),_,rfl,(Yz.only L (fun x hx e=>by have e2:g=x:=(eH e);rw [i5] at hx;omega)).lower Qa,fun x e=>by have e2:g=x:=(eH e);subst e2;exact Wu.apart ZB N⟩
          | false =>
           have Tk:Hid (aH X.C 14 15 l (a :: OD.drop (k+1)) k ol sc=aH X.C 14 15 l (OD.drop (k+1)) (k+1) (ol.set a x) V):=lh (by
            rcases Nat.lt_or_ge k 15 with D | D
            ·exact pG D (by rw [<- Hv.out];exact M.1 D) HLe YI (Hb9.1 D)
            ·rw [(Hb9.2 Qa).2]
             exact nz Qa (by rw [<- (M.2 Qa).2];exact HLe) YI)
           go_wp2_with fail;exact ⟨⟨k+1,Z,_,_,by have:=Sj.out;omega,Qh,JaM,Wu,Yz,lh (dn PF UC),lh (by rw [<- He.out,RV.out];exact Tk.symm),lh (X.ok_le Ok9 Qa)⟩,by simp [intOf];have:=Sj.out;omega⟩
   ·obtain rfl:k=16:=Qa
    have Rt:¬ ((16:Nat):Int)<16:=Qa;have TI:Hid (aR X.C 4 l s=(.ok ol,sc)):=lh (by rw [HC.out,<- He.out,C1 (eC Jdo)];rfl);have E:=lh (UW.only.rowAt HE2 I);obtain ⟨z0,z1,y0,y1,-⟩:=aL E;go_wp2_with fail;obtain ⟨QK,L⟩:=aJ (x:=.int .i64 0) (y:=.slice none 0 0) E;refine TV (aA results105 _ _ w.heap.size _ _ _ _ _ rfl rfl QK underlying39 rfl (aG _ rfl)) rfl (QF.out _ _ ?_);unfold lN;rw [TI.out];have z1':=UN.out;exact ⟨_,X.only ZE.out L (fun x hx=>by rw [i5] at hx;subst hx;exact ⟨Yw,fun hx=>(UW.new _ hx).elim (fun a=>I.out (Pv _ a)) (fun a=>by have:=QT.size;have:=ZB.out;omega)⟩),cQ.end QT.out UW.out L Qa (Pm _),_,rfl,(Vq.only L (fun x hx e=>by have e2:g=x:=(eH e);rw [i5] at hx;omega)).lower Qa,fun x e=>by have e2:g=x:=(eH e);subst e2;exact UW.apart ZB N⟩
theorem CP {R:Nat} (X:KC R) {F:List Nat} {w:World} {s:X.σ} {n0 lo' hi':Nat} {lv:Value} {l:List Int} (h:X.At F w s) (hl:aj .i64 lo' hi' w lv l) (QJ:l.length=64) (Re:cE l) (hap:∀ g∈F,g<lo'\/hi'<=g) (hw:hi'<=w.heap.size) (ok:X.Ok n0 s) (hn:n0<=700000000) :
  Calls prog 105 #[.pointer R,lv] w (lN X F w (aR X.C 8 l s)):=by
 refine aK fun Q QF=>?_
 obtain ⟨la,Rl,hlv,-⟩:=hl.open;rw [QJ] at hlv;subst hlv;have hwi:aO l (-16320) 16320=true:=uI Re;have YF:=lh (fun (wx:World) (o:ae [] w wx)=>bQ (-16320) 16320 (hl.quiet o));rw [hwi] at YF;have HZe:=lh (fun (wx:World) (o:ae [] w wx)=>qL (hl.quiet o));have Tc:=lh (fun (wx:World) (o:ae [] w wx) (b:Bool) (hb:b=!cN l)=>(by subst hb;exact X.bit 39 _ (X.quiet h o) ok Qa Qa:Calls prog 163 #[.pointer R,.int .i64 39,.bool b] wx _));have Jhq:=lh (X.ok_bit 39 (!cN l) ok Qa);have HL:=lh hl;have Jde:=lh (X.lt h);have Yw:=lh (X.base_le h);have Hap:=lh hap;have Hw:=lh hw;have Ra:=lh QJ;have YL:=lh Re;have HC:Hid (aR X.C 8 l s=if (X.C.bit 39 (!cN l) s).1 then aH X.C 39 63 l (aD 8) 0 (List.replicate 64 0) (X.C.bit 39 (!cN l) s).2 else (.ok (List.replicate 64 0),(X.C.bit 39 (!cN l) s).2)):=lh rfl;have Vq:=lh (fun (wx:World)=>Ab wx);have Jdo:=lh (gQ);have JgO:=lh (oU);have YA:Hid ((cY (aD 8)).length=64):=lh (by rw [show (cY (aD 8)).length=(aD 8).length by simp [cY]];exact gQ);generalize aD 8=OD at *
 have Xz:=ae.new w (.cells #[(),d8] 39);have HE0:Hid ((w.alloc (.cells #[(),d8] 39)).heap[w.heap.size]?=some (.cells #[(),d8] 39)):=Sd w _;have HQ0:=lh Xz;clear h hl Re hap hw ok hwi Xz;go_enter func105,ntmps105;go_wp2_with fail;generalize hW0:World.alloc w _=w0 at *
 have Yg:Hid (w.heap.size<w0.heap.size):=lh (l8.1 HE0).1;clear hW0;refine (YF.out w0 HQ0).mono ?_;rintro e w1 ⟨rfl,rfl⟩;go_wp2_with fail;refine (Dd _).mono ?_;rintro e w1 ⟨rfl,rfl⟩;go_wp2_with fail;refine (Vq.out _).mono ?_;rintro e w1 ⟨ov,rfl,Ux,QI⟩;have Xl:(cY OD).length=64:=YA.out;obtain ⟨ob,Jiu,hov,Jbc,Jbd⟩:=Ux.form Qa;rw [Xl] at hov;subst hov;have JbV:=lh Ux;have QO:=lh (HQ0.q QI);have HE1:=lh (QI.row HE0);have UN:=lh (PH Yg QI.size);have WW:=lh (VL (PH Yg Jbc) Jbd);clear Ux QI Xl Jbc Jbd;have Uv:∀ W:World,(Instr.makeSlice 22 (.int .i64 64) (.int .i64 64)).run prog W=.ok (.slice W.heap.size 64 64) (W.alloc (.cells (madeCells #[()] 64) 3)):=fun wz=>run_make_row' (P:=prog) 22 3 (.int .i64 0) 8 EI.ut Qc rfl .i64 .i64 64 Qa Qa wz
 go_wp2_with fail;clear Uv;have Vf:=ae.new w1 (.cells (madeCells #[()] 64) 3);have YB:Hid (f9 .i64 3 w1.heap.size (w1.alloc (.cells (madeCells #[()] 64) 3)) (.slice w1.heap.size 64 64) (List.replicate 64 0)):=gB .i64 3 w1 64 Qj;have QT:=lh (QO.q Vf);have HE2:=lh (Vf.row HE1);have JaF:=lh (JbV.quiet Vf);have ZB:Hid (w1.heap.size<(w1.alloc (.cells (madeCells #[()] 64) 3)).heap.size):=lh Qb;generalize VZ:World.alloc w1 _=W2 at *
 clear Vf VZ JbV HE1 HE0;generalize hgg:w1.heap.size=g at *
 clear hgg;have N:Hid (g∉F):=lh (fun hx=>by have:=Jde.out g hx;have:=UN.out;omega);have I:Hid (w.heap.size∉g :: F):=lh (fun hx=>by rcases Zb.1 hx with hx | hx;have:=UN.out;omega;have:=Jde.out _ hx;omega);have HLs:=lh (fun (wx:World) (o:ae (g :: F) W2 wx)=>(HL.quiet QT).only o (fun x hx=>by rcases Zb.1 hx with rfl | hx;right;have:=UN.out;have:=Hw.out;omega;exact Hap.out x hx));have HOs:=lh (fun (wx:World) (o:ae (g :: F) W2 wx)=>JaF.only o (fun x hx e=>by have e2:ob=x:=(eH e);subst e2;rcases Zb.1 hx with hx | hx;have:=WW.2;omega;have:=Jde.out _ hx;have:=WW.1;omega));refine (HZe.out W2 QT).mono ?_;rintro e w2 ⟨rfl,rfl⟩;go_wp2_with fail;refine (Tc.out W2 QT _ rfl).mono ?_;rintro e w3 ⟨rfl,F1,Ub,hg3⟩;have Hk3:=lh Ub;have HL3:Hid (cQ g F W2 F1 w3):=cQ.went ⟨AY,fun x hx=>.inl hx⟩ hg3;have Ui:Hid (f9 .i64 3 g w3 (.slice g 64 64) (List.replicate 64 0)):=YB.only hg3.1 (fun x hx e=>by have e2:g=x:=(eH e);subst e2;exact N.out hx);clear Ub hg3 Tc HZe YF YB;generalize X.C.bit 39 (!cN l) s=b1 at *
 obtain ⟨t1,s1⟩:=b1;simp only at Hk3 HC Jhq |-
 cases t1 with
 | false =>
  rw [if_neg Qb] at HC
  skip
  have E:=lh (HL3.only.rowAt HE2 I);obtain ⟨z0,z1,y0,y1,-⟩:=aL E;go_wp2_with fail;obtain ⟨QK,L⟩:=aJ (x:=.int .i64 0) (y:=.slice none 0 0) E;refine TV (aA results105 _ _ w.heap.size _ _ _ _ _ rfl rfl QK underlying39 rfl (aG _ rfl)) rfl (QF.out _ _ ?_);unfold lN;rw [HC.out];have z1':=UN.out;exact ⟨_,X.only Hk3.out L (fun x hx=>by rw [i5] at hx;subst hx;exact ⟨Yw,fun hx=>(HL3.new _ hx).elim (fun a=>I.out (Pv _ a)) (fun a=>by have:=QT.size;have:=ZB.out;omega)⟩),cQ.end QT.out HL3.out L Qa (Pm _),_,rfl,(Ui.only L (fun x hx e=>by have e2:g=x:=(eH e);rw [i5] at hx;omega)).lower Qa,fun x e=>by have e2:g=x:=(eH e);subst e2;exact HL3.apart ZB N⟩
 | true =>
  rw [if_pos rfl] at HC;go_wp2_with fail;go_loopw [10] (fun i wr=>∃ (k:Nat) (Fc:List Nat) (sc:X.σ) (ol:List Int),k<=64/\i=.int .i64 k/\Hid (X.At Fc wr sc)/\Hid (cQ g F W2 Fc wr)/\Hid (f9 .i64 3 g wr (.slice g 64 64) ol)/\Hid (ol.length=64)/\Hid (aH X.C 39 63 l (OD.drop k) k ol sc=aH X.C 39 63 l OD 0 (List.replicate 64 0) s1)/\Hid (X.Ok (n0+2+90*k) sc)) (fun i _=>64-(intOf i).toNat)
  case atStart=>exact ⟨0,_,s1,_,Qa,rfl,Hk3,HL3,Ui,lh Qb,lh rfl,lh (X.ok_le Jhq Qa)⟩
  case round =>
   obtain ⟨k,Fc,sc,ol,hk,rfl,ZE,UW,Vq,UC,He,Ho⟩:=hrel;by_cases QH:k<64
   ·have Rt:(k:Int)<64:=Qa
    have RA:(0:Int)<=(k:Int):=Qa;obtain ⟨a,⟨ha1,YR⟩,Tp⟩:∃ a,(a<64/\OD.getD k 0=a)/\OD.drop k=a :: OD.drop (k+1):=by
     have hk':k<OD.length:=bC Jdo QH
     exact ⟨OD[k],⟨JgO.out _ (PG _),by simp [hk']⟩,Py hk'⟩
    obtain ⟨lb,Tu,Jax,he,Jpd,Jpe,hc⟩:=(HLs.out wr UW.only).at (i:=a) (bC Ra ha1);injection he with he1 he2 he3
    subst he1;clear he2 he3 Jpd Jpe;have cl:=hc;have co:=(HOs.out wr UW.only).cellS YA.symm (i:=k) (bC YA QH);rw [kM,YR] at co;have hai:(0:Int)<=(a:Int):=Qa;have JoJ:(a:Int)<64:=Qa;have hvr:-16320<=l.getD a 0/\l.getD a 0<=16320:=YL.out _ (by rw [Pd,Pe (bC Ra ha1)];exact PG _);have RV:=lh Tp;have Ha:=lh (VL ha1 YR);have Sj:=lh QH;have Hv:Hid (∃ v,v=l.getD a 0):=lh ⟨_,rfl⟩;obtain ⟨v,hv⟩:=Hv.out;rw [<- hv] at cl hvr;have Hv:=lh hv;clear Tp YR hv hc;have Vr:=lh (fun (wx:World) (Fx:List Nat) (hx:bA Fc wr Fx wx)=>(Vq.only hx.1 (fun x hx e=>by have e2:g=x:=(eH e);subst e2;exact UW.apart ZB N hx):f9 .i64 3 g wx (.slice g 64 64) ol));clear ha1;go_upto_region 17 with (fail)
    go_cut [76] (fun s76 wx=>∃ (F7:List Nat) (s7:X.σ) (sk:Bool),s76=.bool sk/\Hid (X.At F7 wx s7)/\Hid (bA Fc wr F7 wx)/\Hid ((k<63->X.C.bit (39+1+min k 7) (decide (v≠0)) sc=(!sk,s7))/\(¬ k<63->sk=false/\s7=sc))/\Hid (X.Ok (n0+4+90*k) s7))
    case first =>
     by_cases Y:k<63
     ·have Xy:(k:Int)<63:=Qa
      have TR:=lh (fun (wx:World) (Fx:List Nat) (hx:X.At Fx wx sc) (b:Bool) (hb:b=decide (v≠0)) (y:Int) (hy:y=((39+1+min k 7:Nat):Int))=>(by subst hb;subst hy;exact X.bit (39+1+min k 7) _ hx Ho Qa Qa:Calls prog 163 #[.pointer R,y,.bool b] wx _));have WY:=lh (X.ok_bit (39+1+min k 7) (decide (v≠0)) Ho Qa);obtain ⟨B1,hB1⟩:∃ y,y=X.C.bit (39+1+min k 7) (decide (v≠0)) sc:=⟨_,rfl⟩
      rw [<- hB1] at TR WY;obtain ⟨t1,s1'⟩:=B1;simp only at TR WY;have JmP:=lh hB1.symm;clear hB1;have O:=lh Y;clear cl co;go_wp2_with fail
      all_goals
       refine (TR.out _ _ ZE _ (by first | rfl | exact bG _ _ | exact aX _ _ | omega) _ Qa).mono ?_;rintro e w7 ⟨rfl,F7,Vk,Ul⟩;have WU:=lh Vk;have Hg7:=lh (Ul);clear Vk Ul;go_wp2_with fail;go_meet;exact ⟨F7,s1',_,rfl,WU,Hg7,lh ⟨fun _=>by rw [JmP.out,Bool.not_not],fun D=>absurd O.out D⟩,lh (X.ok_le WY Qa)⟩
     ·have Xy:¬ (k:Int)<63:=Qa
      have O:=lh Y;clear cl co;go_wp2_with fail;go_meet;exact ⟨Fc,sc,false,rfl,ZE,lh (bA.refl _ _),lh ⟨fun D=>absurd D O,fun _=>⟨rfl,rfl⟩⟩,lh (X.ok_le Ho Qa)⟩
    case rest =>
     obtain ⟨F7,s7,sk,rfl,WU,Hg7,M,Ok7⟩:=hcut;clear cl co;cases sk with
     | true =>
      have Y:k<63:=by rcases Nat.lt_or_ge k 63 with D | D;exact D;exact absurd (M.2 Qa).1 Qb
      have Tk:=lh (pH (base:=39) (a:=a) (l:=l) (m:=sc) (m1:=s7) (rest:=OD.drop (k+1)) (out:=ol) Y (by rw [<- Hv.out];exact M.1 Y));clear Y;have Uj:=lh (Vr.out _ _ Hg7);have HL7:=lh (UW.went Hg7);go_wp2_with fail;exact ⟨⟨k+1,F7,_,ol,by have:=Sj.out;omega,Qh,WU,HL7,Uj,UC,lh (by rw [<- He.out,RV.out];exact Tk.symm),lh (X.ok_le Ok7 Qa)⟩,by simp [intOf];have:=Sj.out;omega⟩
     | false =>
      have Vp:=lh (fun (wx:World) (Fx:List Nat) (hx:X.At Fx wx s7) (b:Bool) (hb:b=decide (v<0))=>(by subst hb;exact X.flat _ hx Ok7 Qa:Calls prog 162 #[.pointer R,.bool b] wx _));have XE:=X.ok_flat (decide (v<0)) Ok7;obtain ⟨FL,hFL⟩:∃ y,y=X.C.flat (decide (v<0)) s7:=⟨_,rfl⟩
      rw [<- hFL] at Vp XE;obtain ⟨neg,s2'⟩:=FL;simp only at Vp XE;have Ok2:=lh XE;have YE:=lh (fun (wx:World) (Fx:List Nat) (hx:X.At Fx wx s2') (y:Int) (hy:y=max v (-v)-1)=>(by subst hy;exact wb X hx (base:=39) Qa _ Qa Ok2 Qa:Calls prog 166 #[.pointer R,.int .i64 39,y] wx _));obtain ⟨ok3,hzn⟩:=Bv X (base:=39) Qa (max v (-v)-1) XE;obtain ⟨SZ,hSZ⟩:∃ y,y=dz X.C 39 (max v (-v)-1) s2':=⟨_,rfl⟩
      rw [<- hSZ] at YE ok3 hzn;obtain ⟨zn,J⟩:=SZ;simp only at YE ok3 hzn;have Ok3:=lh ok3;have JgJ:Hid (aV X.C 39 (l.getD a 0) s7=(dW neg zn,J)):=ww (by rw [<- Hv.out];exact hFL.symm) (by rw [<- Hv.out];exact hSZ.symm);clear XE ok3 hFL hSZ;obtain ⟨x,hx⟩:∃ x,dW neg zn=x:=⟨_,rfl⟩
      have HLe:Hid (aV X.C 39 (l.getD a 0) s7=(x,J)):=lh (by rw [JgJ.out,hx]);have Hx:=lh hx;have Wh:(x < -16320\/16320<x)↔16320<(zn:Int)+1:=by rw [<- hx];cases neg <;> simp only [dW] <;> first | (simp;omega) | omega
      clear hx JgJ;have Hxx:=lh Wh;clear Wh;go_wp2_with fail;refine (Vp.out _ _ WU _ (by first | rfl | exact bG _ _ | exact aX _ _ | omega)).mono ?_;rintro e w8 ⟨rfl,F8,Xa,UE⟩;have Hk8:=lh Xa;have Hg8:=lh (Hg7.trans UE);clear Xa UE;go_upto_region 19 with (fail)
      go_cut [13] (fun s13 wx=>∃ (F9:List Nat),s13=.int .i64 ((zn:Int)+1)/\Hid (X.At F9 wx J)/\Hid (bA Fc wr F9 wx))
      case first =>
       go_wp2_with fail
       all_goals
        refine (YE.out _ _ Hk8 _ Qa).mono ?_;rintro e w9 ⟨rfl,F9,hk9,hg9⟩;have Hk9:=lh hk9;have Hg9:=lh (Hg8.trans hg9);clear hk9 hg9;go_wp2_with fail;go_meet;exact ⟨F9,rfl,Hk9,Hg9⟩
      case rest =>
       obtain ⟨F9,rfl,Hk9,Hg9⟩:=hcut;have HL9:=lh (UW.went Hg9);have HO9:=lh (Vr.out _ _ Hg9);by_cases hbz:16320<(zn:Int)+1
       ·have JdS:=Hxx.2 hbz
        have TI:Hid (aR X.C 8 l s=(.error ⟨[(kP,(k:Int))],3⟩,J)):=lh (by
         rw [HC.out,<- He.out,RV.out];rcases Nat.lt_or_ge k 63 with D | D
         ·exact rW D (by rw [<- Hv.out];exact M.1 D) HLe JdS
         ·exact pE Qa (by rw [<- (M.2 Qa).2];exact HLe) JdS)
        clear JdS;have HE9:=lh (HL9.only.rowAt HE2 I);go_wp2_with fail;refine (uJ _ _ 3 _ Qa).mono ?_;rintro e VQ ⟨kv,rfl,⟨sv,rfl,Uo⟩,UI⟩;obtain ⟨_,a2,Ut,hsv,_⟩:=id Uo;subst hsv;have Hcs:=lh Uo;have JdI:=lh UI;clear Uo UI;have Jgy:=lh (JdI.row HE9);obtain ⟨z0,z1,y0,y1,-⟩:=aL Jgy;go_wp2_with fail;obtain ⟨QK,L⟩:=aJ (x:=.int .i64 3) (y:=.slice a2 1 Ut) Jgy;refine TV (aA results105 _ _ w.heap.size _ _ _ _ _ rfl rfl QK underlying39 rfl (aG _ rfl)) rfl (QF.out _ _ ?_);unfold lN;rw [TI.out];have z1':=UN.out;have UV:=HL9.quiet JdI;have z9:=HL9.only.size;have zg:=ZB.out;have z2:=QT.size;exact ⟨_,X.only (X.quiet Hk9 JdI) L (fun x hx=>by rw [i5] at hx;subst hx;exact ⟨Yw,fun hx=>(UV.new _ hx).elim (fun a=>I.out (Pv _ a)) (fun a=>Qa)⟩),cQ.end QT.out UV L Qa (Pm _),_,rfl,(Hcs.only L (fun x hx=>by rw [i5] at hx;subst hx;exact .inl Qa)).mono Qa L.size⟩
       ·have YI:=lh (fun D=>hbz (Hxx.1 D):¬ (x < -16320\/16320<x))
        go_upto_if 94 with (fail);go_cut [13] (fun s13 wx=>s13=.int .i64 x/\wc=wx)
        case first =>
         have Ry:=Hx.out;cases neg with
         | true =>
          go_wp2_with fail;go_meet;exact ⟨by rw [<- Ry];show _=Value.int .i64 (-(zn:Int)-1);congr 1;omega,rfl⟩
         | false =>
          go_wp2_with fail;go_meet;exact ⟨by rw [<- Ry];rfl,rfl⟩
        case rest =>
         obtain ⟨rfl,rfl⟩:=hcut;have co9:=(HOs.out wc HL9.only).cellS YA.symm (i:=k) (bC YA Sj);rw [kM,Ha.2] at co9;have cg9:=HO9.cellS UC.symm (i:=a) (by rw [UC.out];exact Ha.1);have fg9:=HO9.frzS UC.symm a;obtain ⟨Ru,Rz⟩:=HO9.storeS UC.symm (x:=x) (by rw [<- Hx.out];cases neg <;> simp only [dW,i7] <;> first | (simp;omega) | omega) a;have Ur:=lh Ru;have UV:=lh (HL9.store Rz);have Xu:=lh (X.only Hk9 Rz (fun y hy=>by rw [i5] at hy;subst hy;exact ⟨by have:=Yw.out;have:=UN.out;omega,HL9.apart ZB.out N.out⟩));clear Ru Rz hzn hvr;go_upto_region 25 with (fail)
         generalize JaR:World.setCell wc _ _=VQ at *
         clear JaR co9 cg9 fg9;go_cut [123] (fun JpQ wx=>∃ (Z:List Nat) (V:X.σ) (t9:Bool),JpQ=.bool t9/\Hid (X.At Z wx V)/\Hid (cQ g F W2 Z wx)/\Hid (f9 .i64 3 g wx (.slice g 64 64) (ol.set a x))/\Hid ((k<63->X.C.bit (39+9+min k 7) (bR l (OD.drop (k+1))) J=(t9,V))/\(¬ k<63->t9=false/\V=J))/\Hid (X.Ok (n0+92+90*k) V))
         case first =>
          by_cases Y:k<63
          ·have Xy:(k:Int)<63:=Qa
           have HB9:=lh (fun (wx:World) (Fx:List Nat) (hx:X.At Fx wx J) (b:Bool) (hb:b=bR l (OD.drop (k+1))) (y:Int) (hy:y=((39+9+min k 7:Nat):Int))=>(by subst hb;subst hy;exact X.bit (39+9+min k 7) _ hx Ok3 Qa Qa:Calls prog 163 #[.pointer R,y,.bool b] wx _));have Ok9:=lh (X.ok_bit (39+9+min k 7) (bR l (OD.drop (k+1))) Ok3 Qa);have O:=lh Y;have Sp:=lh (fun (y:Int) (hy:y=((k+1:Nat):Int))=>(by subst hy;exact tG (HLs.out _ UV.only) ((HOs.out _ UV.only).ints) (bC Ra JgO) (k+1) (by rw [Jdo.out];have:=Sj.out;omega):Calls prog 167 #[_,.slice ob 64 Jiu,y] VQ _));go_wp2_with fail
           all_goals
            refine (Sp.out _ Qa).mono ?_;rintro e wy ⟨rfl,rfl⟩;go_wp2_with fail;refine (HB9.out _ _ Xu _ rfl _ Qa).mono ?_;rintro e Uy ⟨rfl,Z,JhU,Wd⟩;have JaM:=lh JhU;have Wu:=lh (UV.went Wd);have Yz:=lh (Ur.only Wd.1 (fun y hy e=>by have e2:g=y:=(eH e);subst e2;exact UV.apart ZB N hy));clear JhU Wd;go_wp2_with fail;go_meet;exact ⟨Z,_,_,rfl,JaM,Wu,Yz,lh ⟨fun _=>rfl,fun D=>absurd O.out D⟩,lh (X.ok_le Ok9 Qa)⟩
          ·have Xy:¬ (k:Int)<63:=Qa
           have O:=lh Y;go_wp2_with fail;go_meet;exact ⟨F9,J,false,rfl,Xu,UV,Ur,lh ⟨fun D=>absurd D O,fun _=>⟨rfl,rfl⟩⟩,lh (X.ok_le Ok3 Qa)⟩
         case rest =>
          obtain ⟨Z,V,t9,rfl,JaM,Wu,Yz,Hb9,Ok9⟩:=hcut;cases t9 with
          | true =>
           have Y:k<63:=by rcases Nat.lt_or_ge k 63 with D | D;exact D;exact absurd (Hb9.2 Qa).1 Qb
           have TI:Hid (aR X.C 8 l s=(.ok (ol.set a x),V)):=lh (by rw [HC.out,<- He.out,RV.out];exact pF Y (by rw [<- Hv.out];exact M.1 Y) HLe YI (Hb9.1 Y));clear Y;have E:=lh (Wu.only.rowAt HE2 I);obtain ⟨z0,z1,y0,y1,-⟩:=aL E;go_wp2_with fail;obtain ⟨QK,L⟩:=aJ (x:=.int .i64 0) (y:=.slice none 0 0) E;refine TV (aA results105 _ _ w.heap.size _ _ _ _ _ rfl rfl QK underlying39 rfl (aG _ rfl)) rfl (QF.out _ _ ?_);unfold lN;rw [TI.out];have z1':=UN.out;exact ⟨_,X.only JaM.out L (fun x hx=>by rw [i5] at hx;subst hx;exact ⟨Yw,fun hx=>(Wu.new _ hx).elim (fun a=>I.out (Pv _ a)) (fun a=>by have:=QT.size;have:=ZB.out;omega)⟩),cQ.end QT.out Wu.out L Qa (Pm _),_,rfl,(Yz.only L (fun x hx e=>by have e2:g=x:=(eH e);rw [i5] at hx;omega)).lower Qa,fun x e=>by have e2:g=x:=(eH e);subst e2;exact Wu.apart ZB N⟩
          | false =>
           have Tk:Hid (aH X.C 39 63 l (a :: OD.drop (k+1)) k ol sc=aH X.C 39 63 l (OD.drop (k+1)) (k+1) (ol.set a x) V):=lh (by
            rcases Nat.lt_or_ge k 63 with D | D
            ·exact pG D (by rw [<- Hv.out];exact M.1 D) HLe YI (Hb9.1 D)
            ·rw [(Hb9.2 Qa).2]
             exact nz Qa (by rw [<- (M.2 Qa).2];exact HLe) YI)
           go_wp2_with fail;exact ⟨⟨k+1,Z,_,_,by have:=Sj.out;omega,Qh,JaM,Wu,Yz,lh (dn PF UC),lh (by rw [<- He.out,RV.out];exact Tk.symm),lh (X.ok_le Ok9 Qa)⟩,by simp [intOf];have:=Sj.out;omega⟩
   ·obtain rfl:k=64:=Qa
    have Rt:¬ ((64:Nat):Int)<64:=Qa;have TI:Hid (aR X.C 8 l s=(.ok ol,sc)):=lh (by rw [HC.out,<- He.out,C1 (eC Jdo)];rfl);have E:=lh (UW.only.rowAt HE2 I);obtain ⟨z0,z1,y0,y1,-⟩:=aL E;go_wp2_with fail;obtain ⟨QK,L⟩:=aJ (x:=.int .i64 0) (y:=.slice none 0 0) E;refine TV (aA results105 _ _ w.heap.size _ _ _ _ _ rfl rfl QK underlying39 rfl (aG _ rfl)) rfl (QF.out _ _ ?_);unfold lN;rw [TI.out];have z1':=UN.out;exact ⟨_,X.only ZE.out L (fun x hx=>by rw [i5] at hx;subst hx;exact ⟨Yw,fun hx=>(UW.new _ hx).elim (fun a=>I.out (Pv _ a)) (fun a=>by have:=QT.size;have:=ZB.out;omega)⟩),cQ.end QT.out UW.out L Qa (Pm _),_,rfl,(Vq.only L (fun x hx e=>by have e2:g=x:=(eH e);rw [i5] at hx;omega)).lower Qa,fun x e=>by have e2:g=x:=(eH e);subst e2;exact UW.apart ZB N⟩
end Go.Proofs.YthcafdfdglfabaaGreatDoor
