/- Joined texts: DRkC4, DRkC8. Conditions: each part names its own. -/
import Derived.Test.YthcafdfdglfabaaGreatDoorR2
namespace Go.Proofs.YthcafdfdglfabaaGreatDoor
open Go.RowKit
set_option linter.unusedVariables false
set_option linter.unusedSimpArgs false
set_option maxRecDepth 100000
set_option maxHeartbeats 16000000
theorem zE {R:Nat} (X:KC R) {F:List Nat} {w:World} {s:X.σ} {n0 lo' hi':Nat} {lv:Value} {l:List Int} (h:X.At F w s) (hl:ah .i64 lo' hi' w lv l) (MR:l.length=16) (Nj:cu l) (hap:∀ g∈F,g<lo'\/hi'<=g) (hw:hi'<=w.heap.size) (ok:X.Ok n0 s) (hn:n0<=700000000) :
  Calls Tryz.prog 105 #[.pointer (some ⟨R,0,none⟩),lv] w (ks X F w (aT X.C 4 l s)):=by
 refine aN fun Q MM=>?_
 obtain ⟨la,Nn,WE,-⟩:=hl.open;rw [MR] at WE;subst WE;have hwi:aX l (-16320) 16320=true:=sD Nj;have Wp:=lh (fun (wx:World) (o:ae [] w wx)=>bS (-16320) 16320 (hl.quiet o));rw [hwi] at Wp;have HZe:=lh (fun (wx:World) (o:ae [] w wx)=>oY (hl.quiet o));have OY:=lh (fun (wx:World) (o:ae [] w wx) (b:Bool) (hb:b=!cB l)=>(by subst hb;exact X.bit 14 _ (X.quiet h o) ok Mf Mf:Calls Tryz.prog 163 #[.pointer (some ⟨R,0,none⟩),.int .i64 14,.bool b] wx _));have Jdl:=lh (X.ok_bit 14 (!cB l) ok Mf);have HL:=lh hl;have Zy:=lh (X.lt h);have Uy:=lh (X.base_le h);have Zj:=lh hap;have Hw:=lh hw;have Ni:=lh MR;have UI:=lh Nj;have HC:Hid (aT X.C 4 l s=if (X.C.bit 14 (!cB l) s).1 then aF X.C 14 15 l (aC 4) 0 (List.replicate 16 0) (X.C.bit 14 (!cB l) s).2 else (.ok (List.replicate 16 0),(X.C.bit 14 (!cB l) s).2)):=lh rfl;have Ro:=lh (fun (wx:World)=>xo wx);have ZJ:=lh (fN);have JcN:=lh (nh);have UB:Hid ((cJ (aC 4)).length=16):=lh (by rw [show (cJ (aC 4)).length=(aC 4).length by simp [cJ]];exact fN);generalize aC 4=OD at *
 have Uu:=ae.new w (.cells #[(),JEu] 39);have XQ:Hid ((w.alloc (.cells #[(),JEu] 39)).heap[w.heap.size]?=some (.cells #[(),JEu] 39 (0,0))):=lh (heap_alloc_new w _);have WR:=lh Uu;clear h hl Nj hap hw ok hwi Uu;go_enter Tryz.func105,Tryz.ntmps105;go_wp2_with fail;generalize hW0:World.alloc w _=w0 at *
 have Ul:Hid (w.heap.size<w0.heap.size):=lh (Array.getElem?_eq_some_iff.1 XQ).1;clear hW0;go_at_call 61;refine (Wp.out w0 WR).mono ?_;rintro e w1 ⟨rfl,rfl⟩;go_wp2_with fail;go_at_call 164;refine (zM _).mono ?_;rintro e w1 ⟨rfl,rfl⟩;go_wp2_with fail;go_at_call 165;refine (Ro.out _).mono ?_;rintro e w1 ⟨ov,rfl,Qs,MP⟩;have Tr:(cJ OD).length=16:=UB.out;obtain ⟨ob,Jei,hov,Xd,Xe⟩:=Qs.form Mf;rw [Tr] at hov;subst hov;have Ya:=lh Qs;have MT:=lh (WR.q MP);have Pg:=lh (MP.row XQ);have Sh:=lh (LN Ul MP.size);have Tc:=lh (And.intro (LN Ul Xd) Xe);clear Qs MP Tr Xd Xe;have Rc:∀ W:World,(Instr.makeSlice 22 (.int .i64 16) (.int .i64 16)).run Tryz.prog W=.ok (.slice (some ⟨W.heap.size,0,none⟩) 16 16) (W.alloc (.cells (madeCells #[()] 16) 3)):=fun wz=>run_make_row' (P:=Tryz.prog) 22 3 (.int .i64 0) 8 EI.ut Mh rfl .i64 .i64 16 Mf Mf wz
 go_wp2_with fail;clear Rc;have Rz:=ae.new w1 (.cells (madeCells #[()] 16) 3);have UC:Hid (Own .i64 3 w1.heap.size (w1.alloc (.cells (madeCells #[()] 16) 3)) (.slice (some ⟨w1.heap.size,0,none⟩) 16 16) (List.replicate 16 0)):=lh (fD .i64 3 w1 16 Mo);have Na:=lh (MT.q Rz);have Pk:=lh (Rz.row Pg);have WQ:=lh (Ya.quiet Rz);have VH:Hid (w1.heap.size<(w1.alloc (.cells (madeCells #[()] 16) 3)).heap.size):=lh Mg;generalize Tg:World.alloc w1 _=W2 at *
 clear Rz Tg Ya Pg XQ;generalize hgg:w1.heap.size=g at *
 clear hgg;have ZZ:Hid (g∉F):=lh (fun hx=>by have:=Zy.out g hx;have:=Sh.out;omega);have Yv:Hid (w.heap.size∉g :: F):=lh (fun hx=>by rcases List.mem_cons.1 hx with hx | hx;have:=Sh.out;omega;have:=Zy.out _ hx;omega);have ZG:=lh (fun (wx:World) (o:ae (g :: F) W2 wx)=>(HL.quiet Na).only o (fun x hx=>by rcases List.mem_cons.1 hx with rfl | hx;right;have:=Sh.out;have:=Hw.out;omega;exact Zj.out x hx));have HOs:=lh (fun (wx:World) (o:ae (g :: F) W2 wx)=>WQ.only o (fun x hx e=>by have e2:ob=x:=(by simpa [Value.ownBlock] using e);subst e2;rcases List.mem_cons.1 hx with hx | hx;have:=Tc.2;omega;have:=Zy.out _ hx;have:=Tc.1;omega));go_at_call 92;refine (HZe.out W2 Na).mono ?_;rintro e w2 ⟨rfl,rfl⟩;go_wp2_with fail;go_at_call 163;refine (OY.out W2 Na _ rfl).mono ?_;rintro e w3 ⟨rfl,F1,Qd,Zo⟩;have Hk3:=lh Qd;have HL3:Hid (cC g F W2 F1 w3):=lh (cC.went ⟨ae.refl _ _,fun x hx=>.inl hx⟩ Zo);have Ql:Hid (Own .i64 3 g w3 (.slice (some ⟨g,0,none⟩) 16 16) (List.replicate 16 0)):=lh (UC.only Zo.1 (fun x hx e=>by have e2:g=x:=(by simpa [Value.ownBlock] using e);subst e2;exact ZZ.out hx));clear Qd Zo OY HZe Wp UC;generalize X.C.bit 14 (!cB l) s=b1 at *
 obtain ⟨t1,s1⟩:=b1;simp only at Hk3 HC Jdl |-
 cases t1 with
 | false =>
  rw [if_neg Mg] at HC
  skip
  have XR:=lh (HL3.only.rowAt Pk Yv);obtain ⟨z0,z1,y0,y1,-⟩:=aJ XR;go_wp2_with fail;obtain ⟨MS,Nd⟩:=aH (x:=.int .i64 0) (y:=.slice none 0 0) XR;refine bodyPost_ret (aA Tryz.results105 _ _ w.heap.size _ _ _ _ _ rfl rfl MS Tryz.underlying39 rfl (aR _ rfl)) rfl (MM.out _ _ ?_);unfold ks;rw [HC.out];have z1':=Sh.out;exact ⟨_,X.only Hk3.out Nd (fun x hx=>by rw [mSg] at hx;subst hx;exact ⟨Uy,fun hx=>(HL3.new _ hx).elim (fun a=>Yv.out (Lx _ a)) (fun a=>by have:=Na.size;have:=VH.out;omega)⟩),cC.end Na.out HL3.out Nd Mf (Lm _),_,rfl,(Ql.only Nd (fun x hx e=>by have e2:g=x:=(by simpa [Value.ownBlock] using e);rw [mSg] at hx;omega)).lower Mf,fun x e=>by have e2:g=x:=(by simpa [Value.ownBlock] using e);subst e2;exact HL3.apart VH ZZ⟩
 | true =>
  rw [if_pos rfl] at HC;go_wp2_with fail;go_loopw [10] (fun i wr=>∃ (k:Nat) (Fc:List Nat) (sc:X.σ) (ol:List Int),k<=16/\i=.int .i64 k/\Hid (X.At Fc wr sc)/\Hid (cC g F W2 Fc wr)/\Hid (Own .i64 3 g wr (.slice (some ⟨g,0,none⟩) 16 16) ol)/\Hid (ol.length=16)/\Hid (aF X.C 14 15 l (OD.drop k) k ol sc=aF X.C 14 15 l OD 0 (List.replicate 16 0) s1)/\Hid (X.Ok (n0+2+90*k) sc)) (fun i _=>16-(intOf i).toNat)
  case atStart=>exact ⟨0,_,s1,_,Mf,rfl,Hk3,HL3,Ql,lh Mg,lh rfl,lh (X.ok_le Jdl Mf)⟩
  case round =>
   obtain ⟨k,Fc,sc,ol,hk,rfl,VQ,Ri,Ro,Qz,He,Ho⟩:=hrel;by_cases MO:k<16
   ·have Ny:(k:Int)<16:=Mf
    have NU:(0:Int)<=(k:Int):=Mf;obtain ⟨a,⟨Wu,UR⟩,Qb⟩:∃ a,(a<16/\OD.getD k 0=a)/\OD.drop k=a :: OD.drop (k+1):=by
     have Zq:k<OD.length:=by rw [ZJ.out];exact MO
     exact ⟨OD[k],⟨JcN.out _ (LM _),by simp [Zq]⟩,LC Zq⟩
    obtain ⟨lb,Qh,WI,he,Jkh,Jki,hc⟩:=(ZG.out wr Ri.only).at (i:=a) (by rw [Ni.out];exact Wu);injection he with he1 he2 he3
    subst he1;clear he2 he3 Jkh Jki;have cl:=hc;have co:=(HOs.out wr Ri.only).cellS UB.symm (i:=k) (by rw [UB.out];exact MO);rw [jF,UR] at co;have hai:(0:Int)<=(a:Int):=Mf;have JjT:(a:Int)<16:=Mf;have hvr:-16320<=l.getD a 0/\l.getD a 0<=16320:=UI.out _ (by rw [Le,Lf (by rw [Ni.out];exact Wu)];exact LM _);have OS:=lh Qb;have Ha:=lh (And.intro Wu UR);have Oq:=lh MO;have Hv:Hid (∃ v,v=l.getD a 0):=lh ⟨_,rfl⟩;obtain ⟨v,hv⟩:=Hv.out;rw [<- hv] at cl hvr;have Hv:=lh hv;clear Qb UR hv hc;have Rq:=lh (fun (wx:World) (Fx:List Nat) (hx:bw Fc wr Fx wx)=>(Ro.only hx.1 (fun x hx e=>by have e2:g=x:=(by simpa [Value.ownBlock] using e);subst e2;exact Ri.apart VH ZZ hx):Own .i64 3 g wx (.slice (some ⟨g,0,none⟩) 16 16) ol));clear Wu;go_upto_region 17 with (fail)
    go_cut [76] (fun s76 wx=>∃ (F7:List Nat) (s7:X.σ) (sk:Bool),s76=.bool sk/\Hid (X.At F7 wx s7)/\Hid (bw Fc wr F7 wx)/\Hid ((k<15->X.C.bit (14+1+min k 7) (decide (v≠0)) sc=(!sk,s7))/\(¬ k<15->sk=false/\s7=sc))/\Hid (X.Ok (n0+4+90*k) s7))
    case first =>
     by_cases PH:k<15
     ·have TJ:(k:Int)<15:=Mf
      have PU:=lh (fun (wx:World) (Fx:List Nat) (hx:X.At Fx wx sc) (b:Bool) (hb:b=decide (v≠0)) (y:Int) (hy:y=((14+1+min k 7:Nat):Int))=>(by subst hb;subst hy;exact X.bit (14+1+min k 7) _ hx Ho Mf Mf:Calls Tryz.prog 163 #[.pointer (some ⟨R,0,none⟩),y,.bool b] wx _));have Td:=lh (X.ok_bit (14+1+min k 7) (decide (v≠0)) Ho Mf);obtain ⟨B1,hB1⟩:∃ y,y=X.C.bit (14+1+min k 7) (decide (v≠0)) sc:=⟨_,rfl⟩
      rw [<- hB1] at PU Td;obtain ⟨t1,s1'⟩:=B1;simp only at PU Td;have Jik:=lh hB1.symm;clear hB1;have Hkl:=lh PH;clear cl co;go_wp2_with fail
      all_goals
       go_at_call 163;refine (PU.out _ _ VQ _ (by first | rfl | exact bG _ _ | exact aY _ _ | omega) _ Mf).mono ?_;rintro e w7 ⟨rfl,F7,Rk,Qm⟩;have Ta:=lh Rk;have Hg7:=lh (Qm);clear Rk Qm;go_wp2_with fail;go_meet;exact ⟨F7,s1',_,rfl,Ta,Hg7,lh ⟨fun _=>by rw [Jik.out,Bool.not_not],fun hh=>absurd Hkl.out hh⟩,lh (X.ok_le Td Mf)⟩
     ·have TJ:¬ (k:Int)<15:=Mf
      have Hkl:=lh PH;clear cl co;go_wp2_with fail;go_meet;exact ⟨Fc,sc,false,rfl,VQ,lh (bw.refl _ _),lh ⟨fun hh=>absurd hh Hkl,fun _=>⟨rfl,rfl⟩⟩,lh (X.ok_le Ho Mf)⟩
    case rest =>
     obtain ⟨F7,s7,sk,rfl,Ta,Hg7,ZW,WY⟩:=hcut;clear cl co;cases sk with
     | true =>
      have PH:k<15:=by rcases Nat.lt_or_ge k 15 with hh | hh;exact hh;exact absurd (ZW.2 Mf).1 Mg
      have Pn:=lh (nT (base:=14) (a:=a) (l:=l) (m:=sc) (m1:=s7) (rest:=OD.drop (k+1)) (out:=ol) PH (by rw [<- Hv.out];exact ZW.1 PH));clear PH;have RH:=lh (Rq.out _ _ Hg7);have HL7:=lh (Ri.went Hg7);go_wp2_with fail;exact ⟨⟨k+1,F7,_,ol,by have:=Oq.out;omega,Mm,Ta,HL7,RH,Qz,lh (by rw [<- He.out,OS.out];exact Pn.symm),lh (X.ok_le WY Mf)⟩,by simp [intOf];have:=Oq.out;omega⟩
     | false =>
      have Qu:=lh (fun (wx:World) (Fx:List Nat) (hx:X.At Fx wx s7) (b:Bool) (hb:b=decide (v<0))=>(by subst hb;exact X.flat _ hx WY Mf:Calls Tryz.prog 162 #[.pointer (some ⟨R,0,none⟩),.bool b] wx _));have TS:=X.ok_flat (decide (v<0)) WY;obtain ⟨FL,hFL⟩:∃ y,y=X.C.flat (decide (v<0)) s7:=⟨_,rfl⟩
      rw [<- hFL] at Qu TS;obtain ⟨neg,s2'⟩:=FL;simp only at Qu TS;have Ok2:=lh TS;have VF:=lh (fun (wx:World) (Fx:List Nat) (hx:X.At Fx wx s2') (y:Int) (hy:y=max v (-v)-1)=>(by subst hy;exact tL X hx (base:=14) Mf _ Mf Ok2 Mf:Calls Tryz.prog 166 #[.pointer (some ⟨R,0,none⟩),.int .i64 14,y] wx _));obtain ⟨ok3,hzn⟩:=yB X (base:=14) Mf (max v (-v)-1) TS;obtain ⟨SZ,hSZ⟩:∃ y,y=cY X.C 14 (max v (-v)-1) s2':=⟨_,rfl⟩
      rw [<- hSZ] at VF ok3 hzn;obtain ⟨zn,Zb⟩:=SZ;simp only at VF ok3 hzn;have Ok3:=lh ok3;have JcJ:Hid (aV X.C 14 (l.getD a 0) s7=(dG neg zn,Zb)):=lh (tT (by rw [<- Hv.out];exact hFL.symm) (by rw [<- Hv.out];exact hSZ.symm));clear TS ok3 hFL hSZ;obtain ⟨x,hx⟩:∃ x,dG neg zn=x:=⟨_,rfl⟩
      have Zg:Hid (aV X.C 14 (l.getD a 0) s7=(x,Zb)):=lh (by rw [JcJ.out,hx]);have Hx:=lh hx;have Sm:(x < -16320\/16320<x)↔16320<(zn:Int)+1:=by rw [<- hx];cases neg <;> simp only [dG] <;> first | (simp;omega) | omega
      clear hx JcJ;have Hxx:=lh Sm;clear Sm;go_wp2_with fail;go_at_call 162;refine (Qu.out _ _ Ta _ (by first | rfl | exact bG _ _ | exact aY _ _ | omega)).mono ?_;rintro e w8 ⟨rfl,F8,Th,QE⟩;have WV:=lh Th;have Hg8:=lh (Hg7.trans QE);clear Th QE;go_upto_region 19 with (fail)
      go_cut [13] (fun s13 wx=>∃ (F9:List Nat),s13=.int .i64 ((zn:Int)+1)/\Hid (X.At F9 wx Zb)/\Hid (bw Fc wr F9 wx))
      case first =>
       go_wp2_with fail
       all_goals
        go_at_call 166;refine (VF.out _ _ WV _ Mf).mono ?_;rintro e w9 ⟨rfl,F9,hk9,hg9⟩;have Yw:=lh hk9;have Hg9:=lh (Hg8.trans hg9);clear hk9 hg9;go_wp2_with fail;go_meet;exact ⟨F9,rfl,Yw,Hg9⟩
      case rest =>
       obtain ⟨F9,rfl,Yw,Hg9⟩:=hcut;have HL9:=lh (Ri.went Hg9);have HO9:=lh (Rq.out _ _ Hg9);by_cases hbz:16320<(zn:Int)+1
       ·have Jap:=Hxx.2 hbz
        have PT:Hid (aT X.C 4 l s=(.error ⟨[(jJ,(k:Int))],3⟩,Zb)):=lh (by
         rw [HC.out,<- He.out,OS.out];rcases Nat.lt_or_ge k 15 with hh | hh
         ·exact qi hh (by rw [<- Hv.out];exact ZW.1 hh) Zg Jap
         ·exact nQ Mf (by rw [<- (ZW.2 Mf).2];exact Zg) Jap)
        clear Jap;have HE9:=lh (HL9.only.rowAt Pk Yv);go_wp2_with fail;go_at_call 57;refine (yS _ _ 3 _ Mf).mono ?_;rintro e Sa ⟨kv,rfl,⟨sv,rfl,TI⟩,QI⟩;obtain ⟨_,a2,Rj,hsv,_⟩:=id TI;subst hsv;have Hcs:=lh TI;have Jae:=lh QI;clear TI QI;have Jcy:=lh (Jae.row HE9);obtain ⟨z0,z1,y0,y1,-⟩:=aJ Jcy;go_wp2_with fail;obtain ⟨MS,Nd⟩:=aH (x:=.int .i64 3) (y:=.slice a2 1 Rj) Jcy;refine bodyPost_ret (aA Tryz.results105 _ _ w.heap.size _ _ _ _ _ rfl rfl MS Tryz.underlying39 rfl (aR _ rfl)) rfl (MM.out _ _ ?_);unfold ks;rw [PT.out];have z1':=Sh.out;have QO:=HL9.quiet Jae;have z9:=HL9.only.size;have zg:=VH.out;have z2:=Na.size;exact ⟨_,X.only (X.quiet Yw Jae) Nd (fun x hx=>by rw [mSg] at hx;subst hx;exact ⟨Uy,fun hx=>(QO.new _ hx).elim (fun a=>Yv.out (Lx _ a)) (fun a=>Mf)⟩),cC.end Na.out QO Nd Mf (Lm _),_,rfl,(Hcs.only Nd (fun x hx=>by rw [mSg] at hx;subst hx;exact .inl Mf)).mono Mf Nd.size⟩
       ·have UG:=lh (fun hh=>hbz (Hxx.1 hh):¬ (x < -16320\/16320<x))
        go_upto_if 94 with (fail);go_cut [13] (fun s13 wx=>s13=.int .i64 x/\wc=wx)
        case first =>
         have NA:=Hx.out;cases neg with
         | true =>
          go_wp2_with fail;go_meet;exact ⟨by rw [<- NA];show _=Value.int .i64 (-(zn:Int)-1);congr 1;omega,rfl⟩
         | false =>
          go_wp2_with fail;go_meet;exact ⟨by rw [<- NA];rfl,rfl⟩
        case rest =>
         obtain ⟨rfl,rfl⟩:=hcut;have co9:=(HOs.out wc HL9.only).cellS UB.symm (i:=k) (by rw [UB.out];exact Oq);rw [jF,Ha.2] at co9;have cg9:=HO9.cellS Qz.symm (i:=a) (by rw [Qz.out];exact Ha.1);have fg9:=HO9.frzS Qz.symm a;obtain ⟨NC,NE⟩:=HO9.storeS Qz.symm (x:=x) (by rw [<- Hx.out];cases neg <;> simp only [dG,InK] <;> first | (simp;omega) | omega) a;have Qo:=lh NC;have QO:=lh (HL9.store NE);have TD:=lh (X.only Yw NE (fun y hy=>by rw [mSg] at hy;subst hy;exact ⟨by have:=Uy.out;have:=Sh.out;omega,HL9.apart VH.out ZZ.out⟩));clear NC NE hzn hvr;go_upto_region 25 with (fail)
         generalize TG:World.setCell wc _ _=Sa at *
         clear TG co9 cg9 fg9;go_cut [123] (fun JkT wx=>∃ (XN:List Nat) (Za:X.σ) (t9:Bool),JkT=.bool t9/\Hid (X.At XN wx Za)/\Hid (cC g F W2 XN wx)/\Hid (Own .i64 3 g wx (.slice (some ⟨g,0,none⟩) 16 16) (ol.set a x))/\Hid ((k<15->X.C.bit (14+9+min k 7) (bO l (OD.drop (k+1))) Zb=(t9,Za))/\(¬ k<15->t9=false/\Za=Zb))/\Hid (X.Ok (n0+92+90*k) Za))
         case first =>
          by_cases PH:k<15
          ·have TJ:(k:Int)<15:=Mf
           have HB9:=lh (fun (wx:World) (Fx:List Nat) (hx:X.At Fx wx Zb) (b:Bool) (hb:b=bO l (OD.drop (k+1))) (y:Int) (hy:y=((14+9+min k 7:Nat):Int))=>(by subst hb;subst hy;exact X.bit (14+9+min k 7) _ hx Ok3 Mf Mf:Calls Tryz.prog 163 #[.pointer (some ⟨R,0,none⟩),y,.bool b] wx _));have Ok9:=lh (X.ok_bit (14+9+min k 7) (bO l (OD.drop (k+1))) Ok3 Mf);have Hkl:=lh PH;have Ou:=lh (fun (y:Int) (hy:y=((k+1:Nat):Int))=>(by subst hy;exact rq (ZG.out _ QO.only) ((HOs.out _ QO.only).ints) (by rw [Ni.out];exact JcN) (k+1) (by rw [ZJ.out];have:=Oq.out;omega):Calls Tryz.prog 167 #[_,.slice (some ⟨ob,0,none⟩) 16 Jei,y] Sa _));go_wp2_with fail
           all_goals
            go_at_call 167;refine (Ou.out _ Mf).mono ?_;rintro e wy ⟨rfl,rfl⟩;go_wp2_with fail;go_at_call 163;refine (HB9.out _ _ TD _ rfl _ Mf).mono ?_;rintro e Qt ⟨rfl,XN,JdN,Sk⟩;have WU:=lh JdN;have Sw:=lh (QO.went Sk);have UA:=lh (Qo.only Sk.1 (fun y hy e=>by have e2:g=y:=(by simpa [Value.ownBlock] using e);subst e2;exact QO.apart VH ZZ hy));clear JdN Sk;go_wp2_with fail;go_meet;exact ⟨XN,_,_,rfl,WU,Sw,UA,lh ⟨fun _=>rfl,fun hh=>absurd Hkl.out hh⟩,lh (X.ok_le Ok9 Mf)⟩
          ·have TJ:¬ (k:Int)<15:=Mf
           have Hkl:=lh PH;go_wp2_with fail;go_meet;exact ⟨F9,Zb,false,rfl,TD,QO,Qo,lh ⟨fun hh=>absurd hh Hkl,fun _=>⟨rfl,rfl⟩⟩,lh (X.ok_le Ok3 Mf)⟩
         case rest =>
          obtain ⟨XN,Za,t9,rfl,WU,Sw,UA,Hb9,Ok9⟩:=hcut;cases t9 with
          | true =>
           have PH:k<15:=by rcases Nat.lt_or_ge k 15 with hh | hh;exact hh;exact absurd (Hb9.2 Mf).1 Mg
           have PT:Hid (aT X.C 4 l s=(.ok (ol.set a x),Za)):=lh (by rw [HC.out,<- He.out,OS.out];exact nR PH (by rw [<- Hv.out];exact ZW.1 PH) Zg UG (Hb9.1 PH));clear PH;have XR:=lh (Sw.only.rowAt Pk Yv);obtain ⟨z0,z1,y0,y1,-⟩:=aJ XR;go_wp2_with fail;obtain ⟨MS,Nd⟩:=aH (x:=.int .i64 0) (y:=.slice none 0 0) XR;refine bodyPost_ret (aA Tryz.results105 _ _ w.heap.size _ _ _ _ _ rfl rfl MS Tryz.underlying39 rfl (aR _ rfl)) rfl (MM.out _ _ ?_);unfold ks;rw [PT.out];have z1':=Sh.out;exact ⟨_,X.only WU.out Nd (fun x hx=>by rw [mSg] at hx;subst hx;exact ⟨Uy,fun hx=>(Sw.new _ hx).elim (fun a=>Yv.out (Lx _ a)) (fun a=>by have:=Na.size;have:=VH.out;omega)⟩),cC.end Na.out Sw.out Nd Mf (Lm _),_,rfl,(UA.only Nd (fun x hx e=>by have e2:g=x:=(by simpa [Value.ownBlock] using e);rw [mSg] at hx;omega)).lower Mf,fun x e=>by have e2:g=x:=(by simpa [Value.ownBlock] using e);subst e2;exact Sw.apart VH ZZ⟩
          | false =>
           have Pn:Hid (aF X.C 14 15 l (a :: OD.drop (k+1)) k ol sc=aF X.C 14 15 l (OD.drop (k+1)) (k+1) (ol.set a x) Za):=lh (by
            rcases Nat.lt_or_ge k 15 with hh | hh
            ·exact nS hh (by rw [<- Hv.out];exact ZW.1 hh) Zg UG (Hb9.1 hh)
            ·rw [(Hb9.2 Mf).2]
             exact lD Mf (by rw [<- (ZW.2 Mf).2];exact Zg) UG)
           go_wp2_with fail;exact ⟨⟨k+1,XN,_,_,by have:=Oq.out;omega,Mm,WU,Sw,UA,lh (by rw [LK];exact Qz),lh (by rw [<- He.out,OS.out];exact Pn.symm),lh (X.ok_le Ok9 Mf)⟩,by simp [intOf];have:=Oq.out;omega⟩
   ·obtain rfl:k=16:=Mf
    have Ny:¬ ((16:Nat):Int)<16:=Mf;have PT:Hid (aT X.C 4 l s=(.ok ol,sc)):=lh (by rw [HC.out,<- He.out,List.drop_eq_nil_of_le (by rw [ZJ.out];omega)];rfl);have XR:=lh (Ri.only.rowAt Pk Yv);obtain ⟨z0,z1,y0,y1,-⟩:=aJ XR;go_wp2_with fail;obtain ⟨MS,Nd⟩:=aH (x:=.int .i64 0) (y:=.slice none 0 0) XR;refine bodyPost_ret (aA Tryz.results105 _ _ w.heap.size _ _ _ _ _ rfl rfl MS Tryz.underlying39 rfl (aR _ rfl)) rfl (MM.out _ _ ?_);unfold ks;rw [PT.out];have z1':=Sh.out;exact ⟨_,X.only VQ.out Nd (fun x hx=>by rw [mSg] at hx;subst hx;exact ⟨Uy,fun hx=>(Ri.new _ hx).elim (fun a=>Yv.out (Lx _ a)) (fun a=>by have:=Na.size;have:=VH.out;omega)⟩),cC.end Na.out Ri.out Nd Mf (Lm _),_,rfl,(Ro.only Nd (fun x hx e=>by have e2:g=x:=(by simpa [Value.ownBlock] using e);rw [mSg] at hx;omega)).lower Mf,fun x e=>by have e2:g=x:=(by simpa [Value.ownBlock] using e);subst e2;exact Ri.apart VH ZZ⟩
theorem zF {R:Nat} (X:KC R) {F:List Nat} {w:World} {s:X.σ} {n0 lo' hi':Nat} {lv:Value} {l:List Int} (h:X.At F w s) (hl:ah .i64 lo' hi' w lv l) (MR:l.length=64) (Nj:cu l) (hap:∀ g∈F,g<lo'\/hi'<=g) (hw:hi'<=w.heap.size) (ok:X.Ok n0 s) (hn:n0<=700000000) :
  Calls Tryz.prog 105 #[.pointer (some ⟨R,0,none⟩),lv] w (ks X F w (aT X.C 8 l s)):=by
 refine aN fun Q MM=>?_
 obtain ⟨la,Nn,WE,-⟩:=hl.open;rw [MR] at WE;subst WE;have hwi:aX l (-16320) 16320=true:=sD Nj;have Wp:=lh (fun (wx:World) (o:ae [] w wx)=>bS (-16320) 16320 (hl.quiet o));rw [hwi] at Wp;have HZe:=lh (fun (wx:World) (o:ae [] w wx)=>oY (hl.quiet o));have OY:=lh (fun (wx:World) (o:ae [] w wx) (b:Bool) (hb:b=!cB l)=>(by subst hb;exact X.bit 39 _ (X.quiet h o) ok Mf Mf:Calls Tryz.prog 163 #[.pointer (some ⟨R,0,none⟩),.int .i64 39,.bool b] wx _));have Jdl:=lh (X.ok_bit 39 (!cB l) ok Mf);have HL:=lh hl;have Zy:=lh (X.lt h);have Uy:=lh (X.base_le h);have Zj:=lh hap;have Hw:=lh hw;have Ni:=lh MR;have UI:=lh Nj;have HC:Hid (aT X.C 8 l s=if (X.C.bit 39 (!cB l) s).1 then aF X.C 39 63 l (aC 8) 0 (List.replicate 64 0) (X.C.bit 39 (!cB l) s).2 else (.ok (List.replicate 64 0),(X.C.bit 39 (!cB l) s).2)):=lh rfl;have Ro:=lh (fun (wx:World)=>xp wx);have ZJ:=lh (fO);have JcN:=lh (ni);have UB:Hid ((cJ (aC 8)).length=64):=lh (by rw [show (cJ (aC 8)).length=(aC 8).length by simp [cJ]];exact fO);generalize aC 8=OD at *
 have Uu:=ae.new w (.cells #[(),JEu] 39);have XQ:Hid ((w.alloc (.cells #[(),JEu] 39)).heap[w.heap.size]?=some (.cells #[(),JEu] 39 (0,0))):=lh (heap_alloc_new w _);have WR:=lh Uu;clear h hl Nj hap hw ok hwi Uu;go_enter Tryz.func105,Tryz.ntmps105;go_wp2_with fail;generalize hW0:World.alloc w _=w0 at *
 have Ul:Hid (w.heap.size<w0.heap.size):=lh (Array.getElem?_eq_some_iff.1 XQ).1;clear hW0;go_at_call 61;refine (Wp.out w0 WR).mono ?_;rintro e w1 ⟨rfl,rfl⟩;go_wp2_with fail;go_at_call 164;refine (zN _).mono ?_;rintro e w1 ⟨rfl,rfl⟩;go_wp2_with fail;go_at_call 165;refine (Ro.out _).mono ?_;rintro e w1 ⟨ov,rfl,Qs,MP⟩;have Tr:(cJ OD).length=64:=UB.out;obtain ⟨ob,Jei,hov,Xd,Xe⟩:=Qs.form Mf;rw [Tr] at hov;subst hov;have Ya:=lh Qs;have MT:=lh (WR.q MP);have Pg:=lh (MP.row XQ);have Sh:=lh (LN Ul MP.size);have Tc:=lh (And.intro (LN Ul Xd) Xe);clear Qs MP Tr Xd Xe;have Rc:∀ W:World,(Instr.makeSlice 22 (.int .i64 64) (.int .i64 64)).run Tryz.prog W=.ok (.slice (some ⟨W.heap.size,0,none⟩) 64 64) (W.alloc (.cells (madeCells #[()] 64) 3)):=fun wz=>run_make_row' (P:=Tryz.prog) 22 3 (.int .i64 0) 8 EI.ut Mh rfl .i64 .i64 64 Mf Mf wz
 go_wp2_with fail;clear Rc;have Rz:=ae.new w1 (.cells (madeCells #[()] 64) 3);have UC:Hid (Own .i64 3 w1.heap.size (w1.alloc (.cells (madeCells #[()] 64) 3)) (.slice (some ⟨w1.heap.size,0,none⟩) 64 64) (List.replicate 64 0)):=lh (fD .i64 3 w1 64 Mo);have Na:=lh (MT.q Rz);have Pk:=lh (Rz.row Pg);have WQ:=lh (Ya.quiet Rz);have VH:Hid (w1.heap.size<(w1.alloc (.cells (madeCells #[()] 64) 3)).heap.size):=lh Mg;generalize Tg:World.alloc w1 _=W2 at *
 clear Rz Tg Ya Pg XQ;generalize hgg:w1.heap.size=g at *
 clear hgg;have ZZ:Hid (g∉F):=lh (fun hx=>by have:=Zy.out g hx;have:=Sh.out;omega);have Yv:Hid (w.heap.size∉g :: F):=lh (fun hx=>by rcases List.mem_cons.1 hx with hx | hx;have:=Sh.out;omega;have:=Zy.out _ hx;omega);have ZG:=lh (fun (wx:World) (o:ae (g :: F) W2 wx)=>(HL.quiet Na).only o (fun x hx=>by rcases List.mem_cons.1 hx with rfl | hx;right;have:=Sh.out;have:=Hw.out;omega;exact Zj.out x hx));have HOs:=lh (fun (wx:World) (o:ae (g :: F) W2 wx)=>WQ.only o (fun x hx e=>by have e2:ob=x:=(by simpa [Value.ownBlock] using e);subst e2;rcases List.mem_cons.1 hx with hx | hx;have:=Tc.2;omega;have:=Zy.out _ hx;have:=Tc.1;omega));go_at_call 92;refine (HZe.out W2 Na).mono ?_;rintro e w2 ⟨rfl,rfl⟩;go_wp2_with fail;go_at_call 163;refine (OY.out W2 Na _ rfl).mono ?_;rintro e w3 ⟨rfl,F1,Qd,Zo⟩;have Hk3:=lh Qd;have HL3:Hid (cC g F W2 F1 w3):=lh (cC.went ⟨ae.refl _ _,fun x hx=>.inl hx⟩ Zo);have Ql:Hid (Own .i64 3 g w3 (.slice (some ⟨g,0,none⟩) 64 64) (List.replicate 64 0)):=lh (UC.only Zo.1 (fun x hx e=>by have e2:g=x:=(by simpa [Value.ownBlock] using e);subst e2;exact ZZ.out hx));clear Qd Zo OY HZe Wp UC;generalize X.C.bit 39 (!cB l) s=b1 at *
 obtain ⟨t1,s1⟩:=b1;simp only at Hk3 HC Jdl |-
 cases t1 with
 | false =>
  rw [if_neg Mg] at HC
  skip
  have XR:=lh (HL3.only.rowAt Pk Yv);obtain ⟨z0,z1,y0,y1,-⟩:=aJ XR;go_wp2_with fail;obtain ⟨MS,Nd⟩:=aH (x:=.int .i64 0) (y:=.slice none 0 0) XR;refine bodyPost_ret (aA Tryz.results105 _ _ w.heap.size _ _ _ _ _ rfl rfl MS Tryz.underlying39 rfl (aR _ rfl)) rfl (MM.out _ _ ?_);unfold ks;rw [HC.out];have z1':=Sh.out;exact ⟨_,X.only Hk3.out Nd (fun x hx=>by rw [mSg] at hx;subst hx;exact ⟨Uy,fun hx=>(HL3.new _ hx).elim (fun a=>Yv.out (Lx _ a)) (fun a=>by have:=Na.size;have:=VH.out;omega)⟩),cC.end Na.out HL3.out Nd Mf (Lm _),_,rfl,(Ql.only Nd (fun x hx e=>by have e2:g=x:=(by simpa [Value.ownBlock] using e);rw [mSg] at hx;omega)).lower Mf,fun x e=>by have e2:g=x:=(by simpa [Value.ownBlock] using e);subst e2;exact HL3.apart VH ZZ⟩
 | true =>
  rw [if_pos rfl] at HC;go_wp2_with fail;go_loopw [10] (fun i wr=>∃ (k:Nat) (Fc:List Nat) (sc:X.σ) (ol:List Int),k<=64/\i=.int .i64 k/\Hid (X.At Fc wr sc)/\Hid (cC g F W2 Fc wr)/\Hid (Own .i64 3 g wr (.slice (some ⟨g,0,none⟩) 64 64) ol)/\Hid (ol.length=64)/\Hid (aF X.C 39 63 l (OD.drop k) k ol sc=aF X.C 39 63 l OD 0 (List.replicate 64 0) s1)/\Hid (X.Ok (n0+2+90*k) sc)) (fun i _=>64-(intOf i).toNat)
  case atStart=>exact ⟨0,_,s1,_,Mf,rfl,Hk3,HL3,Ql,lh Mg,lh rfl,lh (X.ok_le Jdl Mf)⟩
  case round =>
   obtain ⟨k,Fc,sc,ol,hk,rfl,VQ,Ri,Ro,Qz,He,Ho⟩:=hrel;by_cases MO:k<64
   ·have Ny:(k:Int)<64:=Mf
    have NU:(0:Int)<=(k:Int):=Mf;obtain ⟨a,⟨Wu,UR⟩,Qb⟩:∃ a,(a<64/\OD.getD k 0=a)/\OD.drop k=a :: OD.drop (k+1):=by
     have Zq:k<OD.length:=by rw [ZJ.out];exact MO
     exact ⟨OD[k],⟨JcN.out _ (LM _),by simp [Zq]⟩,LC Zq⟩
    obtain ⟨lb,Qh,WI,he,Jkh,Jki,hc⟩:=(ZG.out wr Ri.only).at (i:=a) (by rw [Ni.out];exact Wu);injection he with he1 he2 he3
    subst he1;clear he2 he3 Jkh Jki;have cl:=hc;have co:=(HOs.out wr Ri.only).cellS UB.symm (i:=k) (by rw [UB.out];exact MO);rw [jF,UR] at co;have hai:(0:Int)<=(a:Int):=Mf;have JjT:(a:Int)<64:=Mf;have hvr:-16320<=l.getD a 0/\l.getD a 0<=16320:=UI.out _ (by rw [Le,Lf (by rw [Ni.out];exact Wu)];exact LM _);have OS:=lh Qb;have Ha:=lh (And.intro Wu UR);have Oq:=lh MO;have Hv:Hid (∃ v,v=l.getD a 0):=lh ⟨_,rfl⟩;obtain ⟨v,hv⟩:=Hv.out;rw [<- hv] at cl hvr;have Hv:=lh hv;clear Qb UR hv hc;have Rq:=lh (fun (wx:World) (Fx:List Nat) (hx:bw Fc wr Fx wx)=>(Ro.only hx.1 (fun x hx e=>by have e2:g=x:=(by simpa [Value.ownBlock] using e);subst e2;exact Ri.apart VH ZZ hx):Own .i64 3 g wx (.slice (some ⟨g,0,none⟩) 64 64) ol));clear Wu;go_upto_region 17 with (fail)
    go_cut [76] (fun s76 wx=>∃ (F7:List Nat) (s7:X.σ) (sk:Bool),s76=.bool sk/\Hid (X.At F7 wx s7)/\Hid (bw Fc wr F7 wx)/\Hid ((k<63->X.C.bit (39+1+min k 7) (decide (v≠0)) sc=(!sk,s7))/\(¬ k<63->sk=false/\s7=sc))/\Hid (X.Ok (n0+4+90*k) s7))
    case first =>
     by_cases PH:k<63
     ·have TJ:(k:Int)<63:=Mf
      have PU:=lh (fun (wx:World) (Fx:List Nat) (hx:X.At Fx wx sc) (b:Bool) (hb:b=decide (v≠0)) (y:Int) (hy:y=((39+1+min k 7:Nat):Int))=>(by subst hb;subst hy;exact X.bit (39+1+min k 7) _ hx Ho Mf Mf:Calls Tryz.prog 163 #[.pointer (some ⟨R,0,none⟩),y,.bool b] wx _));have Td:=lh (X.ok_bit (39+1+min k 7) (decide (v≠0)) Ho Mf);obtain ⟨B1,hB1⟩:∃ y,y=X.C.bit (39+1+min k 7) (decide (v≠0)) sc:=⟨_,rfl⟩
      rw [<- hB1] at PU Td;obtain ⟨t1,s1'⟩:=B1;simp only at PU Td;have Jik:=lh hB1.symm;clear hB1;have Hkl:=lh PH;clear cl co;go_wp2_with fail
      all_goals
       go_at_call 163;refine (PU.out _ _ VQ _ (by first | rfl | exact bG _ _ | exact aY _ _ | omega) _ Mf).mono ?_;rintro e w7 ⟨rfl,F7,Rk,Qm⟩;have Ta:=lh Rk;have Hg7:=lh (Qm);clear Rk Qm;go_wp2_with fail;go_meet;exact ⟨F7,s1',_,rfl,Ta,Hg7,lh ⟨fun _=>by rw [Jik.out,Bool.not_not],fun hh=>absurd Hkl.out hh⟩,lh (X.ok_le Td Mf)⟩
     ·have TJ:¬ (k:Int)<63:=Mf
      have Hkl:=lh PH;clear cl co;go_wp2_with fail;go_meet;exact ⟨Fc,sc,false,rfl,VQ,lh (bw.refl _ _),lh ⟨fun hh=>absurd hh Hkl,fun _=>⟨rfl,rfl⟩⟩,lh (X.ok_le Ho Mf)⟩
    case rest =>
     obtain ⟨F7,s7,sk,rfl,Ta,Hg7,ZW,WY⟩:=hcut;clear cl co;cases sk with
     | true =>
      have PH:k<63:=by rcases Nat.lt_or_ge k 63 with hh | hh;exact hh;exact absurd (ZW.2 Mf).1 Mg
      have Pn:=lh (nT (base:=39) (a:=a) (l:=l) (m:=sc) (m1:=s7) (rest:=OD.drop (k+1)) (out:=ol) PH (by rw [<- Hv.out];exact ZW.1 PH));clear PH;have RH:=lh (Rq.out _ _ Hg7);have HL7:=lh (Ri.went Hg7);go_wp2_with fail;exact ⟨⟨k+1,F7,_,ol,by have:=Oq.out;omega,Mm,Ta,HL7,RH,Qz,lh (by rw [<- He.out,OS.out];exact Pn.symm),lh (X.ok_le WY Mf)⟩,by simp [intOf];have:=Oq.out;omega⟩
     | false =>
      have Qu:=lh (fun (wx:World) (Fx:List Nat) (hx:X.At Fx wx s7) (b:Bool) (hb:b=decide (v<0))=>(by subst hb;exact X.flat _ hx WY Mf:Calls Tryz.prog 162 #[.pointer (some ⟨R,0,none⟩),.bool b] wx _));have TS:=X.ok_flat (decide (v<0)) WY;obtain ⟨FL,hFL⟩:∃ y,y=X.C.flat (decide (v<0)) s7:=⟨_,rfl⟩
      rw [<- hFL] at Qu TS;obtain ⟨neg,s2'⟩:=FL;simp only at Qu TS;have Ok2:=lh TS;have VF:=lh (fun (wx:World) (Fx:List Nat) (hx:X.At Fx wx s2') (y:Int) (hy:y=max v (-v)-1)=>(by subst hy;exact tL X hx (base:=39) Mf _ Mf Ok2 Mf:Calls Tryz.prog 166 #[.pointer (some ⟨R,0,none⟩),.int .i64 39,y] wx _));obtain ⟨ok3,hzn⟩:=yB X (base:=39) Mf (max v (-v)-1) TS;obtain ⟨SZ,hSZ⟩:∃ y,y=cY X.C 39 (max v (-v)-1) s2':=⟨_,rfl⟩
      rw [<- hSZ] at VF ok3 hzn;obtain ⟨zn,Zb⟩:=SZ;simp only at VF ok3 hzn;have Ok3:=lh ok3;have JcJ:Hid (aV X.C 39 (l.getD a 0) s7=(dG neg zn,Zb)):=lh (tT (by rw [<- Hv.out];exact hFL.symm) (by rw [<- Hv.out];exact hSZ.symm));clear TS ok3 hFL hSZ;obtain ⟨x,hx⟩:∃ x,dG neg zn=x:=⟨_,rfl⟩
      have Zg:Hid (aV X.C 39 (l.getD a 0) s7=(x,Zb)):=lh (by rw [JcJ.out,hx]);have Hx:=lh hx;have Sm:(x < -16320\/16320<x)↔16320<(zn:Int)+1:=by rw [<- hx];cases neg <;> simp only [dG] <;> first | (simp;omega) | omega
      clear hx JcJ;have Hxx:=lh Sm;clear Sm;go_wp2_with fail;go_at_call 162;refine (Qu.out _ _ Ta _ (by first | rfl | exact bG _ _ | exact aY _ _ | omega)).mono ?_;rintro e w8 ⟨rfl,F8,Th,QE⟩;have WV:=lh Th;have Hg8:=lh (Hg7.trans QE);clear Th QE;go_upto_region 19 with (fail)
      go_cut [13] (fun s13 wx=>∃ (F9:List Nat),s13=.int .i64 ((zn:Int)+1)/\Hid (X.At F9 wx Zb)/\Hid (bw Fc wr F9 wx))
      case first =>
       go_wp2_with fail
       all_goals
        go_at_call 166;refine (VF.out _ _ WV _ Mf).mono ?_;rintro e w9 ⟨rfl,F9,hk9,hg9⟩;have Yw:=lh hk9;have Hg9:=lh (Hg8.trans hg9);clear hk9 hg9;go_wp2_with fail;go_meet;exact ⟨F9,rfl,Yw,Hg9⟩
      case rest =>
       obtain ⟨F9,rfl,Yw,Hg9⟩:=hcut;have HL9:=lh (Ri.went Hg9);have HO9:=lh (Rq.out _ _ Hg9);by_cases hbz:16320<(zn:Int)+1
       ·have Jap:=Hxx.2 hbz
        have PT:Hid (aT X.C 8 l s=(.error ⟨[(jJ,(k:Int))],3⟩,Zb)):=lh (by
         rw [HC.out,<- He.out,OS.out];rcases Nat.lt_or_ge k 63 with hh | hh
         ·exact qi hh (by rw [<- Hv.out];exact ZW.1 hh) Zg Jap
         ·exact nQ Mf (by rw [<- (ZW.2 Mf).2];exact Zg) Jap)
        clear Jap;have HE9:=lh (HL9.only.rowAt Pk Yv);go_wp2_with fail;go_at_call 57;refine (yS _ _ 3 _ Mf).mono ?_;rintro e Sa ⟨kv,rfl,⟨sv,rfl,TI⟩,QI⟩;obtain ⟨_,a2,Rj,hsv,_⟩:=id TI;subst hsv;have Hcs:=lh TI;have Jae:=lh QI;clear TI QI;have Jcy:=lh (Jae.row HE9);obtain ⟨z0,z1,y0,y1,-⟩:=aJ Jcy;go_wp2_with fail;obtain ⟨MS,Nd⟩:=aH (x:=.int .i64 3) (y:=.slice a2 1 Rj) Jcy;refine bodyPost_ret (aA Tryz.results105 _ _ w.heap.size _ _ _ _ _ rfl rfl MS Tryz.underlying39 rfl (aR _ rfl)) rfl (MM.out _ _ ?_);unfold ks;rw [PT.out];have z1':=Sh.out;have QO:=HL9.quiet Jae;have z9:=HL9.only.size;have zg:=VH.out;have z2:=Na.size;exact ⟨_,X.only (X.quiet Yw Jae) Nd (fun x hx=>by rw [mSg] at hx;subst hx;exact ⟨Uy,fun hx=>(QO.new _ hx).elim (fun a=>Yv.out (Lx _ a)) (fun a=>Mf)⟩),cC.end Na.out QO Nd Mf (Lm _),_,rfl,(Hcs.only Nd (fun x hx=>by rw [mSg] at hx;subst hx;exact .inl Mf)).mono Mf Nd.size⟩
       ·have UG:=lh (fun hh=>hbz (Hxx.1 hh):¬ (x < -16320\/16320<x))
        go_upto_if 94 with (fail);go_cut [13] (fun s13 wx=>s13=.int .i64 x/\wc=wx)
        case first =>
         have NA:=Hx.out;cases neg with
         | true =>
          go_wp2_with fail;go_meet;exact ⟨by rw [<- NA];show _=Value.int .i64 (-(zn:Int)-1);congr 1;omega,rfl⟩
         | false =>
          go_wp2_with fail;go_meet;exact ⟨by rw [<- NA];rfl,rfl⟩
        case rest =>
         obtain ⟨rfl,rfl⟩:=hcut;have co9:=(HOs.out wc HL9.only).cellS UB.symm (i:=k) (by rw [UB.out];exact Oq);rw [jF,Ha.2] at co9;have cg9:=HO9.cellS Qz.symm (i:=a) (by rw [Qz.out];exact Ha.1);have fg9:=HO9.frzS Qz.symm a;obtain ⟨NC,NE⟩:=HO9.storeS Qz.symm (x:=x) (by rw [<- Hx.out];cases neg <;> simp only [dG,InK] <;> first | (simp;omega) | omega) a;have Qo:=lh NC;have QO:=lh (HL9.store NE);have TD:=lh (X.only Yw NE (fun y hy=>by rw [mSg] at hy;subst hy;exact ⟨by have:=Uy.out;have:=Sh.out;omega,HL9.apart VH.out ZZ.out⟩));clear NC NE hzn hvr;go_upto_region 25 with (fail)
         generalize TG:World.setCell wc _ _=Sa at *
         clear TG co9 cg9 fg9;go_cut [123] (fun JkT wx=>∃ (XN:List Nat) (Za:X.σ) (t9:Bool),JkT=.bool t9/\Hid (X.At XN wx Za)/\Hid (cC g F W2 XN wx)/\Hid (Own .i64 3 g wx (.slice (some ⟨g,0,none⟩) 64 64) (ol.set a x))/\Hid ((k<63->X.C.bit (39+9+min k 7) (bO l (OD.drop (k+1))) Zb=(t9,Za))/\(¬ k<63->t9=false/\Za=Zb))/\Hid (X.Ok (n0+92+90*k) Za))
         case first =>
          by_cases PH:k<63
          ·have TJ:(k:Int)<63:=Mf
           have HB9:=lh (fun (wx:World) (Fx:List Nat) (hx:X.At Fx wx Zb) (b:Bool) (hb:b=bO l (OD.drop (k+1))) (y:Int) (hy:y=((39+9+min k 7:Nat):Int))=>(by subst hb;subst hy;exact X.bit (39+9+min k 7) _ hx Ok3 Mf Mf:Calls Tryz.prog 163 #[.pointer (some ⟨R,0,none⟩),y,.bool b] wx _));have Ok9:=lh (X.ok_bit (39+9+min k 7) (bO l (OD.drop (k+1))) Ok3 Mf);have Hkl:=lh PH;have Ou:=lh (fun (y:Int) (hy:y=((k+1:Nat):Int))=>(by subst hy;exact rq (ZG.out _ QO.only) ((HOs.out _ QO.only).ints) (by rw [Ni.out];exact JcN) (k+1) (by rw [ZJ.out];have:=Oq.out;omega):Calls Tryz.prog 167 #[_,.slice (some ⟨ob,0,none⟩) 64 Jei,y] Sa _));go_wp2_with fail
           all_goals
            go_at_call 167;refine (Ou.out _ Mf).mono ?_;rintro e wy ⟨rfl,rfl⟩;go_wp2_with fail;go_at_call 163;refine (HB9.out _ _ TD _ rfl _ Mf).mono ?_;rintro e Qt ⟨rfl,XN,JdN,Sk⟩;have WU:=lh JdN;have Sw:=lh (QO.went Sk);have UA:=lh (Qo.only Sk.1 (fun y hy e=>by have e2:g=y:=(by simpa [Value.ownBlock] using e);subst e2;exact QO.apart VH ZZ hy));clear JdN Sk;go_wp2_with fail;go_meet;exact ⟨XN,_,_,rfl,WU,Sw,UA,lh ⟨fun _=>rfl,fun hh=>absurd Hkl.out hh⟩,lh (X.ok_le Ok9 Mf)⟩
          ·have TJ:¬ (k:Int)<63:=Mf
           have Hkl:=lh PH;go_wp2_with fail;go_meet;exact ⟨F9,Zb,false,rfl,TD,QO,Qo,lh ⟨fun hh=>absurd hh Hkl,fun _=>⟨rfl,rfl⟩⟩,lh (X.ok_le Ok3 Mf)⟩
         case rest =>
          obtain ⟨XN,Za,t9,rfl,WU,Sw,UA,Hb9,Ok9⟩:=hcut;cases t9 with
          | true =>
           have PH:k<63:=by rcases Nat.lt_or_ge k 63 with hh | hh;exact hh;exact absurd (Hb9.2 Mf).1 Mg
           have PT:Hid (aT X.C 8 l s=(.ok (ol.set a x),Za)):=lh (by rw [HC.out,<- He.out,OS.out];exact nR PH (by rw [<- Hv.out];exact ZW.1 PH) Zg UG (Hb9.1 PH));clear PH;have XR:=lh (Sw.only.rowAt Pk Yv);obtain ⟨z0,z1,y0,y1,-⟩:=aJ XR;go_wp2_with fail;obtain ⟨MS,Nd⟩:=aH (x:=.int .i64 0) (y:=.slice none 0 0) XR;refine bodyPost_ret (aA Tryz.results105 _ _ w.heap.size _ _ _ _ _ rfl rfl MS Tryz.underlying39 rfl (aR _ rfl)) rfl (MM.out _ _ ?_);unfold ks;rw [PT.out];have z1':=Sh.out;exact ⟨_,X.only WU.out Nd (fun x hx=>by rw [mSg] at hx;subst hx;exact ⟨Uy,fun hx=>(Sw.new _ hx).elim (fun a=>Yv.out (Lx _ a)) (fun a=>by have:=Na.size;have:=VH.out;omega)⟩),cC.end Na.out Sw.out Nd Mf (Lm _),_,rfl,(UA.only Nd (fun x hx e=>by have e2:g=x:=(by simpa [Value.ownBlock] using e);rw [mSg] at hx;omega)).lower Mf,fun x e=>by have e2:g=x:=(by simpa [Value.ownBlock] using e);subst e2;exact Sw.apart VH ZZ⟩
          | false =>
           have Pn:Hid (aF X.C 39 63 l (a :: OD.drop (k+1)) k ol sc=aF X.C 39 63 l (OD.drop (k+1)) (k+1) (ol.set a x) Za):=lh (by
            rcases Nat.lt_or_ge k 63 with hh | hh
            ·exact nS hh (by rw [<- Hv.out];exact ZW.1 hh) Zg UG (Hb9.1 hh)
            ·rw [(Hb9.2 Mf).2]
             exact lD Mf (by rw [<- (ZW.2 Mf).2];exact Zg) UG)
           go_wp2_with fail;exact ⟨⟨k+1,XN,_,_,by have:=Oq.out;omega,Mm,WU,Sw,UA,lh (by rw [LK];exact Qz),lh (by rw [<- He.out,OS.out];exact Pn.symm),lh (X.ok_le Ok9 Mf)⟩,by simp [intOf];have:=Oq.out;omega⟩
   ·obtain rfl:k=64:=Mf
    have Ny:¬ ((64:Nat):Int)<64:=Mf;have PT:Hid (aT X.C 8 l s=(.ok ol,sc)):=lh (by rw [HC.out,<- He.out,List.drop_eq_nil_of_le (by rw [ZJ.out];omega)];rfl);have XR:=lh (Ri.only.rowAt Pk Yv);obtain ⟨z0,z1,y0,y1,-⟩:=aJ XR;go_wp2_with fail;obtain ⟨MS,Nd⟩:=aH (x:=.int .i64 0) (y:=.slice none 0 0) XR;refine bodyPost_ret (aA Tryz.results105 _ _ w.heap.size _ _ _ _ _ rfl rfl MS Tryz.underlying39 rfl (aR _ rfl)) rfl (MM.out _ _ ?_);unfold ks;rw [PT.out];have z1':=Sh.out;exact ⟨_,X.only VQ.out Nd (fun x hx=>by rw [mSg] at hx;subst hx;exact ⟨Uy,fun hx=>(Ri.new _ hx).elim (fun a=>Yv.out (Lx _ a)) (fun a=>by have:=Na.size;have:=VH.out;omega)⟩),cC.end Na.out Ri.out Nd Mf (Lm _),_,rfl,(Ro.only Nd (fun x hx e=>by have e2:g=x:=(by simpa [Value.ownBlock] using e);rw [mSg] at hx;omega)).lower Mf,fun x e=>by have e2:g=x:=(by simpa [Value.ownBlock] using e);subst e2;exact Ri.apart VH ZZ⟩
end Go.Proofs.YthcafdfdglfabaaGreatDoor
