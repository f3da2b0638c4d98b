/- coef.Code of 64 levels by any coder of the program's. Conditions: the coder stands so; the levels may be; a bit that is told as 0 was asked as 0. -/
import Derived.Test.YthcafdfdglfabaaGreatDoorWB
namespace Go.Proofs.YthcafdfdglfabaaGreatDoor
open Go.RowKit
set_option linter.unusedVariables false
set_option linter.unusedSimpArgs false
set_option maxRecDepth 100000
set_option maxHeartbeats 16000000
theorem rU {p:Prop} (h:p:=by
 go_wp2_with fail;go_at_call 200;refine (HLx.out _ _ Ta.out _ _ Mf Mf).mono ?_;rintro e w8 ⟨rfl,F8,Th,QE⟩;have WV:=lh Th;have Vw:=lh (SP.out.went QE);clear Th QE;go_wp2_with fail;go_at_call 80;refine (Fp _ _ (gN.code w8.heap.size w8.heap.size w8 3) (Lm _) (Lm _)).mono ?_;rintro e w9 ⟨ev,rfl,hev,Rm⟩;have Hev:=lh hev;have Hq9:=lh Rm;clear hev Rm;go_wp2_with fail;refine MM.out _ _ ?_;unfold kt;rw [PT.out];exact ⟨F8,X.quiet WV.out Hq9.out,cC.end Nz.out Vw.out (Hq9.out.mono (U:=[g]) Mg) Nv.out.2.2.1 Nv.out.2.2.1,ev,rfl,Hev.out.mono (Lz Nz.out.size Vw.out.only.size) (Lm _)⟩):p:=h
theorem yb {p:Prop} (h:p:=by
 obtain ⟨⟨x,m2⟩,TF⟩:∃ b,b=aV X.C 39 v m1:=⟨_,rfl⟩
 replace TF:=TF.symm;have Ok8:=lh (show X.Ok (q+2+90*k+2+82) m2 by have:=lU X (base:=39) Mf v WY.out;rw [TF] at this;exact this);have HLx:=lh (fun (W:World) (Fx:List Nat) (hx:X.At Fx W m1) (bb vv:Int) (hbb:bb=39) (hvv:vv=v)=>(by have t:=km X (base:=39) hx Mf v Mf WY.out Mf;rw [TF] at t;subst hbb;subst hvv;exact t:Calls Tryz.prog 200 #[X.val,bb,vv] W (uK X Fx W (x,m2))));have HLV:=lh TF;clear TF;by_cases hv:x < -16320\/16320<x
 ·have PT:Hid (aT X.C 8 l s=(.error ⟨[(jJ,(k:Int))],3⟩,m2)):=lh (by rw [XQ.out];exact Jil.out m1 m2 x PH hB HLV.out hv)
  go_wp2_with fail
  all_goals
   refine (HBt.out _ _ _ _ VQ.out TX.out Mf (39+1+min k 7) Mf (decide (v≠0)) _ Mf _ ?_).mono ?_
   ·first | rfl | exact bG _ _ | exact aY _ _ | (simp;done) | (simp;omega) | (rw [Bool.eq_iff_iff];simp;try omega)
   rintro e w7 ⟨rfl,F7,Rk,Qm⟩;rw [hB] at Rk;simp only [hB];have Ta:=lh Rk;have RH:=lh (Ro.out.only Qm.1 (fun x hx e=>by simp [Value.ownBlock] at e;exact Hgc.out (e ▸ hx)));have SP:=lh (QN.out.went Qm);clear Rk Qm;rcases hv with hv | hv
   ·exact rU
   ·have Rg:¬ x < -16320:=Mf
    exact rU
 ·have Rg:¬ x < -16320:=Mf
  have hv2:¬ 16320<x:=Mf;have MX:InK .i64 x:=by simp only [InK];omega
  have Jav:=X.ok_bit (39+9+min k 7) (decide ((c2:Int)=0)) Ok8.out Mf;obtain ⟨⟨t9,m3⟩,h9⟩:∃ b,b=X.C.bit (39+9+min k 7) (decide ((c2:Int)=0)) m2:=⟨_,rfl⟩
  replace h9:=h9.symm;rw [h9] at Jav;have Ok9:=lh Jav;clear Jav;cases t9 with
  | true =>
   have PT:Hid (aT X.C 8 l s=(.ok (ol.set a x),m3)):=lh (by rw [XQ.out];exact SR.out m1 m2 m3 x PH hB HLV.out hv h9);go_wp2_with fail
   all_goals
    refine (HBt.out _ _ _ _ VQ.out TX.out Mf (39+1+min k 7) Mf (decide (v≠0)) _ Mf _ ?_).mono ?_
    ·first | rfl | exact bG _ _ | exact aY _ _ | (simp;done) | (simp;omega) | (rw [Bool.eq_iff_iff];simp;try omega)
    rintro e w7 ⟨rfl,F7,Rk,Qm⟩;rw [hB] at Rk;simp only [hB];have Ta:=lh Rk;have RH:=lh (Ro.out.only Qm.1 (fun x hx e=>by simp [Value.ownBlock] at e;exact Hgc.out (e ▸ hx)));have SP:=lh (QN.out.went Qm);clear Rk Qm;go_wp2_with fail;go_at_call 200;refine (HLx.out _ _ Ta.out _ _ Mf Mf).mono ?_;rintro e w8 ⟨rfl,F8,Th,QE⟩;have UU:=SP.out.went QE;have QG:=RH.out.only QE.1 (fun x hx e=>by simp [Value.ownBlock] at e;exact SP.out.apart Uf.out Nv.out.2.2.2.2.1 (e ▸ hx));have cg:=QG.cellS Ni.out.symm (i:=a) (by have:=Ni.out;omega);have fg:=QG.frzS Ni.out.symm a;obtain ⟨NC,NE⟩:=QG.storeS Ni.out.symm MX a;have Ur:=lh NC;have WV:=lh (X.only Th NE (fun x hx=>by rw [mSg] at hx;subst hx;exact ⟨Lz Uw.out Nv.out.2.2.1,UU.apart Uf.out Nv.out.2.2.2.2.1⟩));have Vw:=lh (UU.store NE);clear Th QE UU QG NC NE;go_wp2_with fail
    all_goals
     refine (HBt.out _ _ _ _ WV.out Ok8.out Mf (39+9+min k 7) Mf (decide ((c2:Int)=0)) _ Mf _ ?_).mono ?_
     ·first | rfl | exact bG _ _ | exact aY _ _ | (simp;done) | (simp;omega) | (rw [Bool.eq_iff_iff];simp;try omega)
     rintro e Sa ⟨rfl,F10,SE,SD⟩;rw [h9] at SE;simp only [h9];have TD:=lh SE;have Qo:=lh (Ur.out.only SD.1 (fun x hx e=>by simp [Value.ownBlock] at e;exact Vw.out.apart Uf.out Nv.out.2.2.2.2.1 (e ▸ hx)));have Tu:=lh (Vw.out.went SD);clear SE SD;go_wp2_with fail;refine MM.out _ _ ?_;unfold kt;rw [PT.out];exact ⟨F10,TD.out,cC.end Nz.out Tu.out ((ae.refl [g] _)) Nv.out.2.2.1 Nv.out.2.2.1,_,rfl,Qo.out.lower Nv.out.2.2.1,fun x hx hm=>by simp [Value.ownBlock] at hx;subst hx;exact Tu.out.apart Uf.out Nv.out.2.2.2.2.1 hm⟩
  | false =>
   have Pn:=lh (Qx.out m1 m2 m3 x PH hB HLV.out hv h9);go_wp2_with fail
   all_goals
    refine (HBt.out _ _ _ _ VQ.out TX.out Mf (39+1+min k 7) Mf (decide (v≠0)) _ Mf _ ?_).mono ?_
    ·first | rfl | exact bG _ _ | exact aY _ _ | (simp;done) | (simp;omega) | (rw [Bool.eq_iff_iff];simp;try omega)
    rintro e w7 ⟨rfl,F7,Rk,Qm⟩;rw [hB] at Rk;simp only [hB];have Ta:=lh Rk;have RH:=lh (Ro.out.only Qm.1 (fun x hx e=>by simp [Value.ownBlock] at e;exact Hgc.out (e ▸ hx)));have SP:=lh (QN.out.went Qm);clear Rk Qm;go_wp2_with fail;go_at_call 200;refine (HLx.out _ _ Ta.out _ _ Mf Mf).mono ?_;rintro e w8 ⟨rfl,F8,Th,QE⟩;have UU:=SP.out.went QE;have QG:=RH.out.only QE.1 (fun x hx e=>by simp [Value.ownBlock] at e;exact SP.out.apart Uf.out Nv.out.2.2.2.2.1 (e ▸ hx));have cg:=QG.cellS Ni.out.symm (i:=a) (by have:=Ni.out;omega);have fg:=QG.frzS Ni.out.symm a;obtain ⟨NC,NE⟩:=QG.storeS Ni.out.symm MX a;have Ur:=lh NC;have WV:=lh (X.only Th NE (fun x hx=>by rw [mSg] at hx;subst hx;exact ⟨Lz Uw.out Nv.out.2.2.1,UU.apart Uf.out Nv.out.2.2.2.2.1⟩));have Vw:=lh (UU.store NE);clear Th QE UU QG NC NE;go_wp2_with fail
    all_goals
     refine (HBt.out _ _ _ _ WV.out Ok8.out Mf (39+9+min k 7) Mf (decide ((c2:Int)=0)) _ Mf _ ?_).mono ?_
     ·first | rfl | exact bG _ _ | exact aY _ _ | (simp;done) | (simp;omega) | (rw [Bool.eq_iff_iff];simp;try omega)
     rintro e Sa ⟨rfl,F10,SE,SD⟩;rw [h9] at SE;simp only [h9];have TD:=lh SE;have Qo:=lh (Ur.out.only SD.1 (fun x hx e=>by simp [Value.ownBlock] at e;exact Vw.out.apart Uf.out Nv.out.2.2.2.2.1 (e ▸ hx)));have Tu:=lh (Vw.out.went SD);clear SE SD;go_wp2_with fail;exact ⟨⟨k+1,c2,m3,ol.set a x,F10,Mf,Mf,Mm,by first | rfl | go_num,Og,TD,Qo,lh (by rw [LK];exact Ni.out),lh (by rw [<- Pn.out];exact Zz.out),lh (X.ok_le Ok9.out Mf),Tu⟩,Mk⟩):p:=h
theorem ye {p:Prop} (h:p:=by
 exact rU):p:=h
theorem Ie {p:Prop} (h:p:=by
 have Rg:¬ x < -16320:=Mf;have hv2:¬ 16320<x:=Mf;have MX:InK .i64 x:=by simp only [InK];omega
 have Pn:=lh (ZH.out m2 x PH HLV.out hv);go_wp2_with fail;go_at_call 200;refine (HLx.out _ _ Ta.out _ _ Mf Mf).mono ?_;rintro e w8 ⟨rfl,F8,Th,QE⟩;have UU:=SP.out.went QE;have QG:=RH.out.only QE.1 (fun x hx e=>by simp [Value.ownBlock] at e;exact SP.out.apart Uf.out Nv.out.2.2.2.2.1 (e ▸ hx));have cg:=QG.cellS Ni.out.symm (i:=a) (by have:=Ni.out;omega);have fg:=QG.frzS Ni.out.symm a;obtain ⟨NC,NE⟩:=QG.storeS Ni.out.symm MX a;have Ur:=lh NC;have WV:=lh (X.only Th NE (fun x hx=>by rw [mSg] at hx;subst hx;exact ⟨Lz Uw.out Nv.out.2.2.1,UU.apart Uf.out Nv.out.2.2.2.2.1⟩));have Vw:=lh (UU.store NE);clear Th QE UU QG NC NE;go_wp2_with fail;exact ⟨⟨k+1,c2,m2,ol.set a x,F8,Mf,Mf,Mm,by first | rfl | go_num,Og,WV,Ur,lh (by rw [LK];exact Ni.out),lh (by rw [<- Pn.out];exact Zz.out),lh (X.ok_le Ok8.out Mf),Vw⟩,Mk⟩):p:=h
theorem yf {p:Prop} (h:p:=by
 have TJ:¬ (k:Int)<63:=Mf;obtain ⟨⟨x,m2⟩,TF⟩:∃ b,b=aV X.C 39 v mc:=⟨_,rfl⟩
 replace TF:=TF.symm;have Ok8:=lh (show X.Ok (q+2+90*k+82) m2 by have:=lU X (base:=39) Mf v TX.out;rw [TF] at this;exact this);have HLx:=lh (fun (W:World) (Fx:List Nat) (hx:X.At Fx W mc) (bb vv:Int) (hbb:bb=39) (hvv:vv=v)=>(by have t:=km X (base:=39) hx Mf v Mf TX.out Mf;rw [TF] at t;subst hbb;subst hvv;exact t:Calls Tryz.prog 200 #[X.val,bb,vv] W (uK X Fx W (x,m2))));have HLV:=lh TF;clear TF;have Ta:=VQ;have WY:=TX;have RH:=Ro;have SP:=QN;by_cases hv:x < -16320\/16320<x
 ·have PT:Hid (aT X.C 8 l s=(.error ⟨[(jJ,(k:Int))],3⟩,m2)):=lh (by rw [XQ.out];exact Jct.out m2 x PH HLV.out hv)
  rcases hv with hv | hv
  ·exact ye
  ·have Rg:¬ x < -16320:=Mf
   exact ye
 ·exact Ie):p:=h
theorem Af (X:PC) {F:List Nat} {lo' hi' q:Nat} {lv:Value} {w:World} {s:X.σ} {l:List Int} (h:X.At F w s) (hl:ah .i64 lo' hi' w lv l) (MR:l.length=64) (Nj:cu l) (hF:∀ x∈F,x<lo'\/hi'<=x) (hw:hi'<=w.heap.size)
  (hE:∀ a,a<64->∀ c m,(X.C.bit c (decide (l.getD a 0≠0)) m).1=false->l.getD a 0=0) (ok:X.Ok q s) (hq:q<=600000000) :
  Calls Tryz.prog 144 #[X.val,lv] w (kt X F w (aT X.C 8 l s)):=by
 refine aN fun Q MM=>?_
 have mb:=X.mB;have eb:=X.eB;have nb:=X.nB;have Su:=lh (jm hl MI);have hcn:jU l=none:=by unfold jU;rw [if_neg (by rw [MR];simp),rD Nj];rfl
 rw [hcn] at Su;have HL:=lh hl;have Yu:=lh (fun (W:World) (o:ae [] w W)=>sF (hl.quiet o) MI);obtain ⟨la,Nn,WE,-,-,TK,-⟩:=hl.open;rw [MR] at WE TK;subst WE;have Jjm:=lh TK;have HK:=lh h;have HB:=lh (fun (W:World) (o:ae [] w W) (b:Bool) (hb:b=!cB l)=>(by subst hb;exact X.bit 39 _ (X.quiet h o) ok Mf Mf:Calls Tryz.prog X.fb #[.pointer (some ⟨X.R,0,none⟩),.int .i64 39,.bool b] W _));have HW:=lh hw;have OX:=lh MR;have Qk:=lh Nj;have HF:=lh hF;have HE:=lh hE;have Oq:=lh (X.lt h);have Uw:=lh (X.base_le h);have TR:=X.ok_bit 39 (!cB l) ok Mf;have HM:Hid (aT X.C 8 l s=if (X.C.bit 39 (!cB l) s).1 then aF X.C 39 63 l (aC 8) 0 (List.replicate 64 0) (X.C.bit 39 (!cB l) s).2 else (.ok (List.replicate 64 0),(X.C.bit 39 (!cB l) s).2)):=lh rfl;generalize X.C.bit 39 (!cB l) s=b0 at *
 obtain ⟨t0,s1⟩:=b0;simp only at TR HB HM;have Td:=lh TR;clear h hl hcn TK hw MR Nj hF hE ok TR;go_enter Tryz.func144,Tryz.ntmps144;go_wp2_with fail;go_at_call 197;refine Su.out.mono ?_;rintro e w1 ⟨⟨u,rfl,hu⟩,MP⟩;have hu':u=.nilIface:=hu;subst hu';have MT:=lh MP;clear MP hu;go_wp2_with fail;go_at_call 198;refine (CP _).mono ?_;rintro e w2 ⟨rfl,rfl⟩;go_wp2_with fail;go_at_call 199;refine (Ac _).mono ?_;rintro e w2 ⟨ov,rfl,Qs,MV⟩;have Tr:(cJ (aC 8)).length=64:=by simp [cJ,iR]
 obtain ⟨ob,Jei,hov,Xd,Xe⟩:=Qs.form Mf;rw [Tr] at hov;subst hov;have WQ:=lh Qs;have Na:=lh (MT.out.q MV);have hz1:=MT.out.size;clear Qs MV Tr;have Rc:∀ W:World,(Instr.makeSlice 22 (.int .i64 64) (.int .i64 64)).run Tryz.prog W=.ok (.slice (some ⟨W.heap.size,0,none⟩) 64 64) (W.alloc (.cells (madeCells #[()] 64) 3)):=fun W=>run_make_row' (P:=Tryz.prog) 22 3 (.int .i64 0) 8 EI.ut Mh rfl .i64 .i64 64 Mf Mf W
 go_wp2_with fail;clear Rc;have Rz:=ae.new w2 (.cells (madeCells #[()] 64) 3);have Jaw:=fD .i64 3 w2 64 Mo;have UC:=lh Jaw;have Nf:=lh (Na.out.q Rz);have Yb:=lh (WQ.out.quiet Rz);have hzw:=Na.out.size;have hz3:w2.heap.size<(w2.alloc (.cells (madeCells #[()] 64) 3)).heap.size:=Mg;clear Rz Jaw WQ;generalize World.alloc w2 _=W3 at *
 generalize w2.heap.size=g at *
 have Nv:Hid (w.heap.size<=ob/\ob<g/\w.heap.size<=g/\g<W3.heap.size/\g∉F/\ob∉F):=lh ⟨Mf,Mf,Mf,Mf,fun hm=>by have:=Oq.out g hm;omega,fun hm=>by have:=Oq.out ob hm;omega⟩;clear Xd Xe hz1 hzw hz3 MT Na Su;refine wp_region_held_drew (S:=(fun _=>True)) Mh ?_ (fun hHeld=>?_)
 ·trivial
 refine tk 0 37 ?_;refine tk 1 38 ?_;refine tk 2 39 ?_;refine tk 5 42 ?_;refine tk 6 43 ?_;refine tk 7 44 ?_;refine rdy (rdc 3 40 (fun K hK=>?_) .nil);go_simp;go_at_call 69;refine (Yu.out _ Nf.out.drew).mono ?_;rintro e w5 ⟨rfl,NF⟩;have Nz:=lh (Nf.out.drew.q NF);have ZL:=lh ((ae.refl [] W3).drew.q NF);clear NF;try simp only [Bool.not_not]
 refine hK.out _ _ ?_ (fun hHeld=>?_)
 ·trivial
 clear hK K
 try simp only [Act.put,Lg,Lj,Lk]
 refine tk 4 41 ?_;refine rdy (rdc 8 45 (fun K hK=>?_) .nil);go_simp;refine (HB.out _ Nz.out _ (by rw [yU] <;> first | rfl | simp)).mono ?_;rintro e w6 ⟨rfl,F6,hk6,Xb⟩;have Hk6:=lh hk6;have Hg6:=lh Xb;clear hk6 Xb;refine hK.out _ _ ?_ (fun hHeld=>?_)
 ·trivial
 clear hK K
 try simp only [Act.put,Lg,Lj,Lk]
 refine tk 9 46 ?_;refine wpAnyH_done Mh ?_ _;have HC6:Hid (cC g F w5 F6 w6):=lh (cC.went ⟨ae.refl _ _,fun x h=>.inl h⟩ Hg6.out);have Uf:Hid (g<w5.heap.size):=lh (LN Nv.out.2.2.2.1 ZL.out.size);have Yd:=lh ((UC.out.quiet ZL.out).only Hg6.out.1 (fun x hx e=>by simp [Value.ownBlock] at e;exact Nv.out.2.2.2.2.1 (e ▸ hx)));cases t0 with
 | false =>
  go_wp2_with fail;refine MM.out _ _ ?_;unfold kt;rw [HM.out];exact ⟨F6,Hk6.out,bw.ahead Nz.out Hg6.out,_,rfl,Yd.out.lower Nv.out.2.2.1,fun x hx hm=>by simp [Value.ownBlock] at hx;subst hx;exact HC6.out.apart Uf.out Nv.out.2.2.2.2.1 hm⟩
 | true =>
  have JcP:=lh (Yb.out.quiet ZL.out);have HL5:Hid (ah .i64 lo' hi' w5 (.slice la 64 Nn) l):=lh (HL.out.quiet Nz.out);obtain ⟨la',WI,hle,-,-,Vb,QT⟩:=HL5.out.open;injection hle with hle1 hle2 hle3
  subst hle1;rw [OX.out] at Vb QT;have UH:=lh Vb;have Tb:=lh QT;have HLb:Hid (∀ a,a<64->∀ lb Qh,la=some ⟨lb,Qh,none⟩->lb∉g :: F):=lh (fun a ha lb Qh e=>by
   obtain ⟨b',o',e',x,y⟩:=UH.out a ha;rw [e] at e';injection e' with e'
   injection e' with e1 e2
   subst e1;intro hm;rcases List.mem_cons.1 hm with rfl | hm
   ·have:=Nv.out.2.2.1;have:=HW.out;omega
   ·have:=HF.out _ hm;omega)
  clear hle2 hle3 Vb QT HL UC Yb Nf HB Yu Jjm HL5;go_wp2_with fail;go_loopw [12,50] (fun lf i wr=>∃ k c:Nat,k<=64/\c<=k/\i=.int .i64 k/\lf=.int .i64 c/\Hid ((l.take k).countP nzB=c)/\w6=wr) (fun _ i _=>64-(intOf i).toNat)
  case atStart=>exact ⟨0,0,Mf,Mf,rfl,rfl,lh Mg,rfl⟩
  case round =>
   obtain ⟨k,c,hk,hc,rfl,rfl,Hc,rfl⟩:=hrel;by_cases MO:k<64
   ·have Ny:(k:Int)<64:=Mf
    have NU:(0:Int)<=(k:Int):=Mf;obtain ⟨lb,Qh,rfl,_,_⟩:=UH.out k MO;have c0:=HC6.out.only.cell (Tb.out lb Qh rfl k MO) (HLb.out k MO lb Qh rfl);have HCt:=lh (wB (l:=l) (k:=k) (by rw [OX.out];exact MO));generalize l.getD k 0=x at *
    by_cases hz:x=0
    ·have Og:Hid ((l.take (k+1)).countP nzB=c):=lh (by rw [HCt.out,Hc.out,hz] <;> rfl)
     clear HCt;go_wp2_with fail;exact ⟨⟨k+1,c,Mf,Mf,Mm,by first | rfl | trivial,Og,by first | rfl | trivial⟩,Mk⟩
    ·have Og:Hid ((l.take (k+1)).countP nzB=c+1):=lh (by rw [HCt.out,Hc.out,if_pos (by simpa [nzB] using hz)])
     clear HCt;go_wp2_with fail;exact ⟨⟨k+1,c+1,Mf,Mf,Mm,Mm,Og,by first | rfl | trivial⟩,Mk⟩
   ·obtain rfl:k=64:=Mf
    have Ny:¬ ((64:Nat):Int)<64:=Mf;have HCn:Hid (gz l (aC 8)=c):=lh (by rw [zq OX.out,<- Hc.out,List.take_of_length_le (by rw [OX.out];omega)]);clear MO hk Hc;go_wp2_with fail;go_loopw [12,61] (fun lf i wx=>∃ (k c:Nat) (mc:X.σ) (ol:List Int) (Fc:List Nat),k<=64/\c<=64/\i=.int .i64 k/\lf=.int .i64 c/\Hid (gz l ((aC 8).drop k)=c)/\Hid (X.At Fc wx mc)/\Hid (Own .i64 3 g wx (.slice (some ⟨g,0,none⟩) 64 64) ol)/\Hid (ol.length=64)/\Hid (aF X.C 39 63 l ((aC 8).drop k) k ol mc=aF X.C 39 63 l (aC 8) 0 (List.replicate 64 0) s1)/\Hid (X.Ok (q+2+90*k) mc)/\Hid (cC g F w5 Fc wx)) (fun _ i _=>64-(intOf i).toNat)
    case atStart=>exact ⟨0,c,s1,_,F6,Mf,Mf,rfl,rfl,HCn,Hk6,Yd,lh Mg,lh rfl,Td,HC6⟩
    case round =>
     obtain ⟨k,c,mc,ol,Fc,hk,hcn,rfl,rfl,Vk,VQ,Ro,Ni,He,TX,QN⟩:=hrel;by_cases MO:k<64
     ·have Ti:(k:Int)<64:=Mf
      have NU:(0:Int)<=(k:Int):=Mf;obtain ⟨a,ha,Qb⟩:∃ a,(a<64/\(aC 8).getD k 0=a)/\(aC 8).drop k=a :: (aC 8).drop (k+1):=by
       have Zq:k<(aC 8).length:=by rw [fO];exact MO
       refine ⟨(aC 8)[k],⟨ni _ (LM _),by simp [Zq]⟩,LC Zq⟩
      obtain ⟨Wu,UR⟩:=ha;obtain ⟨lb,Qh,rfl,-,-⟩:=UH.out a Wu;have cl:=QN.out.only.cell (Tb.out lb Qh rfl a Wu) (HLb.out a Wu lb Qh rfl);have co5:=JcP.out.cellS (by simp [cJ,iR]) (i:=k) (by simp [cJ,iR];omega);rw [jF,UR] at co5;have co:=QN.out.only.cell co5 (fun hm=>by
       obtain ⟨n1,n2,n3,n4,n5,n6⟩:=Nv.out;rcases List.mem_cons.1 hm with e | hm
       ·have e':ob=g:=e
        omega
       ·exact n6 hm)
      have hai:(0:Int)<=(a:Int):=Mf;have JjT:(a:Int)<64:=Mf;have hgc:g∉Fc:=QN.out.apart Uf.out Nv.out.2.2.2.2.1;have Hgc:=lh hgc;have WK:=lh (HE.out a Wu (39+1+min k 7) mc);have hvr:-16320<=l.getD a 0/\l.getD a 0<=16320:=Qk.out _ (by have:=OX.out;rw [Le,Lf Mf];exact LM _);have Zw:Hid (gz l ((aC 8).drop (k+1))+(if nzB (l.getD a 0) then 1 else 0)=c):=lh (by rw [<- Vk.out,Qb,mS]);have XQ:Hid (aT X.C 8 l s=aF X.C 39 63 l (a :: (aC 8).drop (k+1)) k ol mc):=lh (by rw [HM.out,if_pos trivial,<- He.out,Qb]);have Zz:Hid (aF X.C 39 63 l (a :: (aC 8).drop (k+1)) k ol mc=aF X.C 39 63 l (aC 8) 0 (List.replicate 64 0) s1):=lh (by rw [<- Qb];exact He.out);have RV:=lh (fun (m1:X.σ) (hi:k<63) hB=>@nT X.σ X.C 39 63 a k l ol ((aC 8).drop (k+1)) mc m1 hi hB);have Jil:=lh (fun (m1 m2:X.σ) (x:Int) (hi:k<63) hB hL hx=>@qi X.σ X.C 39 63 a k l ol ((aC 8).drop (k+1)) mc m1 m2 x hi hB hL hx);have SR:=lh (fun (m1 m2 m3:X.σ) (x:Int) (hi:k<63) hB hL hx h9=>@nR X.σ X.C 39 63 a k l ol ((aC 8).drop (k+1)) mc m1 m2 m3 x hi hB hL hx h9);have Qx:=lh (fun (m1 m2 m3:X.σ) (x:Int) (hi:k<63) hB hL hx h9=>@nS X.σ X.C 39 63 a k l ol ((aC 8).drop (k+1)) mc m1 m2 m3 x hi hB hL hx h9);have Jct:=lh (fun (m2:X.σ) (x:Int) (hi:¬ k<63) hL hx=>@nQ X.σ X.C 39 63 a k l ol ((aC 8).drop (k+1)) mc m2 x hi hL hx);have ZH:=lh (fun (m2:X.σ) (x:Int) (hi:¬ k<63) hL hx=>@lD X.σ X.C 39 63 a k l ol ((aC 8).drop (k+1)) mc m2 x hi hL hx);rw [lw] at SR Qx;clear co5 Qb UR He Vk hgc;obtain ⟨c2,QZ⟩:∃ c2,c2=gz l ((aC 8).drop (k+1)):=⟨_,rfl⟩
      have Og:Hid (gz l ((aC 8).drop (k+1))=c2):=lh QZ.symm;rw [<- QZ] at Zw SR Qx;clear QZ;generalize l.getD a 0=v at *
      have HBt:=lh (fun (W:World) (Fx:List Nat) (mx:X.σ) (z:Nat) (hx:X.At Fx W mx) (okx:X.Ok z mx) (hz:z<=650000000) (cc:Nat) (hcc:cc<64) (b0:Bool) (y:Int) (hy:y=(cc:Int)) (b:Bool) (hb:b=b0)=>(by subst hy;subst hb;exact X.bit cc b hx okx Mf hcc:Calls Tryz.prog X.fb #[.pointer (some ⟨X.R,0,none⟩),y,.bool b] W _));by_cases hz:v=0
      ·obtain rfl:c2=c:=by have:=Zw.out;rw [hz] at this;exact this
       by_cases PH:k<63
       ·have TJ:(k:Int)<63:=Mf
        have SG:=X.ok_bit (39+1+min k 7) (decide (v≠0)) TX.out Mf;obtain ⟨⟨t1,m1⟩,hB⟩:∃ b,b=X.C.bit (39+1+min k 7) (decide (v≠0)) mc:=⟨_,rfl⟩
        replace hB:=hB.symm;rw [hB] at WK SG;have WY:=lh SG;clear SG;cases t1 with
        | false =>
         have Pn:=lh (RV.out m1 PH hB);go_wp2_with fail
         all_goals
          refine (HBt.out _ _ _ _ VQ.out TX.out Mf (39+1+min k 7) Mf (decide (v≠0)) _ Mf _ ?_).mono ?_
          ·first | rfl | exact bG _ _ | exact aY _ _ | (simp;done) | (simp;omega) | (rw [Bool.eq_iff_iff];simp;try omega)
          rintro e w7 ⟨rfl,F7,Rk,Qm⟩;rw [hB] at Rk;simp only [hB];have Ta:=lh Rk;have RH:=lh (Ro.out.only Qm.1 (fun x hx e=>by simp [Value.ownBlock] at e;exact Hgc.out (e ▸ hx)));have SP:=lh (QN.out.went Qm);clear Rk Qm;go_wp2_with fail;exact ⟨⟨k+1,c2,m1,ol,F7,Mf,Mf,Mm,by first | rfl | go_num,Og,Ta,RH,Ni,lh (by rw [<- Pn.out];exact Zz.out),lh (X.ok_le WY.out Mf),SP⟩,Mk⟩
        | true =>
         exact yb
       ·exact yf
      ·obtain rfl:c=c2+1:=by have:=Zw.out;rw [if_pos (by simpa [nzB] using hz)] at this;exact this.symm
       by_cases PH:k<63
       ·have TJ:(k:Int)<63:=Mf
        have SG:=X.ok_bit (39+1+min k 7) (decide (v≠0)) TX.out Mf;obtain ⟨⟨t1,m1⟩,hB⟩:∃ b,b=X.C.bit (39+1+min k 7) (decide (v≠0)) mc:=⟨_,rfl⟩
        replace hB:=hB.symm;rw [hB] at WK SG;have WY:=lh SG;clear SG;cases t1 with
        | false =>
         exact absurd (WK.out rfl) hz
        | true =>
         exact yb
       ·exact yf
     ·obtain rfl:k=64:=Mf
      have Ti:¬ ((64:Nat):Int)<64:=Mf;have PT:Hid (aT X.C 8 l s=(.ok ol,mc)):=lh (by rw [HM.out,if_pos trivial,<- He.out,List.drop_eq_nil_of_le (by rw [fO];omega)];rfl);go_wp2_with fail;refine MM.out _ _ ?_;unfold kt;rw [PT.out];exact ⟨Fc,VQ.out,cC.end Nz.out QN.out ((ae.refl [g] _)) Nv.out.2.2.1 Nv.out.2.2.1,_,rfl,Ro.out.lower Nv.out.2.2.1,fun x hx hm=>by simp [Value.ownBlock] at hx;subst hx;exact QN.out.apart Uf.out Nv.out.2.2.2.2.1 hm⟩
end Go.Proofs.YthcafdfdglfabaaGreatDoor
