/- coef.Code of 64 levels by any coder of the program's. Conditions: the coder stands so; the levels may be; a bit that is told as 0 was asked as 0. -/
import Derived.Test.YthcafdfdglfabaaGreatDoorWB
namespace Go.Proofs.YthcafdfdglfabaaGreatDoor
open Tryz
open Go.RowKit
set_option linter.unusedVariables false
set_option linter.unusedSimpArgs false
set_option maxRecDepth 100000
set_option maxHeartbeats 16000000
theorem um {p:Prop} (h:p:=by
 go_wp2_with fail;refine (HLx.out _ _ WU.out _ _ Qa Qa).mono ?_;rintro e w8 ⟨rfl,F8,Xa,UE⟩;have Hk8:=lh Xa;have Zv:=lh (XZ.out.went UE);clear Xa UE;go_wp2_with fail;refine (tA _ _ (eK.code w8.heap.size w8.heap.size w8 3) (Pm _) (Pm _)).mono ?_;rintro e w9 ⟨ev,rfl,Yh,SR⟩;have Hev:=lh Yh;have Hq9:=lh SR;clear Yh SR;go_wp2_with fail;refine QF.out _ _ ?_;unfold lO;rw [TI.out];exact ⟨F8,X.quiet Hk8.out Hq9.out,cQ.end Rk.out Zv.out (Hq9.out.mono (U:=[g]) Qb) Rv.out.2.2.1 Rv.out.2.2.1,ev,rfl,Hev.out.mono (Pw Rk.out.size Zv.out.only.size) (Pm _)⟩):p:=h
theorem AW {p:Prop} (h:p:=by
 obtain ⟨⟨x,m2⟩,Xv⟩:∃ b,b=aV X.C 39 v m1:=⟨_,rfl⟩
 replace Xv:=Xv.symm;have Ok8:=lh (show X.Ok (q+2+90*k+2+82) m2 by have:=nP X (base:=39) Qa v Ok7.out;rw [Xv] at this;exact this);have HLx:=lh (fun (W:World) (Fx:List Nat) (hx:X.At Fx W m1) (bb vv:Int) (hbb:bb=39) (hvv:vv=v)=>(by have t:=lH X (base:=39) hx Qa v Qa Ok7.out Qa;rw [Xv] at t;subst hbb;subst hvv;exact t:Calls prog 200 #[X.val,bb,vv] W (xA X Fx W (x,m2))));have HLV:=lh Xv;clear Xv;by_cases hv:x < -16320\/16320<x
 ·have TI:Hid (aR X.C 8 l s=(.error ⟨[(kP,(k:Int))],3⟩,m2)):=lh (by rw [HE0.out];exact JmQ.out m1 m2 x TB hB HLV.out hv)
  go_wp2_with fail
  all_goals
   refine (HBt.out _ _ _ _ ZE.out XN.out Qa (39+1+min k 7) Qa (decide (v≠0)) _ Qa _ ?_).mono ?_
   ·first | rfl | exact bG _ _ | exact aX _ _ | (simp;done) | (simp;omega) | (rw [m9];simp;try omega)
   rintro e w7 ⟨rfl,F7,Vk,Ul⟩;rw [hB] at Vk;simp only [hB];have WU:=lh Vk;have Uj:=lh (Vq.out.only Ul.1 (fun x hx e=>by simp [Value.ownBlock] at e;exact Hgc.out (e ▸ hx)));have XZ:=lh (UK.out.went Ul);clear Vk Ul;rcases hv with hv | hv
   ·exact um
   ·have UU:¬ x < -16320:=Qa
    exact um
 ·have UU:¬ x < -16320:=Qa
  have hv2:¬ 16320<x:=Qa;have QS:i7 .i64 x:=by simp only [i7];omega
  have Jed:=X.ok_bit (39+9+min k 7) (decide ((c2:Int)=0)) Ok8.out Qa;obtain ⟨⟨t9,m3⟩,h9⟩:∃ b,b=X.C.bit (39+9+min k 7) (decide ((c2:Int)=0)) m2:=⟨_,rfl⟩
  replace h9:=h9.symm;rw [h9] at Jed;have Ok9:=lh Jed;clear Jed;cases t9 with
  | true =>
   have TI:Hid (aR X.C 8 l s=(.ok (ol.set a x),m3)):=lh (by rw [HE0.out];exact WO.out m1 m2 m3 x TB hB HLV.out hv h9);go_wp2_with fail
   all_goals
    refine (HBt.out _ _ _ _ ZE.out XN.out Qa (39+1+min k 7) Qa (decide (v≠0)) _ Qa _ ?_).mono ?_
    ·first | rfl | exact bG _ _ | exact aX _ _ | (simp;done) | (simp;omega) | (rw [m9];simp;try omega)
    rintro e w7 ⟨rfl,F7,Vk,Ul⟩;rw [hB] at Vk;simp only [hB];have WU:=lh Vk;have Uj:=lh (Vq.out.only Ul.1 (fun x hx e=>by simp [Value.ownBlock] at e;exact Hgc.out (e ▸ hx)));have XZ:=lh (UK.out.went Ul);clear Vk Ul;go_wp2_with fail;refine (HLx.out _ _ WU.out _ _ Qa Qa).mono ?_;rintro e w8 ⟨rfl,F8,Xa,UE⟩;have YT:=XZ.out.went UE;have UG:=Uj.out.only UE.1 (fun x hx e=>by simp [Value.ownBlock] at e;exact XZ.out.apart Ya.out Rv.out.2.2.2.2.1 (e ▸ hx));have cg:=UG.cellS Ra.out.symm (i:=a) (j0 Ra.out);have fg:=UG.frzS Ra.out.symm a;obtain ⟨Ru,Rz⟩:=UG.storeS Ra.out.symm QS a;have Ww:=lh Ru;have Hk8:=lh (X.only Xa Rz (fun x hx=>by rw [i5] at hx;subst hx;exact ⟨Pw Yu.out Rv.out.2.2.1,YT.apart Ya.out Rv.out.2.2.2.2.1⟩));have Zv:=lh (YT.store Rz);clear Xa UE YT UG Ru Rz;go_wp2_with fail
    all_goals
     refine (HBt.out _ _ _ _ Hk8.out Ok8.out Qa (39+9+min k 7) Qa (decide ((c2:Int)=0)) _ Qa _ ?_).mono ?_
     ·first | rfl | exact bG _ _ | exact aX _ _ | (simp;done) | (simp;omega) | (rw [m9];simp;try omega)
     rintro e VQ ⟨rfl,F10,WE,WD⟩;rw [h9] at WE;simp only [h9];have Xu:=lh WE;have Ur:=lh (Ww.out.only WD.1 (fun x hx e=>by simp [Value.ownBlock] at e;exact Zv.out.apart Ya.out Rv.out.2.2.2.2.1 (e ▸ hx)));have XY:=lh (Zv.out.went WD);clear WE WD;go_wp2_with fail;refine QF.out _ _ ?_;unfold lO;rw [TI.out];exact ⟨F10,Xu.out,cQ.end Rk.out XY.out ((ae.refl [g] _)) Rv.out.2.2.1 Rv.out.2.2.1,_,rfl,Ur.out.lower Rv.out.2.2.1,fun x hx hm=>by simp [Value.ownBlock] at hx;subst hx;exact XY.out.apart Ya.out Rv.out.2.2.2.2.1 hm⟩
  | false =>
   have Tk:=lh (UB.out m1 m2 m3 x TB hB HLV.out hv h9);go_wp2_with fail
   all_goals
    refine (HBt.out _ _ _ _ ZE.out XN.out Qa (39+1+min k 7) Qa (decide (v≠0)) _ Qa _ ?_).mono ?_
    ·first | rfl | exact bG _ _ | exact aX _ _ | (simp;done) | (simp;omega) | (rw [m9];simp;try omega)
    rintro e w7 ⟨rfl,F7,Vk,Ul⟩;rw [hB] at Vk;simp only [hB];have WU:=lh Vk;have Uj:=lh (Vq.out.only Ul.1 (fun x hx e=>by simp [Value.ownBlock] at e;exact Hgc.out (e ▸ hx)));have XZ:=lh (UK.out.went Ul);clear Vk Ul;go_wp2_with fail;refine (HLx.out _ _ WU.out _ _ Qa Qa).mono ?_;rintro e w8 ⟨rfl,F8,Xa,UE⟩;have YT:=XZ.out.went UE;have UG:=Uj.out.only UE.1 (fun x hx e=>by simp [Value.ownBlock] at e;exact XZ.out.apart Ya.out Rv.out.2.2.2.2.1 (e ▸ hx));have cg:=UG.cellS Ra.out.symm (i:=a) (j0 Ra.out);have fg:=UG.frzS Ra.out.symm a;obtain ⟨Ru,Rz⟩:=UG.storeS Ra.out.symm QS a;have Ww:=lh Ru;have Hk8:=lh (X.only Xa Rz (fun x hx=>by rw [i5] at hx;subst hx;exact ⟨Pw Yu.out Rv.out.2.2.1,YT.apart Ya.out Rv.out.2.2.2.2.1⟩));have Zv:=lh (YT.store Rz);clear Xa UE YT UG Ru Rz;go_wp2_with fail
    all_goals
     refine (HBt.out _ _ _ _ Hk8.out Ok8.out Qa (39+9+min k 7) Qa (decide ((c2:Int)=0)) _ Qa _ ?_).mono ?_
     ·first | rfl | exact bG _ _ | exact aX _ _ | (simp;done) | (simp;omega) | (rw [m9];simp;try omega)
     rintro e VQ ⟨rfl,F10,WE,WD⟩;rw [h9] at WE;simp only [h9];have Xu:=lh WE;have Ur:=lh (Ww.out.only WD.1 (fun x hx e=>by simp [Value.ownBlock] at e;exact Zv.out.apart Ya.out Rv.out.2.2.2.2.1 (e ▸ hx)));have XY:=lh (Zv.out.went WD);clear WE WD;go_wp2_with fail;exact ⟨⟨k+1,c2,m3,ol.set a x,F10,Qa,Qa,Qh,by first | rfl | go_num,Uz,Xu,Ur,lh (by rw [PF];exact Ra.out),lh (by rw [<- Tk.out];exact Jdg.out),lh (X.ok_le Ok9.out Qa),XY⟩,Qf⟩):p:=h
theorem AZ {p:Prop} (h:p:=by
 exact um):p:=h
theorem Lh {p:Prop} (h:p:=by
 have UU:¬ x < -16320:=Qa;have hv2:¬ 16320<x:=Qa;have QS:i7 .i64 x:=by simp only [i7];omega
 have Tk:=lh (Jdl.out m2 x TB HLV.out hv);go_wp2_with fail;refine (HLx.out _ _ WU.out _ _ Qa Qa).mono ?_;rintro e w8 ⟨rfl,F8,Xa,UE⟩;have YT:=XZ.out.went UE;have UG:=Uj.out.only UE.1 (fun x hx e=>by simp [Value.ownBlock] at e;exact XZ.out.apart Ya.out Rv.out.2.2.2.2.1 (e ▸ hx));have cg:=UG.cellS Ra.out.symm (i:=a) (j0 Ra.out);have fg:=UG.frzS Ra.out.symm a;obtain ⟨Ru,Rz⟩:=UG.storeS Ra.out.symm QS a;have Ww:=lh Ru;have Hk8:=lh (X.only Xa Rz (fun x hx=>by rw [i5] at hx;subst hx;exact ⟨Pw Yu.out Rv.out.2.2.1,YT.apart Ya.out Rv.out.2.2.2.2.1⟩));have Zv:=lh (YT.store Rz);clear Xa UE YT UG Ru Rz;go_wp2_with fail;exact ⟨⟨k+1,c2,m2,ol.set a x,F8,Qa,Qa,Qh,by first | rfl | go_num,Uz,Hk8,Ww,lh (by rw [PF];exact Ra.out),lh (by rw [<- Tk.out];exact Jdg.out),lh (X.ok_le Ok8.out Qa),Zv⟩,Qf⟩):p:=h
theorem Ba {p:Prop} (h:p:=by
 have Xy:¬ (k:Int)<63:=Qa;obtain ⟨⟨x,m2⟩,Xv⟩:∃ b,b=aV X.C 39 v mc:=⟨_,rfl⟩
 replace Xv:=Xv.symm;have Ok8:=lh (show X.Ok (q+2+90*k+82) m2 by have:=nP X (base:=39) Qa v XN.out;rw [Xv] at this;exact this);have HLx:=lh (fun (W:World) (Fx:List Nat) (hx:X.At Fx W mc) (bb vv:Int) (hbb:bb=39) (hvv:vv=v)=>(by have t:=lH X (base:=39) hx Qa v Qa XN.out Qa;rw [Xv] at t;subst hbb;subst hvv;exact t:Calls prog 200 #[X.val,bb,vv] W (xA X Fx W (x,m2))));have HLV:=lh Xv;clear Xv;have WU:=ZE;have Ok7:=XN;have Uj:=Vq;have XZ:=UK;by_cases hv:x < -16320\/16320<x
 ·have TI:Hid (aR X.C 8 l s=(.error ⟨[(kP,(k:Int))],3⟩,m2)):=lh (by rw [HE0.out];exact Jgs.out m2 x TB HLV.out hv)
  rcases hv with hv | hv
  ·exact AZ
  ·have UU:¬ x < -16320:=Qa
   exact AZ
 ·exact Lh):p:=h
theorem Dy (X:PC) {F:List Nat} {lo' hi' q:Nat} {lv:Value} {w:World} {s:X.σ} {l:List Int} (h:X.At F w s) (hl:aj .i64 lo' hi' w lv l) (QJ:l.length=64) (Re:cE l) (hF:∀ x∈F,x<lo'\/hi'<=x) (hw:hi'<=w.heap.size)
  (hE:∀ a,a<64->∀ c m,(X.C.bit c (decide (l.getD a 0≠0)) m).1=false->l.getD a 0=0) (ok:X.Ok q s) (hq:q<=600000000) :
  Calls prog 144 #[X.val,lv] w (lO X F w (aR X.C 8 l s)):=by
 refine aK fun Q QF=>?_
 have mb:=X.mB;have eb:=X.eB;have nb:=X.nB;have Ws:=lh (kq hl QA);have ZJ:li l=none:=by unfold li;rw [if_neg (by rw [QJ];simp),tO Re];rfl
 rw [ZJ] at Ws;have HL:=lh hl;have Jck:=lh (fun (W:World) (o:ae [] w W)=>uK (hl.quiet o) QA);obtain ⟨la,Rl,hlv,-,-,We,-⟩:=hl.open;rw [QJ] at hlv We;subst hlv;have Jod:=lh We;have HK:=lh h;have HB:=lh (fun (W:World) (o:ae [] w W) (b:Bool) (hb:b=!cN l)=>(by subst hb;exact X.bit 39 _ (X.quiet h o) ok Qa Qa:Calls prog X.fb #[.pointer X.R,.int .i64 39,.bool b] W _));have HW:=lh hw;have Ta:=lh QJ;have Uh:=lh Re;have HF:=lh hF;have HE:=lh hE;have Sj:=lh (X.lt h);have Yu:=lh (X.base_le h);have XD:=X.ok_bit 39 (!cN l) ok Qa;have HM:Hid (aR X.C 8 l s=if (X.C.bit 39 (!cN l) s).1 then aH X.C 39 63 l (aD 8) 0 (List.replicate 64 0) (X.C.bit 39 (!cN l) s).2 else (.ok (List.replicate 64 0),(X.C.bit 39 (!cN l) s).2)):=lh rfl;generalize X.C.bit 39 (!cN l) s=b0 at *
 obtain ⟨t0,s1⟩:=b0;simp only at XD HB HM;have WY:=lh XD;clear h hl ZJ We hw QJ Re hF hE ok XD;go_enter func144,ntmps144;go_wp2_with fail;refine Ws.out.mono ?_;rintro e w1 ⟨⟨u,rfl,hu⟩,QI⟩;have hu':u=.nilIface:=hu;subst hu';have QO:=lh QI;clear QI hu;go_wp2_with fail;refine (FH _).mono ?_;rintro e w2 ⟨rfl,rfl⟩;go_wp2_with fail;refine (Ds _).mono ?_;rintro e w2 ⟨ov,rfl,Ux,QN⟩;have Xl:(cY (aD 8)).length=64:=by simp [cY,jM]
 obtain ⟨ob,Jiu,hov,Jbc,Jbd⟩:=Ux.form Qa;rw [Xl] at hov;subst hov;have JaF:=lh Ux;have QT:=lh (QO.out.q QN);have hz1:=QO.out.size;clear Ux QN Xl;have Uv:∀ W:World,(Instr.makeSlice 22 (.int .i64 64) (.int .i64 64)).run prog W=.ok (.slice (some ⟨W.heap.size,0,none⟩) 64 64) (W.alloc (.cells (madeCells #[()] 64) 3)):=fun W=>run_make_row' (P:=prog) 22 3 (.int .i64 0) 8 EI.ut Qc rfl .i64 .i64 64 Qa Qa W
 go_wp2_with fail;clear Uv;have Vf:=ae.new w2 (.cells (madeCells #[()] 64) 3);have Jee:=gB .i64 3 w2 64 Qj;have YB:=lh Jee;have QW:=lh (QT.out.q Vf);have JbW:=lh (JaF.out.quiet Vf);have hzw:=QT.out.size;have hz3:w2.heap.size<(w2.alloc (.cells (madeCells #[()] 64) 3)).heap.size:=Qb;clear Vf Jee JaF;generalize World.alloc w2 _=W3 at *
 generalize w2.heap.size=g at *
 have Rv:Hid (w.heap.size<=ob/\ob<g/\w.heap.size<=g/\g<W3.heap.size/\g∉F/\ob∉F):=lh ⟨Qa,Qa,Qa,Qa,fun hm=>by have:=Sj.out g hm;omega,fun hm=>by have:=Sj.out ob hm;omega⟩;clear Jbc Jbd hz1 hzw hz3 QO QT Ws;refine Tf (S:=(fun _=>True)) Qc ?_ (fun hHeld=>?_)
 ·trivial
 refine tk 0 37 ?_;refine tk 1 38 ?_;refine tk 2 39 ?_;refine tk 5 42 ?_;refine tk 6 43 ?_;refine tk 7 44 ?_;refine j6 3 40 fun K hK=>?_
 go_simp;refine (Jck.out _ QW.out.drew).mono ?_;rintro e w5 ⟨rfl,RF⟩;have Rk:=lh (QW.out.drew.q RF);have O:=lh ((ae.refl [] W3).drew.q RF);clear RF;try simp only [Bool.not_not]
 refine hK.out _ _ ?_ (fun hHeld=>?_)
 ·trivial
 clear hK K
 try simp only [Act.put,Pf,Pi,Pj]
 refine tk 4 41 ?_;refine j6 8 45 fun K hK=>?_
 go_simp;refine (HB.out _ Rk.out _ (by rw [BU] <;> first | rfl | simp)).mono ?_;rintro e w6 ⟨rfl,F6,hk6,hg6⟩;have Hk6:=lh hk6;have M:=lh hg6;clear hk6 hg6;refine hK.out _ _ ?_ (fun hHeld=>?_)
 ·trivial
 clear hK K
 try simp only [Act.put,Pf,Pi,Pj]
 refine tk 9 46 ?_;refine Wn Qc ?_ _;have L:Hid (cQ g F w5 F6 w6):=cQ.went ⟨AY,fun x h=>.inl h⟩ M.out;have Ya:Hid (g<w5.heap.size):=PH Rv.out.2.2.2.1 O.out.size;have JbY:=lh ((YB.out.quiet O.out).only M.out.1 (fun x hx e=>by simp [Value.ownBlock] at e;exact Rv.out.2.2.2.2.1 (e ▸ hx)));cases t0 with
 | false =>
  go_wp2_with fail;refine QF.out _ _ ?_;unfold lO;rw [HM.out];exact ⟨F6,Hk6.out,bA.ahead Rk.out M.out,_,rfl,JbY.out.lower Rv.out.2.2.1,fun x hx hm=>by simp [Value.ownBlock] at hx;subst hx;exact L.out.apart Ya.out Rv.out.2.2.2.2.1 hm⟩
 | true =>
  have JgQ:=lh (JbW.out.quiet O.out);have HL5:Hid (aj .i64 lo' hi' w5 (.slice la 64 Rl) l):=HL.out.quiet Rk.out;obtain ⟨la',Jax,hle,-,-,Za,Va⟩:=HL5.out.open;injection hle with hle1 hle2 hle3
  subst hle1;rw [Ta.out] at Za Va;have YK:=lh Za;have WV:=lh Va;have HLb:Hid (∀ a,a<64->∀ I J,la=some ⟨I,J,none⟩->I∉g :: F):=lh (fun a ha I J e=>by
   obtain ⟨b',o',e',x,y⟩:=YK.out a ha;rw [e] at e';injection e' with e'
   injection e' with e1 e2
   subst e1;intro hm;rcases Zb.1 hm with rfl | hm
   ·have:=Rv.out.2.2.1;have:=HW.out;omega
   ·have:=HF.out _ hm;omega)
  clear hle2 hle3 Za Va HL YB JbW QW HB Jck Jod HL5;go_wp2_with fail;go_loopw [12,50] (fun lf i wr=>∃ k c:Nat,k<=64/\c<=k/\i=.int .i64 k/\lf=.int .i64 c/\Hid ((l.take k).countP m8=c)/\w6=wr) (fun _ i _=>64-(intOf i).toNat)
  case atStart=>exact ⟨0,0,Qa,Qa,rfl,rfl,lh Qb,rfl⟩
  case round =>
   obtain ⟨k,c,hk,hc,rfl,rfl,Hc,rfl⟩:=hrel;by_cases V:k<64
   ·have Rt:(k:Int)<64:=Qa
    have RA:(0:Int)<=(k:Int):=Qa;obtain ⟨I,J,rfl,_,_⟩:=YK.out k V;have c0:=L.out.only.cell (WV.out I J rfl k V) (HLb.out k V I J rfl);have D:=lh (ze (l:=l) (k:=k) (bC Ta V));generalize l.getD k 0=x at *
    by_cases hz:x=0
    ·have Uz:Hid ((l.take (k+1)).countP m8=c):=lh (by rw [D.out,Hc.out,hz] <;> rfl)
     clear D;go_wp2_with fail;exact ⟨⟨k+1,c,Qa,Qa,Qh,by first | rfl | trivial,Uz,by first | rfl | trivial⟩,Qf⟩
    ·have Uz:Hid ((l.take (k+1)).countP m8=c+1):=lh (by rw [D.out,Hc.out,if_pos (by simpa [m8] using hz)])
     clear D;go_wp2_with fail;exact ⟨⟨k+1,c+1,Qa,Qa,Qh,Qh,Uz,by first | rfl | trivial⟩,Qf⟩
   ·obtain rfl:k=64:=Qa
    have Rt:¬ ((64:Nat):Int)<64:=Qa;have HCn:Hid (im l (aD 8)=c):=lh (by rw [Cm Ta.out,<- Hc.out,YN (eC Ta)]);clear V hk Hc;go_wp2_with fail;go_loopw [12,61] (fun lf i wx=>∃ (k c:Nat) (mc:X.σ) (ol:List Int) (Fc:List Nat),k<=64/\c<=64/\i=.int .i64 k/\lf=.int .i64 c/\Hid (im l ((aD 8).drop k)=c)/\Hid (X.At Fc wx mc)/\Hid (f9 .i64 3 g wx (.slice g 64 64) ol)/\Hid (ol.length=64)/\Hid (aH X.C 39 63 l ((aD 8).drop k) k ol mc=aH X.C 39 63 l (aD 8) 0 (List.replicate 64 0) s1)/\Hid (X.Ok (q+2+90*k) mc)/\Hid (cQ g F w5 Fc wx)) (fun _ i _=>64-(intOf i).toNat)
    case atStart=>exact ⟨0,c,s1,_,F6,Qa,Qa,rfl,rfl,HCn,Hk6,JbY,lh Qb,lh rfl,WY,L⟩
    case round =>
     obtain ⟨k,c,mc,ol,Fc,hk,ZJ,rfl,rfl,XG,ZE,Vq,Ra,He,XN,UK⟩:=hrel;by_cases V:k<64
     ·have Xb:(k:Int)<64:=Qa
      have RA:(0:Int)<=(k:Int):=Qa;obtain ⟨a,ha,Tp⟩:∃ a,(a<64/\(aD 8).getD k 0=a)/\(aD 8).drop k=a :: (aD 8).drop (k+1):=by
       have hk':k<(aD 8).length:=dn gQ V
       refine ⟨(aD 8)[k],⟨oU _ (PG _),by simp [hk']⟩,Py hk'⟩
      obtain ⟨E,YR⟩:=ha;obtain ⟨I,J,rfl,-,-⟩:=YK.out a E;have cl:=UK.out.only.cell (WV.out I J rfl a E) (HLb.out a E I J rfl);have Z:=JgQ.out.cellS (by simp [cY,jM]) (i:=k) (by simp [cY,jM];omega);rw [kM,YR] at Z;have co:=UK.out.only.cell Z (fun hm=>by
       obtain ⟨n1,n2,n3,n4,n5,n6⟩:=Rv.out;rcases Zb.1 hm with e | hm
       ·have e':ob=g:=e
        omega
       ·exact n6 hm)
      have hai:(0:Int)<=(a:Int):=Qa;have JoJ:(a:Int)<64:=Qa;have hgc:g∉Fc:=UK.out.apart Ya.out Rv.out.2.2.2.2.1;have Hgc:=lh hgc;have Yx:=lh (HE.out a E (39+1+min k 7) mc);have hvr:-16320<=l.getD a 0/\l.getD a 0<=16320:=Uh.out _ (by have:=Ta.out;rw [Pd,Pe Qa];exact PG _);have N:Hid (im l ((aD 8).drop (k+1))+(if m8 (l.getD a 0) then 1 else 0)=c):=lh (by rw [<- XG.out,Tp,oF]);have HE0:Hid (aR X.C 8 l s=aH X.C 39 63 l (a :: (aD 8).drop (k+1)) k ol mc):=lh (by rw [HM.out,if_pos trivial,<- He.out,Tp]);have Jdg:Hid (aH X.C 39 63 l (a :: (aD 8).drop (k+1)) k ol mc=aH X.C 39 63 l (aD 8) 0 (List.replicate 64 0) s1):=lh (by rw [<- Tp];exact He.out);have Xi:=lh (fun (m1:X.σ) (hi:k<63) hB=>@pH X.σ X.C 39 63 a k l ol ((aD 8).drop (k+1)) mc m1 hi hB);have JmQ:=lh (fun (m1 m2:X.σ) (x:Int) (hi:k<63) hB hL hx=>@rW X.σ X.C 39 63 a k l ol ((aD 8).drop (k+1)) mc m1 m2 x hi hB hL hx);have WO:=lh (fun (m1 m2 m3:X.σ) (x:Int) (hi:k<63) hB hL hx h9=>@pF X.σ X.C 39 63 a k l ol ((aD 8).drop (k+1)) mc m1 m2 m3 x hi hB hL hx h9);have UB:=lh (fun (m1 m2 m3:X.σ) (x:Int) (hi:k<63) hB hL hx h9=>@pG X.σ X.C 39 63 a k l ol ((aD 8).drop (k+1)) mc m1 m2 m3 x hi hB hL hx h9);have Jgs:=lh (fun (m2:X.σ) (x:Int) (hi:¬ k<63) hL hx=>@pE X.σ X.C 39 63 a k l ol ((aD 8).drop (k+1)) mc m2 x hi hL hx);have Jdl:=lh (fun (m2:X.σ) (x:Int) (hi:¬ k<63) hL hx=>@nz X.σ X.C 39 63 a k l ol ((aD 8).drop (k+1)) mc m2 x hi hL hx);rw [nh] at WO UB;clear Z Tp YR He XG hgc;obtain ⟨c2,SE⟩:∃ c2,c2=im l ((aD 8).drop (k+1)):=⟨_,rfl⟩
      have Uz:Hid (im l ((aD 8).drop (k+1))=c2):=lh SE.symm;rw [<- SE] at N WO UB;clear SE;generalize l.getD a 0=v at *
      have HBt:=lh (fun (W:World) (Fx:List Nat) (mx:X.σ) (z:Nat) (hx:X.At Fx W mx) (okx:X.Ok z mx) (hz:z<=650000000) (cc:Nat) (hcc:cc<64) (b0:Bool) (y:Int) (hy:y=(cc:Int)) (b:Bool) (hb:b=b0)=>(by subst hy;subst hb;exact X.bit cc b hx okx Qa hcc:Calls prog X.fb #[.pointer X.R,y,.bool b] W _));by_cases hz:v=0
      ·obtain rfl:c2=c:=by have:=N.out;rw [hz] at this;exact this
       by_cases TB:k<63
       ·have Xy:(k:Int)<63:=Qa
        have Y:=X.ok_bit (39+1+min k 7) (decide (v≠0)) XN.out Qa;obtain ⟨⟨t1,m1⟩,hB⟩:∃ b,b=X.C.bit (39+1+min k 7) (decide (v≠0)) mc:=⟨_,rfl⟩
        replace hB:=hB.symm;rw [hB] at Yx Y;have Ok7:=lh Y;clear Y;cases t1 with
        | false =>
         have Tk:=lh (Xi.out m1 TB hB);go_wp2_with fail
         all_goals
          refine (HBt.out _ _ _ _ ZE.out XN.out Qa (39+1+min k 7) Qa (decide (v≠0)) _ Qa _ ?_).mono ?_
          ·first | rfl | exact bG _ _ | exact aX _ _ | (simp;done) | (simp;omega) | (rw [m9];simp;try omega)
          rintro e w7 ⟨rfl,F7,Vk,Ul⟩;rw [hB] at Vk;simp only [hB];have WU:=lh Vk;have Uj:=lh (Vq.out.only Ul.1 (fun x hx e=>by simp [Value.ownBlock] at e;exact Hgc.out (e ▸ hx)));have XZ:=lh (UK.out.went Ul);clear Vk Ul;go_wp2_with fail;exact ⟨⟨k+1,c2,m1,ol,F7,Qa,Qa,Qh,by first | rfl | go_num,Uz,WU,Uj,Ra,lh (by rw [<- Tk.out];exact Jdg.out),lh (X.ok_le Ok7.out Qa),XZ⟩,Qf⟩
        | true =>
         exact AW
       ·exact Ba
      ·obtain rfl:c=c2+1:=by have:=N.out;rw [if_pos (by simpa [m8] using hz)] at this;exact this.symm
       by_cases TB:k<63
       ·have Xy:(k:Int)<63:=Qa
        have Y:=X.ok_bit (39+1+min k 7) (decide (v≠0)) XN.out Qa;obtain ⟨⟨t1,m1⟩,hB⟩:∃ b,b=X.C.bit (39+1+min k 7) (decide (v≠0)) mc:=⟨_,rfl⟩
        replace hB:=hB.symm;rw [hB] at Yx Y;have Ok7:=lh Y;clear Y;cases t1 with
        | false =>
         exact absurd (Yx.out rfl) hz
        | true =>
         exact AW
       ·exact Ba
     ·obtain rfl:k=64:=Qa
      have Xb:¬ ((64:Nat):Int)<64:=Qa;have TI:Hid (aR X.C 8 l s=(.ok ol,mc)):=lh (by rw [HM.out,if_pos trivial,<- He.out,C1 (by rw [gQ];omega)];rfl);go_wp2_with fail;refine QF.out _ _ ?_;unfold lO;rw [TI.out];exact ⟨Fc,ZE.out,cQ.end Rk.out UK.out ((ae.refl [g] _)) Rv.out.2.2.1 Rv.out.2.2.1,_,rfl,Vq.out.lower Rv.out.2.2.1,fun x hx hm=>by simp [Value.ownBlock] at hx;subst hx;exact UK.out.apart Ya.out Rv.out.2.2.2.2.1 hm⟩
end Go.Proofs.YthcafdfdglfabaaGreatDoor
