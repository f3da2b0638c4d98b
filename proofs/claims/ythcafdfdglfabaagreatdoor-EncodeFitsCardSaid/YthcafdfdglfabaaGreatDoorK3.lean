/- Joined texts: DTurn, DInv. Conditions: each part names its own. -/
import Derived.Test.YthcafdfdglfabaaGreatDoorK2
namespace Go.Proofs.YthcafdfdglfabaaGreatDoor
open Go.RowKit
set_option linter.unusedVariables false
set_option linter.unusedSimpArgs false
set_option maxRecDepth 100000
set_option maxHeartbeats 16000000
theorem yM {lo hi:Nat} {v:Value} {l:List Int} {w:World} (h:ah .i64 lo hi w v l) (hl:l.length=16\/l.length=64) (hb:cN 6266880 l) :
  Calls Tryz.prog 186 #[v] w fun e w'=>∃ v',e=.returned v'/\Own .i64 3 w.heap.size w' v' (bL l)/\cN 401080320 (bL l)/\ae [] w w':=by
 refine aN fun Q MM=>?_
 have HC:=lh (oQ h Mf Mf);obtain ⟨b,off,cap,rfl,_,_,_⟩:=h.at (i:=0) Mf;go_enter Tryz.func186,Tryz.ntmps186;go_wp2_with fail;go_at_call 51;refine HC.mono ?_;rintro e w2 ⟨v2,rfl,MQ,hq⟩;obtain ⟨g,Ot,rfl,OL,Nl⟩:=MQ.form Mf;have Pw:=lh MQ;have Na:=lh hq;have Hb:=lh hb;have Hn:=lh hl;have Hg:=lh (And.intro OL Nl);have HD:Hid (bL l=fI 7 1 l):=lh rfl;have Qn:l.length<=64:=Mf;have Hnn:Hid (l.length=l.length):=lh rfl;clear MQ hq hb hl h HC OL Nl;generalize hn:l.length=n at *
 have PN:=lh hn;clear hn;generalize bL l=T at *
 go_wp2_with fail;go_loopw [4,5,16] (fun hv _ _ wr=>∃ (hh:Nat) (k:Nat) (B:Int) (lc:List Int),hv=.int .i64 hh/\Hid (PW n k hh B)/\Hid (lc.length=n)/\Hid (cN B lc)/\Hid (fI k hh lc=T)/\Hid (Own .i64 3 w.heap.size wr (.slice (some ⟨g,0,none⟩) n Ot) lc)/\Hid (ae [g] w2 wr)) (fun hv _ _ _=>n-(intOf hv).toNat)
 case atStart=>exact ⟨1,7,6266880,l,rfl,lh (PW.start Hn),PN,Hb,lh HD.symm,Pw,lh (ae.refl _ _)⟩
 case round =>
  obtain ⟨hh,k,B,lc,rfl,HP,Hlc,HB,He,Ro,Xx⟩:=hrel;by_cases MO:hh<n
  ·have Py:(hh:Int)<(n:Int):=Mf
   obtain ⟨hp1,Xh,XI,hp4,hB0,hB1,Rb,JBA⟩:=HP.next MO;have HP':=lh hp1;have Sc:=lh Xh;have OZ:=lh XI;have HPm:=lh hp4;have hwm:wrap64 ((hh:Int)*2)=(hh:Int)*2:=by unfold wrap64;omega
   have Hwm:=lh hwm;clear hp1 Xh XI hp4 hwm;go_wp2_with fail;go_loopw [5,16] (fun _ i wi=>∃ (j:Nat) (lm:List Int),j<=n/\i=.int .i64 j/\Hid (lm.length=n)/\Hid (nC B hh j lm)/\Hid (((List.range n).drop j).foldl (gB hh) lm=ud hh lc)/\Hid (Own .i64 3 w.heap.size wi (.slice (some ⟨g,0,none⟩) n Ot) lm)/\Hid (ae [g] w2 wi)) (fun _ i _=>n-(intOf i).toNat)
   case atStart=>exact ⟨0,lc,Mf,rfl,Hlc,lh (xE HB),lh (by rw [List.drop_zero,ud,Hlc.out]),Ro,Xx⟩
   case round =>
    obtain ⟨j,lm,hj,rfl,Ut,HM,Hf,HOm,HQm⟩:=hrel;by_cases YJ:j<n
    ·have JBD:(j:Int)<(n:Int):=Mf
     have WB:(0:Int)<=(j:Int):=Mf;have JjU:=qD j hh Mf Mf;have hor:=sG j hh Mf Mf;have ho:=KM OZ YJ;have HMs:=lh (HM.step hB0 HPm (by rw [Ut.out];exact Qn) (by rw [Ut.out];exact YJ) (by rw [Ut.out];exact ho));by_cases hz:j &&& hh=0
     ·rw [hz] at JjU
      have JwX:bits BinOp.and .i64 (j:Int) (hh:Int)=0:=JjU;obtain ⟨OT,ha,hbb⟩:=HM.pair HPm (by rw [Ut.out];exact Qn) (by rw [Ut.out];exact YJ) (by rw [Ut.out];exact ho) hz;have Hpw:=lh (DT (h:=hh) (i:=j) (l:=lm) hz);have Ox:=lh (ue (h:=hh) YJ lm);clear JjU hz;generalize j ||| hh=o at *
      have hoi:(o:Int)<(n:Int):=Mf;have ho0:(0:Int)<=(o:Int):=Mf;have ca:=HOm.cellS Ut.symm (i:=j) (by rw [Ut.out];exact YJ);have cb:=HOm.cellS Ut.symm (i:=o) (by rw [Ut.out];exact ho);have fa:=HOm.frzS Ut.symm j;have fb:=HOm.frzS Ut.symm o;have Qg:(lm.set j (lm.getD j 0+lm.getD o 0)).getD o 0=lm.getD o 0:=by rw [qY (by rw [Ut.out];exact YJ),if_neg OT]
      generalize hva:lm.getD j 0=va at *
      generalize hvb:lm.getD o 0=vb at *
      obtain ⟨Wu,UR⟩:=ha;obtain ⟨TY,Zm⟩:=hbb;have Jgj:InK .i64 (va+vb):=by simp only [InK];omega
      have VX:InK .i64 (va-vb):=by simp only [InK];omega
      obtain ⟨NC,NE⟩:=HOm.storeS Ut.symm Jgj j;obtain ⟨Uc,hs4⟩:=NC.storeS (by rw [LK];exact Ut.symm) VX o;have cb2:=NC.cellS (by rw [LK];exact Ut.symm) (i:=o) (by rw [LK,Ut.out];exact ho);rw [Qg] at cb2;have fb2:=NC.frzS (by rw [LK];exact Ut.symm) o;have Hva:=lh hva;have Hvb:=lh hvb;have Ql:=lh Uc;have Nf:=lh (NE.trans hs4 (U:=[g]) (fun _ h _=>h) (fun _ h _=>h));clear hva hvb Qg Jgj VX NC NE Uc hs4;go_wp2_with fail
      go_region
      go_wp2_with fail;refine ⟨⟨j+1,gB hh lm j,Mf,Mm,lh (by rw [pd];exact Ut),HMs,lh (by rw [<- Hf.out,Ox.out]),lh ?_,lh (HQm.trans Nf.drew (fun _ h _=>h) (fun _ h _=>h))⟩,Mk⟩;rw [Hpw.out];exact Ql.quiet (ae.refl _ _).drew
     ·have hz':(((j &&& hh:Nat):Int) == 0)=false:=Mp
      have Hpw:=lh (Gh (h:=hh) (i:=j) (l:=lm) hz);have Ox:=lh (ue (h:=hh) YJ lm);clear hz;generalize j &&& hh=z at *
      clear hor;go_wp2_with fail;exact ⟨⟨j+1,lm,Mf,Mm,Ut,by rw [<- Hpw.out];exact HMs,lh (by rw [<- Hf.out,Ox.out,Hpw.out]),HOm,HQm⟩,Mk⟩
    ·obtain rfl:j=n:=Mf
     have hx:¬ (j:Int)<(j:Int):=Mf;go_wp2_with fail;refine ⟨⟨2*hh,k-1,2*B,lm,Mm,HP',Ut,lh (HM.all hB0),lh ?_,HOm,HQm⟩,Mk⟩;have e1:=He.out;rw [Sc.out,yL (by rw [Hlc.out];exact MO),<- Hf.out,Gj] at e1;exact e1
  ·have Py:¬ (hh:Int)<(n:Int):=Mf
   go_wp2_with fail;have e1:=He.out;rw [AR (by rw [Hlc.out];exact MO)] at e1;subst e1;exact MM.out _ _ ⟨_,rfl,Ro.out,HB.mono HP.bound.2.1,Na.trans Xx.out Mg (fun x hx MO=>by rw [mSg] at hx;have:=Hg.1;omega)⟩
theorem cN.all {B:Int} {l:List Int} (h:cN B l):∀ x∈l,-B<=x/\x<=B:=by
 intro x hx;obtain ⟨i,hi,rfl⟩:=List.mem_iff_getElem.1 hx;have:=h i hi;rw [Le,Lf hi] at this;exact this
theorem fj {ys R:List Int} {k:Nat} (h:ys.take k=R.take k) (hk:k<ys.length) (hl:ys.length=R.length) {x:Int} (hx:x=R.getD k 0):(ys.set k x).take (k+1)=R.take (k+1):=by
 subst hx;rw [List.take_succ_eq_append_getElem (by rw [LK];exact hk),List.getElem_set_self,List.take_set,h,List.take_succ_eq_append_getElem Mf,List.set_eq_of_length_le Mq,Le,Lf Mf]
 rfl
theorem nM {ys R:List Int} (h:ys.take ys.length=R.take ys.length) (hl:ys.length=R.length):ys=R:=by
 rw [List.take_length,hl,List.take_length] at h;exact h
theorem fW (l:List Int):(bQ l).length=l.length:=by simp [bQ,eG]
theorem pH (l:List Int) {k:Nat} (h:k<l.length):(bQ l).getD k 0=((bL l).getD k 0+(l.length:Int) / 2) / l.length:=by
 have h':k<(bL l).length:=by rw [eG];exact h
 unfold bQ;rw [Le,LG,Lf h',Le,Lf h']
 rfl
theorem vd {l:List Int} (hl:l.length=16\/l.length=64) (h:cN 401080320 (bL l)):cN 401080320 (bQ l):=by
 intro k hk;rw [fW] at hk;rw [pH l hk];have:=h k (by rw [eG];exact hk);generalize (bL l).getD k 0=x at *
 rcases hl with e | e <;> rw [e] <;> omega
theorem Gm {p:Prop} (h:p:=by
 go_wp2_with fail;have Pq:=nM (R:=I) (by rw [Ol.out];exact XA) (Ol.trans Hil.symm);subst Pq;refine MM.out _ _ ⟨_,rfl,?_,HI.out,Na.trans MW.out Mg (fun x hx MO=>by rw [mSg] at hx;have:=Hg.1;omega)⟩;exact Nc.lower Jso):p:=h
theorem xd {lo hi:Nat} {v:Value} {l:List Int} {w:World} (h:ah .i64 lo hi w v l) (hl:l.length=16\/l.length=64) (hb:cN 6266880 l) :
  Calls Tryz.prog 202 #[v] w fun e w'=>∃ v',e=.returned (.tuple #[v',.nilIface])/\Own .i64 3 w.heap.size w' v' (bQ l)/\cN 401080320 (bQ l)/\ae [] w w':=by
 refine aN fun Q MM=>?_
 have HC:=lh (oM h hl (most:=16777216) Mf (fun x hx=>by have:=hb.all x hx;omega));have HT:=lh (fun (wx:World) (o:ae [] w wx)=>yM (h.quiet o) hl hb);obtain ⟨b,off,cap,rfl,_,_,_⟩:=h.at (i:=0) Mf;have Hl:=lh hl;have HA:=lh (fun (t:cN 401080320 (bL l))=>vd hl t);have Sp:=lh (fun (k:Nat) (hk:k<l.length)=>pH l hk);have Htl:=lh (eG l);have Hil:=lh (fW l);have Qn:l.length<=64:=Mf;have WC:16<=l.length:=Mf;clear h hb hl;go_enter Tryz.func202,Tryz.ntmps202;go_wp2_with fail;go_at_call 185;refine HC.mono ?_;rintro e w1 ⟨rfl,MP⟩;have MT:=lh MP;clear MP;go_wp2_with fail;go_at_call 186;refine (HT.out w1 MT).mono ?_;rintro e w2 ⟨v2,rfl,MQ,UT,hq⟩;obtain ⟨g,Ot,rfl,OL,Nl⟩:=MQ.form (by have:=Htl.out;omega);have HI:=lh (HA.out UT);have HT2:=lh UT;rw [Htl.out] at MQ |-
 have HO:=lh MQ;have Na:=lh (MT.q hq);have Jso:=lh MT.size;have Hg:=lh (And.intro (Lz MT.size OL) Nl);clear MQ hq OL Nl UT HC HT HA MT;generalize bL l=T at *
 generalize bQ l=I at *
 generalize hn:l.length=n at *
 have Hn:=lh hn;clear hn;rcases Hl with hn | hn
 ·subst hn
  go_wp2_with fail;go_at_call 227;refine (Bo 16 Mf _).mono ?_;rintro e w3 ⟨rfl,rfl⟩;rw [if_pos rfl];go_wp2_with fail;go_loopw [23,7] (fun i _ wr=>∃ (k:Nat) (ys:List Int),k<=16/\i=.int .i64 k/\Hid (ys.length=16)/\Hid (ys.take k=I.take k)/\Hid (ys.drop k=T.drop k)/\Hid (Own .i64 3 w1.heap.size wr (.slice (some ⟨g,0,none⟩) 16 Ot) ys)/\Hid (ae [g] w2 wr)) (fun i _ _=>16-(intOf i).toNat)
  case atStart=>exact ⟨0,T,Mf,rfl,Htl,lh rfl,lh rfl,HO,lh (ae.refl _ _)⟩
  case round =>
   obtain ⟨k,ys,hk,rfl,Ol,XA,Hdk,Nc,MW⟩:=hrel;by_cases MO:k<16
   ·have Ny:(k:Int)<16:=Mf
    have NU:(0:Int)<=(k:Int):=Mf;have cx:=Nc.cellS Ol.symm (i:=k) (by rw [Ol.out];exact MO);have fx:=Nc.frzS Ol.symm k;have hxT:ys.getD k 0=T.getD k 0:=by
     have:=congrArg (fun l:List Int=>l.getD 0 0) Hdk;simpa [Le] using this
    have hb:=HT2.out k (by rw [Htl.out];exact MO);have hI:=Sp.out k MO;rw [<- hxT] at hb hI;generalize ys.getD k 0=x at *
    obtain ⟨TY,Zm⟩:=hb;have MX:InK .i64 ((x+8) / 16):=by simp only [InK];omega
    obtain ⟨NC,NE⟩:=Nc.storeS Ol.symm MX k;have NT:=lh NC;have OH:=lh NE;have HIx:=lh hI;have Hdn:Hid ((ys.set k ((x+8) / 16)).drop (k+1)=T.drop (k+1)):=lh (by
     rw [List.drop_set,if_pos Mf];have:=congrArg (fun l:List Int=>l.drop 1) Hdk;simpa [List.drop_drop,Nat.add_comm] using this)
    clear hxT hI MX NC NE;go_wp2_with fail;refine ⟨⟨k+1,ys.set k ((x+8) / 16),Mf,Mm,lh (by rw [LK];exact Ol),lh (fj XA (by rw [Ol.out];exact MO) (Ol.trans Hil.symm) ?_),Hdn,NT,lh (MW.trans OH (fun _ h _=>h) (fun _ h _=>h))⟩,Mk⟩;rw [HIx.out];rfl
   ·obtain rfl:k=16:=Mf
    exact Gm
 ·subst hn
  go_wp2_with fail;go_at_call 227;refine (Bo 64 Mf _).mono ?_;rintro e w3 ⟨rfl,rfl⟩;rw [if_neg Mn];go_wp2_with fail;go_loopw [23,7] (fun i _ wr=>∃ (k:Nat) (ys:List Int),k<=64/\i=.int .i64 k/\Hid (ys.length=64)/\Hid (ys.take k=I.take k)/\Hid (ys.drop k=T.drop k)/\Hid (Own .i64 3 w1.heap.size wr (.slice (some ⟨g,0,none⟩) 64 Ot) ys)/\Hid (ae [g] w2 wr)) (fun i _ _=>64-(intOf i).toNat)
  case atStart=>exact ⟨0,T,Mf,rfl,Htl,lh rfl,lh rfl,HO,lh (ae.refl _ _)⟩
  case round =>
   obtain ⟨k,ys,hk,rfl,Ol,XA,Hdk,Nc,MW⟩:=hrel;by_cases MO:k<64
   ·have Ny:(k:Int)<64:=Mf
    have NU:(0:Int)<=(k:Int):=Mf;have cx:=Nc.cellS Ol.symm (i:=k) (by rw [Ol.out];exact MO);have fx:=Nc.frzS Ol.symm k;have hxT:ys.getD k 0=T.getD k 0:=by
     have:=congrArg (fun l:List Int=>l.getD 0 0) Hdk;simpa [Le] using this
    have hb:=HT2.out k (by rw [Htl.out];exact MO);have hI:=Sp.out k MO;rw [<- hxT] at hb hI;generalize ys.getD k 0=x at *
    obtain ⟨TY,Zm⟩:=hb;have MX:InK .i64 ((x+32) / 64):=by simp only [InK];omega
    obtain ⟨NC,NE⟩:=Nc.storeS Ol.symm MX k;have NT:=lh NC;have OH:=lh NE;have HIx:=lh hI;have Hdn:Hid ((ys.set k ((x+32) / 64)).drop (k+1)=T.drop (k+1)):=lh (by
     rw [List.drop_set,if_pos Mf];have:=congrArg (fun l:List Int=>l.drop 1) Hdk;simpa [List.drop_drop,Nat.add_comm] using this)
    clear hxT hI MX NC NE;go_wp2_with fail;refine ⟨⟨k+1,ys.set k ((x+32) / 64),Mf,Mm,lh (by rw [LK];exact Ol),lh (fj XA (by rw [Ol.out];exact MO) (Ol.trans Hil.symm) ?_),Hdn,NT,lh (MW.trans OH (fun _ h _=>h) (fun _ h _=>h))⟩,Mk⟩;rw [HIx.out];rfl
   ·obtain rfl:k=64:=Mf
    exact Gm
end Go.Proofs.YthcafdfdglfabaaGreatDoor
