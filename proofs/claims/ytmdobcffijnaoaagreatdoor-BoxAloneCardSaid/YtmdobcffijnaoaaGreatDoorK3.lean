/- Joined texts: DTurn, DInv. Conditions: each part names its own. -/
import Derived.Test.YtmdobcffijnaoaaGreatDoorT1
import Derived.Test.YtmdobcffijnaoaaGreatDoorK2
import Derived.Test.YtmdobcffijnaoaaGreatDoorK1
import Derived.BigRegion
namespace Go.Proofs.YtmdobcffijnaoaaGreatDoor
open Go.RowKit
set_option linter.unusedVariables false
set_option linter.unusedSimpArgs false
set_option maxRecDepth 100000
set_option maxHeartbeats 16000000
theorem turn_any {lo hi:Nat} {v:Value} {l:List Int} {w:World} (h:Ints .i64 lo hi w v l) (hl:l.length=16∨l.length=64) (hb:AbsLe 6266880 l) :
  Calls Tryz.prog 213 #[v] w fun e w'=>∃ v',e=.returned v'∧Own .i64 3 w.heap.size w' v' (turnD l)∧AbsLe 401080320 (turnD l)∧Only [] w w':=by
 refine hidQ fun Q HPost=>?_
 have HC:=lh (clone_any h (by omega) (by omega))
 obtain ⟨b,off,cap,rfl,_,_,_⟩:=h.at (i:=0) (by omega)
 go_enter Tryz.func213,Tryz.ntmps213
 go_wp2_with fail
 go_at_call 220
 refine HC.out.mono ?_
 rintro e w2 ⟨v2,rfl,hown,hq⟩
 obtain ⟨g,gcap,rfl,hg1,hg2⟩:=hown.form (by omega)
 have HOwn:=lh hown
 have HQ2:=lh hq
 have Hb:=lh hb
 have Hn:=lh hl
 have Hg:=lh (And.intro hg1 hg2)
 have HD:Hid (turnD l=turnGo 7 1 l):=lh rfl
 have hll:l.length≤64:=by omega
 have Hnn:Hid (l.length=l.length):=lh rfl
 clear hown hq hb hl h HC hg1 hg2
 generalize hn:l.length=n at *
 have Hln:=lh hn
 clear hn
 generalize turnD l=T at *
 go_wp2_with fail
 go_loopw [4,5,16] (fun hv _ _ wr=>∃ (hh:Nat) (k:Nat) (B:Int) (lc:List Int),hv=.int .i64 hh∧Hid (PW n k hh B)∧Hid (lc.length=n)∧Hid (AbsLe B lc)∧Hid (turnGo k hh lc=T)∧Hid (Own .i64 3 w.heap.size wr (.slice (some ⟨g,0,none⟩) n gcap) lc)∧Hid (Only [g] w2 wr)) (fun hv _ _ _=>n-(intOf hv).toNat)
 case atStart=>exact ⟨1,7,6266880,l,rfl,lh (PW.start Hn.out),Hln,Hb,lh HD.out.symm,HOwn,lh (Only.refl _ _)⟩
 case round =>
  obtain ⟨hh,k,B,lc,rfl,HP,Hlc,HB,He,HOc,HQc⟩:=hrel
  by_cases hlt:hh<n
  ·have hlti:(hh:Int)<(n:Int):=by omega
   obtain ⟨hp1,hp2,hp3,hp4,hB0,hB1,hh1,hh64⟩:=HP.out.next hlt
   have HP':=lh hp1
   have HPk:=lh hp2
   have HPc:=lh hp3
   have HPm:=lh hp4
   have hwm:wrap64 ((hh:Int)*2)=(hh:Int)*2:=by unfold wrap64;omega
   have Hwm:=lh hwm
   clear hp1 hp2 hp3 hp4 hwm
   go_wp2_with fail
   go_loopw [5,16] (fun _ i wi=>∃ (j:Nat) (lm:List Int),j≤n∧i=.int .i64 j∧Hid (lm.length=n)∧Hid (MidLe B hh j lm)∧Hid (((List.range n).drop j).foldl (pairW hh) lm=passW hh lc)∧Hid (Own .i64 3 w.heap.size wi (.slice (some ⟨g,0,none⟩) n gcap) lm)∧Hid (Only [g] w2 wi)) (fun _ i _=>n-(intOf i).toNat)
   case atStart=>exact ⟨0,lc,by omega,rfl,Hlc,lh (midLe_start HB.out),lh (by rw [List.drop_zero,passW,Hlc.out]),HOc,HQc⟩
   case round =>
    obtain ⟨j,lm,hj,rfl,Hlm,HM,Hf,HOm,HQm⟩:=hrel
    by_cases hjl:j<n
    ·have hjli:(j:Int)<(n:Int):=by omega
     have hj0:(0:Int)≤(j:Int):=by omega
     have hand:=bits_and_small j hh (by omega) (by omega)
     have hor:=bits_or_small j hh (by omega) (by omega)
     have ho:=or_lt HPc.out hjl
     have HMs:=lh (HM.out.step hB0 HPm.out (by rw [Hlm.out];exact hll) (by rw [Hlm.out];exact hjl) (by rw [Hlm.out];exact ho))
     by_cases hz:j &&& hh=0
     ·rw [hz] at hand
      have hand':bits BinOp.and .i64 (j:Int) (hh:Int)=0:=hand
      obtain ⟨hne,ha,hbb⟩:=HM.out.pair HPm.out (by rw [Hlm.out];exact hll) (by rw [Hlm.out];exact hjl) (by rw [Hlm.out];exact ho) hz
      have Hpw:=lh (pairW_yes (h:=hh) (i:=j) (l:=lm) hz)
      have Hmore:=lh (pass_more (h:=hh) hjl lm)
      clear hand hz
      generalize j ||| hh=o at *
      have hoi:(o:Int)<(n:Int):=by omega
      have ho0:(0:Int)≤(o:Int):=by omega
      have ca:=HOm.out.cellS Hlm.out.symm (i:=j) (by rw [Hlm.out];exact hjl)
      have cb:=HOm.out.cellS Hlm.out.symm (i:=o) (by rw [Hlm.out];exact ho)
      have fa:=HOm.out.frzS Hlm.out.symm j
      have fb:=HOm.out.frzS Hlm.out.symm o
      have hset:(lm.set j (lm.getD j 0+lm.getD o 0)).getD o 0=lm.getD o 0:=by rw [getD_set (by rw [Hlm.out];exact hjl),if_neg hne]
      generalize hva:lm.getD j 0=va at *
      generalize hvb:lm.getD o 0=vb at *
      obtain ⟨ha1,ha2⟩:=ha
      obtain ⟨hb1,hb2⟩:=hbb
      have hin1:InK .i64 (va+vb):=by simp only [InK];omega
      have hin2:InK .i64 (va-vb):=by simp only [InK];omega
      obtain ⟨hs1,hs2⟩:=HOm.out.storeS Hlm.out.symm hin1 j
      obtain ⟨hs3,hs4⟩:=hs1.storeS (by rw [List.length_set];exact Hlm.out.symm) hin2 o
      have cb2:=hs1.cellS (by rw [List.length_set];exact Hlm.out.symm) (i:=o) (by rw [List.length_set,Hlm.out];exact ho)
      rw [hset] at cb2
      have fb2:=hs1.frzS (by rw [List.length_set];exact Hlm.out.symm) o
      have Hva:=lh hva
      have Hvb:=lh hvb
      have HO3:=lh hs3
      have HQ3:=lh (hs2.trans hs4 (U:=[g]) (fun _ h _=>h) (fun _ h _=>h))
      clear hva hvb hset hin1 hin2 hs1 hs2 hs3 hs4
      go_wp2_with fail
      go_region
      go_wp2_with fail
      refine ⟨⟨j+1,pairW hh lm j,by omega,by go_num,lh (by rw [pairW_len];exact Hlm.out),HMs,lh (by rw [← Hf.out,Hmore.out]),lh ?_,lh (HQm.out.trans HQ3.out.drew (fun _ h _=>h) (fun _ h _=>h))⟩,by simp [intOf];omega⟩
      rw [Hpw.out]
      exact HO3.out.quiet (Only.refl _ _).drew
     ·have hz':(((j &&& hh:Nat):Int) == 0)=false:=by rw [beq_eq_false_iff_ne];omega
      have Hpw:=lh (pairW_no (h:=hh) (i:=j) (l:=lm) hz)
      have Hmore:=lh (pass_more (h:=hh) hjl lm)
      clear hz
      generalize j &&& hh=z at *
      clear hor
      go_wp2_with fail
      exact ⟨⟨j+1,lm,by omega,by go_num,Hlm,by rw [← Hpw.out];exact HMs,lh (by rw [← Hf.out,Hmore.out,Hpw.out]),HOm,HQm⟩,by simp [intOf];omega⟩
    ·obtain rfl:j=n:=by omega
     have hx:¬ (j:Int)<(j:Int):=by omega
     go_wp2_with fail
     refine ⟨⟨2*hh,k-1,2*B,lm,by go_num,HP',Hlm,lh (HM.out.all hB0),lh ?_,HOm,HQm⟩,by simp [intOf];omega⟩
     have e1:=He.out
     rw [HPk.out,turnGo_step (by rw [Hlc.out];exact hlt),← Hf.out,pass_end] at e1
     exact e1
  ·have hlti:¬ (hh:Int)<(n:Int):=by omega
   go_wp2_with fail
   have e1:=He.out
   rw [turnGo_end (by rw [Hlc.out];exact hlt)] at e1
   subst e1
   exact HPost.out _ _ ⟨_,rfl,HOc.out,HB.out.mono HP.out.bound.2.1,HQ2.out.trans HQc.out (by simp) (fun x hx hlt=>by rw [mSg] at hx;have:=Hg.out.1;omega)⟩
theorem AbsLe.all {B:Int} {l:List Int} (h:AbsLe B l):∀ x∈l,-B≤x∧x≤B:=by
 intro x hx
 obtain ⟨i,hi,rfl⟩:=List.mem_iff_getElem.1 hx
 have:=h i hi
 rw [List.getD_eq_getElem?_getD,List.getElem?_eq_getElem hi] at this
 exact this
theorem fill_step {ys R:List Int} {k:Nat} (h:ys.take k=R.take k) (hk:k<ys.length) (hl:ys.length=R.length) {x:Int} (hx:x=R.getD k 0):(ys.set k x).take (k+1)=R.take (k+1):=by
 subst hx
 rw [List.take_succ_eq_append_getElem (by rw [List.length_set];exact hk),List.getElem_set_self,List.take_set,h,List.take_succ_eq_append_getElem (by omega),List.set_eq_of_length_le (by simp;omega),List.getD_eq_getElem?_getD,List.getElem?_eq_getElem (by omega)]
 rfl
theorem fill_end {ys R:List Int} (h:ys.take ys.length=R.take ys.length) (hl:ys.length=R.length):ys=R:=by
 rw [List.take_length,hl,List.take_length] at h
 exact h
theorem inverseD_len (l:List Int):(inverseD l).length=l.length:=by simp [inverseD,turnD_len]
theorem inverseD_at (l:List Int) {k:Nat} (h:k<l.length):(inverseD l).getD k 0=((turnD l).getD k 0+(l.length:Int) / 2) / l.length:=by
 have h':k<(turnD l).length:=by rw [turnD_len];exact h
 unfold inverseD
 rw [List.getD_eq_getElem?_getD,List.getElem?_map,List.getElem?_eq_getElem h',List.getD_eq_getElem?_getD,List.getElem?_eq_getElem h']
 rfl
theorem inverseD_abs {l:List Int} (hl:l.length=16∨l.length=64) (h:AbsLe 401080320 (turnD l)):AbsLe 401080320 (inverseD l):=by
 intro k hk
 rw [inverseD_len] at hk
 rw [inverseD_at l hk]
 have:=h k (by rw [turnD_len];exact hk)
 generalize (turnD l).getD k 0=x at *
 rcases hl with e | e <;> rw [e] <;> omega
theorem qDInv0 {p:Prop} (h:p:=by
 go_wp2_with fail
 have hfin:=fill_end (R:=I) (by rw [Hyl.out];exact Htk.out) (Hyl.out.trans Hil.out.symm)
 subst hfin
 refine HPost.out _ _ ⟨_,rfl,?_,HI.out,HQ2.out.trans HQk.out (by simp) (fun x hx hlt=>by rw [mSg] at hx;have:=Hg.out.1;omega)⟩
 exact HOk.out.lower HQ1z.out):p:=h
theorem inverse_any {lo hi:Nat} {v:Value} {l:List Int} {w:World} (h:Ints .i64 lo hi w v l) (hl:l.length=16∨l.length=64) (hb:AbsLe 6266880 l) :
  Calls Tryz.prog 186 #[v] w fun e w'=>∃ v',e=.returned (.tuple #[v',.nilIface])∧Own .i64 3 w.heap.size w' v' (inverseD l)∧AbsLe 401080320 (inverseD l)∧Only [] w w':=by
 refine hidQ fun Q HPost=>?_
 have HC:=lh (whtCheck_any h hl (most:=16777216) (by omega) (fun x hx=>by have:=hb.all x hx;omega))
 have HT:=lh (fun (wx:World) (o:Only [] w wx)=>turn_any (h.quiet o) hl hb)
 obtain ⟨b,off,cap,rfl,_,_,_⟩:=h.at (i:=0) (by omega)
 have Hl:=lh hl
 have HA:=lh (fun (t:AbsLe 401080320 (turnD l))=>inverseD_abs hl t)
 have Hat:=lh (fun (k:Nat) (hk:k<l.length)=>inverseD_at l hk)
 have Htl:=lh (turnD_len l)
 have Hil:=lh (inverseD_len l)
 have hll:l.length≤64:=by omega
 have hl0:16≤l.length:=by omega
 clear h hb hl
 go_enter Tryz.func186,Tryz.ntmps186
 go_wp2_with fail
 go_at_call 212
 refine HC.out.mono ?_
 rintro e w1 ⟨rfl,hq1⟩
 have HQ1:=lh hq1
 clear hq1
 go_wp2_with fail
 go_at_call 213
 refine (HT.out w1 HQ1.out).mono ?_
 rintro e w2 ⟨v2,rfl,hown,habs,hq⟩
 obtain ⟨g,gcap,rfl,hg1,hg2⟩:=hown.form (by have:=Htl.out;omega)
 have HI:=lh (HA.out habs)
 have HT2:=lh habs
 rw [Htl.out] at hown ⊢
 have HO:=lh hown
 have HQ2:=lh (HQ1.out.q hq)
 have HQ1z:=lh HQ1.out.size
 have Hg:=lh (And.intro (Nat.le_trans HQ1.out.size hg1) hg2)
 clear hown hq hg1 hg2 habs HC HT HA HQ1
 generalize turnD l=T at *
 generalize inverseD l=I at *
 generalize hn:l.length=n at *
 have Hn:=lh hn
 clear hn
 rcases Hl.out with hn | hn
 ·subst hn
  go_wp2_with fail
  go_at_call 214
  refine (len_any 16 (by omega) _).mono ?_
  rintro e w3 ⟨rfl,rfl⟩
  rw [if_pos rfl]
  go_wp2_with fail
  go_loopw [23,7] (fun i _ wr=>∃ (k:Nat) (ys:List Int),k≤16∧i=.int .i64 k∧Hid (ys.length=16)∧Hid (ys.take k=I.take k)∧Hid (ys.drop k=T.drop k)∧Hid (Own .i64 3 w1.heap.size wr (.slice (some ⟨g,0,none⟩) 16 gcap) ys)∧Hid (Only [g] w2 wr)) (fun i _ _=>16-(intOf i).toNat)
  case atStart=>exact ⟨0,T,by omega,rfl,Htl,lh rfl,lh rfl,HO,lh (Only.refl _ _)⟩
  case round =>
   obtain ⟨k,ys,hk,rfl,Hyl,Htk,Hdk,HOk,HQk⟩:=hrel
   by_cases hlt:k<16
   ·have hki:(k:Int)<16:=by omega
    have hk0:(0:Int)≤(k:Int):=by omega
    have cx:=HOk.out.cellS Hyl.out.symm (i:=k) (by rw [Hyl.out];exact hlt)
    have fx:=HOk.out.frzS Hyl.out.symm k
    have hxT:ys.getD k 0=T.getD k 0:=by
     have:=congrArg (fun l:List Int=>l.getD 0 0) Hdk.out
     simpa [List.getD_eq_getElem?_getD] using this
    have hb:=HT2.out k (by rw [Htl.out];exact hlt)
    have hI:=Hat.out k hlt
    rw [← hxT] at hb hI
    generalize ys.getD k 0=x at *
    obtain ⟨hb1,hb2⟩:=hb
    have hin:InK .i64 ((x+8) / 16):=by simp only [InK];omega
    obtain ⟨hs1,hs2⟩:=HOk.out.storeS Hyl.out.symm hin k
    have HS1:=lh hs1
    have HS2:=lh hs2
    have HIx:=lh hI
    have Hdn:Hid ((ys.set k ((x+8) / 16)).drop (k+1)=T.drop (k+1)):=lh (by
     rw [List.drop_set,if_pos (by omega)]
     have:=congrArg (fun l:List Int=>l.drop 1) Hdk.out
     simpa [List.drop_drop,Nat.add_comm] using this)
    clear hxT hI hin hs1 hs2
    go_wp2_with fail
    refine ⟨⟨k+1,ys.set k ((x+8) / 16),by omega,by go_num,lh (by rw [List.length_set];exact Hyl.out),lh (fill_step Htk.out (by rw [Hyl.out];exact hlt) (Hyl.out.trans Hil.out.symm) ?_),Hdn,HS1,lh (HQk.out.trans HS2.out (fun _ h _=>h) (fun _ h _=>h))⟩,by simp [intOf];omega⟩
    rw [HIx.out];rfl
   ·obtain rfl:k=16:=by omega
    exact qDInv0
 ·subst hn
  go_wp2_with fail
  go_at_call 214
  refine (len_any 64 (by omega) _).mono ?_
  rintro e w3 ⟨rfl,rfl⟩
  rw [if_neg (by decide)]
  go_wp2_with fail
  go_loopw [23,7] (fun i _ wr=>∃ (k:Nat) (ys:List Int),k≤64∧i=.int .i64 k∧Hid (ys.length=64)∧Hid (ys.take k=I.take k)∧Hid (ys.drop k=T.drop k)∧Hid (Own .i64 3 w1.heap.size wr (.slice (some ⟨g,0,none⟩) 64 gcap) ys)∧Hid (Only [g] w2 wr)) (fun i _ _=>64-(intOf i).toNat)
  case atStart=>exact ⟨0,T,by omega,rfl,Htl,lh rfl,lh rfl,HO,lh (Only.refl _ _)⟩
  case round =>
   obtain ⟨k,ys,hk,rfl,Hyl,Htk,Hdk,HOk,HQk⟩:=hrel
   by_cases hlt:k<64
   ·have hki:(k:Int)<64:=by omega
    have hk0:(0:Int)≤(k:Int):=by omega
    have cx:=HOk.out.cellS Hyl.out.symm (i:=k) (by rw [Hyl.out];exact hlt)
    have fx:=HOk.out.frzS Hyl.out.symm k
    have hxT:ys.getD k 0=T.getD k 0:=by
     have:=congrArg (fun l:List Int=>l.getD 0 0) Hdk.out
     simpa [List.getD_eq_getElem?_getD] using this
    have hb:=HT2.out k (by rw [Htl.out];exact hlt)
    have hI:=Hat.out k hlt
    rw [← hxT] at hb hI
    generalize ys.getD k 0=x at *
    obtain ⟨hb1,hb2⟩:=hb
    have hin:InK .i64 ((x+32) / 64):=by simp only [InK];omega
    obtain ⟨hs1,hs2⟩:=HOk.out.storeS Hyl.out.symm hin k
    have HS1:=lh hs1
    have HS2:=lh hs2
    have HIx:=lh hI
    have Hdn:Hid ((ys.set k ((x+32) / 64)).drop (k+1)=T.drop (k+1)):=lh (by
     rw [List.drop_set,if_pos (by omega)]
     have:=congrArg (fun l:List Int=>l.drop 1) Hdk.out
     simpa [List.drop_drop,Nat.add_comm] using this)
    clear hxT hI hin hs1 hs2
    go_wp2_with fail
    refine ⟨⟨k+1,ys.set k ((x+32) / 64),by omega,by go_num,lh (by rw [List.length_set];exact Hyl.out),lh (fill_step Htk.out (by rw [Hyl.out];exact hlt) (Hyl.out.trans Hil.out.symm) ?_),Hdn,HS1,lh (HQk.out.trans HS2.out (fun _ h _=>h) (fun _ h _=>h))⟩,by simp [intOf];omega⟩
    rw [HIx.out];rfl
   ·obtain rfl:k=64:=by omega
    exact qDInv0
end Go.Proofs.YtmdobcffijnaoaaGreatDoor
