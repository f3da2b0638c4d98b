/- kinlaw23.GopAlone: a group's beginning is coded as all of it is, up to there. Conditions: what is handed in reads. -/
import Derived.Test.YtkigikallkpbcaaGreatDoorGC
import Derived.Test.YtkigikallkpbcaaGreatDoorF2
import Derived.Test.YtkigikallkpbcaaGreatDoorG7
import Derived.Deep.DeepCutAuto
namespace Go.Proofs.YtkigikallkpbcaaGreatDoor
open Go.RowKit
set_option linter.unusedVariables false
set_option linter.unusedSimpArgs false
set_option maxRecDepth 100000
set_option maxHeartbeats 16000000
theorem qGAlWt0 {p:Prop} (h:p:=by intro wz hSw;obtain ⟨k0,k1,k2,k3,k4,k5,k6,k7⟩:=cfg_cells hSw;go_simp;try with_reducible rfl):p:=h
theorem take_ge {α:Type} [Inhabited α] {l:List α} {n:Nat} (h:n≤l.length):(l.take n).length=n:=by rw [List.length_take];omega
theorem Ints.take {k:IntKind} {lo hi:Nat} {w:World} {a:Option Addr} {cap:Nat} {l:List Int} (h:Ints k lo hi w (.slice a l.length cap) l) {n:Nat} (hn:n≤l.length):Ints k lo hi w (.slice a n cap) (l.take n):=by
 obtain ⟨⟨h1,a',c',e,h3,h4,h5⟩,h6⟩:=h
 injection e with e1 e2 e3
 subst e1;subst e3
 have hl:(l.take n).length=n:=by rw [List.length_take];omega
 refine ⟨⟨by simp,a,cap,by rw [hl],by rw [hl];omega,h4,fun hp=>?_⟩,fun x hx=>h6 x (List.mem_of_mem_take hx)⟩
 obtain ⟨b,off,e,x,y,hc⟩:=h5 (by rw [hl] at hp;omega)
 refine ⟨b,off,e,x,y,fun j u hu=>hc j u ?_⟩
 rw [List.map_take,List.getElem?_take] at hu
 split at hu
 ·exact hu
 ·cases hu
section
theorem qGAlW0 {p:Prop} (h:p:=by
 go_wp2_with fail
 go_at_call 9
 refine (HFi.out _ HQ3.out).mono ?_
 rintro e w4 ⟨rfl,hq4⟩
 have HQ4:=lh (HQ3.out.q hq4)
 clear hq4
 go_wp2_with fail
 exact HPost.out _ _ ⟨rfl,HQ4.out⟩):p:=h
theorem galone_any {lv cv:Value} {l:List FrameD} {caps:List Int} {at0:Int} {w:World} (c:Cfg) (h:FramesAt 0 w.heap.size w lv l) (hc:Ints .i64 0 w.heap.size w cv caps) (hat:InK .i64 at0) (hE:ErrT w) :
  Calls Tryz.prog 6 #[c.v,lv,cv,.int .i64 at0] w fun e w'=>e=.returned (.bool true)∧Only [] w w':=by
 obtain ⟨a0,a1,a2,a3,a4,a5,a6,a7⟩:=c
 show Calls Tryz.prog 6 #[.agg #[.int .i64 a0,.int .i64 a1,.int .i64 a2,.int .i64 a3,.int .i64 a4,.int .i64 a5,.int .i64 a6,.int .i64 a7],lv,cv,.int .i64 at0] w _
 refine hidQ fun Q HPost=>?_
 have HFi:=lh (fun (W:World) (o:Only [] w W)=>gfirst1_any W (hE.quiet o))
 have HLi:=lh (fun (W:World) (o:Only [] w W)=>glight_any (a0:=a0) (a1:=a1) (a2:=a2) (a3:=a3) (a4:=a4) (a5:=a5) (a6:=a6) (a7:=a7) (h.quiet o))
 have HEn:=lh (fun (W:World) (o:Only [] w W) (h1:l.length≤1000000000) (h2:caps.length≤1000000000)=>gencode_any (a0:=a0) (a1:=a1) (a2:=a2) (a3:=a3) (a4:=a4) (a5:=a5) (a6:=a6) (a7:=a7) (h.quiet o) h1 (hc.quiet o) h2 o.size)
 have Hh:=lh h
 have Hc:=lh hc
 have Hat:=lh hat
 obtain ⟨la,ln,rfl,hln,hlm,-⟩:=h.open
 obtain ⟨ka,kn,rfl,hkn,hkm,-⟩:=hc.open
 have hll:(l.length:Int)≤9223372036854775807:=by unfold maxLen at hlm;omega
 have hcl:(caps.length:Int)≤9223372036854775807:=by unfold maxLen at hkm;omega
 have HLc:=lh (And.intro hln hkn)
 have hq1:=Only.new w (.cells #[.int .i64 a0,.int .i64 a1,.int .i64 a2,.int .i64 a3,.int .i64 a4,.int .i64 a5,.int .i64 a6,.int .i64 a7] 60)
 have HQ1:=lh hq1
 have HR1:=lh (heap_alloc_new w (.cells #[.int .i64 a0,.int .i64 a1,.int .i64 a2,.int .i64 a3,.int .i64 a4,.int .i64 a5,.int .i64 a6,.int .i64 a7] 60))
 clear h hc hat hE hln hlm hkn hkm hq1
 go_enter Tryz.func6,Tryz.ntmps6
 go_wp2_with fail
 generalize hW1:World.alloc w _=W1 at *
 clear hW1
 obtain ⟨BX,hBX⟩:∃ z,z=w.heap.size:=⟨_,rfl⟩
 rw [← hBX] at HR1 ⊢
 clear hBX
 go_at_call 9
 refine (HFi.out _ HQ1.out).mono ?_
 rintro e w2 ⟨rfl,hq2⟩
 have HQ2:=lh (HQ1.out.q hq2)
 have HR2:=lh (hq2.row HR1.out)
 clear hq2
 obtain ⟨k0,k1,k2,k3,k4,k5,k6,k7⟩:=cfg_cells HR2.out
 go_wp2_with fail
 clear k0 k1 k2 k3 k4 k5 k6 k7
 go_at_call 27
 refine (HLi.out _ HQ2.out).mono ?_
 rintro e w3 ⟨⟨b,rfl,hb⟩,hq3⟩
 have HQ3:=lh (HQ2.out.q hq3)
 have HR3:=lh (hq3.row HR2.out)
 clear hq3
 cases b with
 | false =>
  clear hb
  exact qGAlW0
 | true =>
  have hpx:=hb rfl
  unfold pixB at hpx
  simp only [Bool.and_eq_true,decide_eq_true_eq] at hpx
  have hl40:=hpx.1
  clear hb hpx
  by_cases hc100:(100:Int)<(caps.length:Int)
  ·clear hl40
   exact qGAlW0
  ·have HCn:Hid (caps.length≤100∧l.length≤40):=lh ⟨by omega,hl40⟩
   by_cases hl0:l.length=0
   ·obtain rfl:l=[]:=List.eq_nil_of_length_eq_zero hl0
    clear hl0 hl40
    exact qGAlW0
   ·have q0:((l.length:Int) == 0)=false:=by rw [beq_eq_false_iff_ne];omega
    have HPos:Hid (0<l.length):=lh (by omega)
    have HEn1:=lh (HEn.out _ HQ3.out (by omega) (by have:=HCn.out.1;omega))
    unfold GopP at HEn1
    clear hl40 hl0
    obtain ⟨k0,k1,k2,k3,k4,k5,k6,k7⟩:=cfg_cells HR3.out
    go_wp2_with fail
    clear k0 k1 k2 k3 k4 k5 k6 k7
    go_at_call 28
    refine HEn1.out.mono ?_
    rintro e w5 ⟨hq5,hm⟩
    have HQ5:=lh (HQ3.out.q hq5)
    have HQ35:=lh hq5
    have HR5:=lh (hq5.row HR3.out)
    clear hq5 HEn1
    cases hck:gcheckE (⟨a0,a1,a2,a3,a4,a5,a6,a7⟩:Cfg) l caps with
    | some kk =>
     rw [hck] at hm
     obtain rfl:=hm
     clear hck
     go_wp2_with fail
     go_at_call 9
     refine (HFi.out _ HQ5.out).mono ?_
     rintro e w6 ⟨rfl,hq6⟩
     have HQ6:=lh (HQ5.out.q hq6)
     clear hq6
     go_wp2_with fail
     exact HPost.out _ _ ⟨rfl,HQ6.out⟩
    | none =>
     rw [hck] at hm
     obtain ⟨ya,yn,yb,ym,rfl,hA,hB⟩:=hm
     have HA:=lh hA
     have HB:=lh hB
     have HCk:=lh hck
     have hcaps:caps.length=l.length:=(gcheck_none hck).2.2.2.2.1
     have HCp:=lh hcaps
     clear hck hA hB hcaps
     go_upto_if 62 with (fail)
     obtain ⟨W6,hW6⟩:∃ z,z=w5:=⟨_,rfl⟩
     subst hW6
     go_cut [3] (fun s wx=>∃ p:Int,s=.int .i64 p∧Hid (0≤p∧p≤9223372036854775807)∧W6=wx)
     case first =>
      by_cases hneg:at0<0
      ·have hat:=Hat.out
       unfold InK at hat
       have hwA:IntKind.i64.wrap (at0+1)=at0+1:=by rw [IntKind.wrap_i64];omega
       have hwB:IntKind.i64.wrap (-(at0+1))=-(at0+1):=by rw [IntKind.wrap_i64];omega
       have HP0:Hid (0≤-(at0+1)∧-(at0+1)≤9223372036854775807):=lh ⟨by omega,by omega⟩
       clear hat
       go_wp2_with fail
       go_meet
       exact ⟨-(at0+1),rfl,HP0,rfl⟩
      ·have HP0:Hid (0≤at0∧at0≤9223372036854775807):=lh (by have:=Hat.out;unfold InK at this;omega)
       go_wp2_with fail
       go_meet
       exact ⟨at0,rfl,HP0,rfl⟩
     case rest =>
      obtain ⟨p,rfl,HP0,hWx⟩:=hcut
      subst hWx
      have HR6:=HR5
      obtain ⟨i,hi1,hi3⟩:∃ i:Nat,p.tmod (l.length:Int)=i∧i<l.length:=by
       have h0:=HP0.out.1
       have hbz2:¬ (l.length:Int)=0:=by have:=HPos.out;omega
       have h1:=Int.emod_nonneg p hbz2
       have h2:=Int.emod_lt_of_pos p (show (0:Int)<l.length by have:=HPos.out;omega)
       exact ⟨(p % (l.length:Int)).toNat,by rw [Int.tmod_eq_emod_of_nonneg h0];omega,by omega⟩
      obtain ⟨m,hm⟩:∃ m,m=i+1:=⟨_,rfl⟩
      have hml:m≤l.length:=by omega
      have hmc:m≤caps.length:=by have:=HCp.out;omega
      have hm0:0<m:=by omega
      have hwm:IntKind.i64.wrap (1+(i:Int))=(m:Int):=by rw [IntKind.wrap_i64];have:=HCn.out.2;omega
      have hbz:((l.length:Int) == 0)=false:=q0
      have hbz2:¬ (l.length:Int)=0:=by have:=HPos.out;omega
      have hbz3:¬ l.length=0:=by have:=HPos.out;omega
      obtain ⟨g1,g2,g3⟩:=gop_take HCk.out hm0 hml
      have HEn2:Hid (∀ (W:World) (o:Only [] W6 W),Calls Tryz.prog 28 #[.agg #[.int .i64 a0,.int .i64 a1,.int .i64 a2,.int .i64 a3,.int .i64 a4,.int .i64 a5,.int .i64 a6,.int .i64 a7],.slice la m ln,.slice ka m kn] W fun e w'=>Only [] W w'∧∃ a an b bn,e=.returned (.tuple #[.slice a m an,.slice b m bn,.nilIface])∧CodedsAt W.heap.size w'.heap.size w' (.slice a m an) ((gopA (⟨a0,a1,a2,a3,a4,a5,a6,a7⟩:Cfg) l caps).take m)∧FramesAt W.heap.size w'.heap.size w' (.slice b m bn) ((gopB (⟨a0,a1,a2,a3,a4,a5,a6,a7⟩:Cfg) l caps).take m)):=lh (fun W o=>by
       have e1:(l.take m).length=m:=take_ge hml
       have e2:(caps.take m).length=m:=take_ge hmc
       have h:=gencode_any (a0:=a0) (a1:=a1) (a2:=a2) (a3:=a3) (a4:=a4) (a5:=a5) (a6:=a6) (a7:=a7) (v:=.slice la m ln) (cv:=.slice ka m kn) (l:=l.take m) (caps:=caps.take m) ((Hh.out.quiet (HQ5.out.q o)).take hml) (by have:=HCn.out.2;omega) ((Hc.out.quiet (HQ5.out.q o)).take hmc) (by have:=HCn.out.1;omega) (HQ5.out.q o).size
       unfold GopP at h
       rw [g1,g2,g3,e1] at h
       exact h)
      have HLA:Hid ((gopA (⟨a0,a1,a2,a3,a4,a5,a6,a7⟩:Cfg) l caps).length=l.length):=lh (gopA_len _ _ _)
      have HLB:Hid ((gopB (⟨a0,a1,a2,a3,a4,a5,a6,a7⟩:Cfg) l caps).length=l.length):=lh (gopB_len _ _ _)
      have hlm:m≤ln:=by have:=HLc.out.1;omega
      have hkm:m≤kn:=by have:=HLc.out.2;omega
      generalize gopA (⟨a0,a1,a2,a3,a4,a5,a6,a7⟩:Cfg) l caps=GA at *
      generalize gopB (⟨a0,a1,a2,a3,a4,a5,a6,a7⟩:Cfg) l caps=GB at *
      have Hml:=lh hml
      clear g1 g2 g3 hm0 hi3 HEn HLi hm
      go_upto_region 11 with (fail)
      clear hwm hi1
      refine wp_region_held_drew (S:=(fun wz=>wz.heap[BX]?=some (.cells #[.int .i64 a0,.int .i64 a1,.int .i64 a2,.int .i64 a3,.int .i64 a4,.int .i64 a5,.int .i64 a6,.int .i64 a7] 60 (0,0)))) (by kernel_rfl) ?_ (fun hHeld=>?_)
      ·first | exact HR6.out | exact (Only.refl [] _).drew.row HR6.out
      refine tkw 0 72 ⟨rfl,qGAlWt0⟩ ?_
      refine tkw 1 73 ⟨rfl,qGAlWt0⟩ ?_
      refine tkw 2 74 ⟨rfl,qGAlWt0⟩ ?_
      refine tkw 3 75 ⟨rfl,qGAlWt0⟩ ?_
      refine tkw 4 76 ⟨rfl,qGAlWt0⟩ ?_
      refine tkw 5 77 ⟨rfl,qGAlWt0⟩ ?_
      refine tkw 6 78 ⟨rfl,qGAlWt0⟩ ?_
      refine rdy (rdc 7 79 (fun K hK=>?_) .nil)
      go_simp
      go_at_call 28
      refine (HEn2.out _ (by first | exact Only.refl _ _ | exact (Only.refl _ _).drew)).mono ?_
      rintro e w7 ⟨hq,xa,xn,xb,xm,rfl,hA2,hB2⟩
      have HQ67:Hid (Only [] W6 w7):=lh (by first | exact hq | exact (Only.refl _ _).drew.q hq)
      have HA2:=lh hA2
      have HB2:=lh hB2
      clear hq hA2 hB2
      refine hK.out _ _ ?_ (fun hHeld=>?_)
      ·exact HQ67.out.row HR6.out
      clear hK K
      try simp only [Act.put,List.setIfInBounds_toArray,List.set_cons_zero,List.set_cons_succ]
      refine tkw 8 71 ⟨rfl,qGAlWt0⟩ ?_
      refine tkw 9 80 ⟨rfl,qGAlWt0⟩ ?_
      refine tkw 10 81 ⟨rfl,qGAlWt0⟩ ?_
      refine tkw 11 82 ⟨rfl,qGAlWt0⟩ ?_
      refine tkw 12 12 ⟨rfl,qGAlWt0⟩ ?_
      refine tkw 13 13 ⟨rfl,qGAlWt0⟩ ?_
      refine tkw 14 14 ⟨rfl,qGAlWt0⟩ ?_
      refine wpAnyH_done (by kernel_rfl) ?_ _
      have HQ7:=lh (HQ5.out.q HQ67.out)
      have HA7:=lh (HA.out.quiet HQ67.out)
      have HB7:=lh (HB.out.quiet HQ67.out)
      have hyn:m≤yn:=by obtain ⟨_,_,e,h1,-,-⟩:=HA7.out.open;injection e with e1 e2 e3;have:=HLA.out;have:=Hml.out;omega
      have hym:m≤ym:=by obtain ⟨_,_,e,h1,-,-⟩:=HB7.out.open;injection e with e1 e2 e3;have:=HLB.out;have:=Hml.out;omega
      have HKc:=lh (fun (W:World) (o:Only [] w7 W)=>codeds_any (HA2.out.quiet o) ((show CodedsAt _ _ W (.slice ya m yn) (GA.take m) from by
       have h:=HA7.out.quiet o
       rw [← HLA.out] at h
       exact h.take (by rw [HLA.out];exact Hml.out))))
      rw [show eqB (GA.take m) (GA.take m)=true by simp [eqB]] at HKc
      have HKf:=lh (fun (W:World) (o:Only [] w7 W)=>kframes_same (HB2.out.quiet o) ((show FramesAt _ _ W (.slice yb m ym) (GB.take m) from by
       have h:=HB7.out.quiet o
       rw [← HLB.out] at h
       exact h.take (by rw [HLB.out];exact Hml.out))))
      clear HA HB HA2 HB2 HA7 HB7 HR6 HEn2
      go_wp2_with fail
      go_at_call 9
      refine (HFi.out _ HQ7.out).mono ?_
      rintro e w8 ⟨rfl,hq8⟩
      have HQ8:=lh hq8
      clear hq8
      go_wp2_with fail
      go_at_call 19
      refine (HKc.out _ HQ8.out).mono ?_
      rintro e w9 ⟨rfl,hq9⟩
      have HQ9:=lh (HQ8.out.q hq9)
      clear hq9
      go_wp2_with fail
      go_at_call 29
      refine (HKf.out _ HQ9.out).mono ?_
      rintro e wA ⟨rfl,hqA⟩
      have HQA:=lh (HQ7.out.q (HQ9.out.q hqA))
      clear hqA
      go_wp2_with fail
      exact HPost.out _ _ ⟨rfl,HQA.out⟩
end
end Go.Proofs.YtkigikallkpbcaaGreatDoor
