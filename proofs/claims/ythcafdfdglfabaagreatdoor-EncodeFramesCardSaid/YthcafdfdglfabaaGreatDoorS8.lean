/- Joined texts: DPred, DOne. Conditions: each part names its own. -/
import Derived.Test.YthcafdfdglfabaaGreatDoorS5
import Derived.Test.YthcafdfdglfabaaGreatDoorK7
namespace Go.Proofs.YthcafdfdglfabaaGreatDoor
open Go.RowKit
set_option linter.unusedVariables false
set_option linter.unusedSimpArgs false
set_option maxRecDepth 100000
set_option maxHeartbeats 16000000
theorem xQ (mode:Int) (top left:List Int) (corner:Int) {k:Nat} (h:k<top.length*top.length):(bj mode top left corner).getD k 0=eQ mode top left corner k:=by
 unfold bj;rw [Le,LG,List.getElem?_range h]
 rfl
section
theorem rh {lo hi lo' hi':Nat} {tv lv:Value} {top left:List Int} {w:World} (ht:ah .i64 lo hi w tv top) (hl:ah .i64 lo' hi' w lv left) (hn:top.length=4\/top.length=8) (Vr:left.length=top.length) (Sl:au top) (PQ:au left) {corner:Int} (hc:0<=corner/\corner<=255) :
  Calls Tryz.prog 192 #[tv,lv,corner] w fun e w'=>e=.returned .nilIface/\ae [] w w':=by
 refine aN fun Q MM=>?_
 have h1:=hZ ht Mf;rw [ee.2 Sl] at h1;have h2:=fun (W:World) (o:ae [] w W)=>hZ (hl.quiet o) Mf
 rw [ee.2 PQ] at h2;have H1:=lh h1;have H2:=lh h2;obtain ⟨ta,TT,rfl,-⟩:=ht.open;obtain ⟨la,Nn,rfl,-⟩:=hl.open;clear h1 h2 ht hl Sl PQ;obtain ⟨Vq,Sj⟩:=hc;rw [Vr] at H2 |-
 generalize top.length=n at *
 clear Vr;have hx:(n:Int)=4\/(n:Int)=8:=Mf;clear hn;rcases hx with hx | hx
 all_goals
  go_enter Tryz.func192,Tryz.ntmps192;go_wp2_with fail;go_at_call 124;refine H1.mono ?_;rintro e w1 ⟨rfl,MP⟩;have MT:=lh MP;clear MP;go_wp2_with fail;go_at_call 124;refine (H2.out w1 MT).mono ?_;rintro e w2 ⟨rfl,MV⟩;have Na:=lh MV;clear MV;go_wp2_with fail;exact MM.out _ _ ⟨rfl,MT.q Na.out⟩
theorem BC {p:Prop} (h:p:=by
 have hA:A.getD k 0=ep (y+x-corner):=by rw [HAx.out,hm0];rfl
 have hb0:(mode == 0)=false:=Mp;have TY:(mode == 1)=false:=Mp;have Zm:(mode == 2)=false:=Mp;have Hm0:=lh hm0;clear hm0;have MX:InK .i64 (ep (y+x-corner)):=by have:=iJ (y+x-corner);simp only [InK];omega
 obtain ⟨NC,NE⟩:=Nc.storeS Ol.symm MX k;have HAy:=lh hA;have NT:=lh NC;have OH:=lh NE;clear hA MX NC NE;have HC:=lh (fun W:World=>wA (y+x-corner) W);generalize ep (y+x-corner)=cv at *
 go_wp2_with fail
 go_region
 go_wp2_with fail;go_at_call 147;refine (HC.out _).mono ?_;rintro e w3 ⟨rfl,rfl⟩;go_wp2_with fail;refine ⟨?_,Mk⟩
 (repeat apply Exists.intro)
 exact ⟨⟨k+1,ys.set k (cv),Mf,Mm,lh (by rw [LK];exact Ol),lh (fj XA (by rw [Ol.out];exact MO) (Ol.trans QK.symm) HAy.symm),lh (NT.quiet (ae.refl _ _).drew),lh (Yk.trans OH.drew (U:=[]) Mg (fun g hg MO=>Mj))⟩,rfl⟩):p:=h
theorem BD {p:Prop} (h:p:=by
 have hA:A.getD k 0=y:=by rw [HAx.out,hm0];rfl
 have hb0:(mode == 0)=false:=Mp;have TY:(mode == 1)=false:=Mp;have Zm:(mode == 2)=true:=Mz;have Hm0:=lh hm0;clear hm0;have MX:InK .i64 (y):=by simp only [InK];omega
 obtain ⟨NC,NE⟩:=Nc.storeS Ol.symm MX k;have HAy:=lh hA;have NT:=lh NC;have OH:=lh NE;clear hA MX NC NE;go_wp2_with fail
 go_region
 go_wp2_with fail;exact ⟨⟨k+1,ys.set k (y),Mf,Mm,lh (by rw [LK];exact Ol),lh (fj XA (by rw [Ol.out];exact MO) (Ol.trans QK.symm) HAy.symm),lh (NT.quiet (ae.refl _ _).drew),lh (Yk.trans OH.drew (U:=[]) Mg (fun g hg MO=>Mj))⟩,Mk⟩):p:=h
theorem BF {p:Prop} (h:p:=by
 have hA:A.getD k 0=x:=by rw [HAx.out,hm0];rfl
 have hb0:(mode == 0)=false:=Mp;have TY:(mode == 1)=true:=Mz;have Hm0:=lh hm0;clear hm0;have MX:InK .i64 (x):=by simp only [InK];omega
 obtain ⟨NC,NE⟩:=Nc.storeS Ol.symm MX k;have HAy:=lh hA;have NT:=lh NC;have OH:=lh NE;clear hA MX NC NE;go_wp2_with fail
 go_region
 go_wp2_with fail;exact ⟨⟨k+1,ys.set k (x),Mf,Mm,lh (by rw [LK];exact Ol),lh (fj XA (by rw [Ol.out];exact MO) (Ol.trans QK.symm) HAy.symm),lh (NT.quiet (ae.refl _ _).drew),lh (Yk.trans OH.drew (U:=[]) Mg (fun g hg MO=>Mj))⟩,Mk⟩):p:=h
theorem BG {p:Prop} (h:p:=by
 have NU:(0:Int)<=(k:Int):=Mf;have ct:=MW.cell (HTc.out k MO) Mg;have cl:=MW.cell (Ri.out k MO) Mg;have bt:=Hts.at k;have bl:=Hls.at k;have bs:=HS.out k;rw [Hn.out] at bs;have Ox:Hid (ie top left (k+1)=ie top left k+(top.getD k 0+left.getD k 0)):=lh rfl;generalize top.getD k 0=x at *
 generalize left.getD k 0=y at *
 generalize ie top left k=s at *
 obtain ⟨bt0,bt1⟩:=bt;obtain ⟨bl0,bl1⟩:=bl;obtain ⟨bs0,bs1⟩:=bs;go_wp2_with fail
 go_region
 go_wp2_with fail;exact ⟨⟨k+1,Mf,Mm,by rw [Ox.out],lh (MW.drew)⟩,Mk⟩):p:=h
theorem BH {p:Prop} (h:p:=by
 go_wp2_with fail;have Pq:=nM (R:=A) (by rw [Ol.out];exact XA) (Ol.trans QK.symm);subst Pq;exact MM.out _ _ ⟨_,rfl,Nc.lower MW.size,MW.q Yk.out⟩):p:=h
theorem mK {lo hi lo' hi':Nat} {tv lv:Value} {top left:List Int} {w:World} (ht:ah .i64 lo hi w tv top) (hl:ah .i64 lo' hi' w lv left) (hn:top.length=4) (Vr:left.length=4) (Sl:au top) (PQ:au left) {corner:Int} (hc:0<=corner/\corner<=255) {mode:Int} (hm:0<=mode/\mode<=3) :
  Calls Tryz.prog 193 #[mode,tv,lv,corner] w fun e w'=>∃ v',e=.returned v'/\Own .i64 3 w.heap.size w' v' (bj mode top left corner)/\ae [] w w':=by
 refine aN fun Q MM=>?_
 obtain ⟨ta,TT,rfl,-,-,Jee,Vh⟩:=ht.open;obtain ⟨la,Nn,rfl,-,-,TK,Vc⟩:=hl.open;obtain ⟨tb,JkV,rfl,-,-⟩:=Jee 0 Mf;obtain ⟨lb,Qh,rfl,-,-⟩:=TK 0 Mf;have HTc:=lh (fun i (hi:i<4)=>Vh tb JkV rfl i Mf);have Ri:=lh (fun i (hi:i<4)=>Vc lb Qh rfl i Mf);have Hts:=lh Sl;have Hls:=lh PQ;have HS:=lh (fun k=>mt Sl PQ k);have QK:Hid ((bj mode top left corner).length=16):=lh (by rw [cS,hn]);have Qp:=lh (fun k (hk:k<16)=>xQ mode top left corner (k:=k) (by rw [hn];exact hk));have HA:Hid (∀ k,eQ mode top left corner k=if mode=0 then ie top left 4 / 8
  else if mode=1 then top.getD (k % 4) 0
  else if mode=2 then left.getD (k / 4) 0
  else ep (left.getD (k / 4) 0+top.getD (k % 4) 0-corner)):=lh (fun k=>by unfold eQ;rw [hn];rfl)
 have Jtm:=lh (block_lt_of_cell (HTc.out 0 Mf));have Jtd:=lh (block_lt_of_cell (Ri.out 0 Mf));have Hn:=lh hn;rw [hn,Vr];obtain ⟨Vq,Sj⟩:=hc;clear ht hl Jee Vh TK Vc Sl PQ hn Vr;generalize bj mode top left corner=A at *
 have Rc:∀ W:World,(Instr.makeSlice 22 (.int .i64 16) (.int .i64 16)).run Tryz.prog W=.ok (.slice (some ⟨W.heap.size,0,none⟩) 16 16) (W.alloc (.cells (madeCells #[()] 16) 3)):=fun W=>run_make_row' (P:=Tryz.prog) 22 3 (.int .i64 0) 8 EI.ut Mh rfl .i64 .i64 16 Mf Mf W
 go_enter Tryz.func193,Tryz.ntmps193;go_wp2_with fail;go_loopw [20,10,11] (fun i s _ wr=>∃ (k:Nat),k<=4/\i=.int .i64 k/\s=.int .i64 (ie top left k)/\Hid (ae [] w wr)) (fun i _ _ _=>4-(intOf i).toNat)
 case atStart=>exact ⟨0,Mf,rfl,by show Value.int .i64 _=Value.int .i64 (top.length:Int);rw [Hn.out];rfl,lh (ae.refl _ _)⟩
 case round =>
  obtain ⟨k,hk,rfl,rfl,MW⟩:=hrel;by_cases MO:k<4
  ·have Ny:(k:Int)<4:=Mf
   exact BG
  ·obtain rfl:k=4:=Mf
   have bs:=HS.out 4;rw [Hn.out] at bs;generalize hS:ie top left 4=s at *
   obtain ⟨bs0,bs1⟩:=bs;clear hS;go_wp2_with fail;clear Rc;have HO:=lh (fD .i64 3 wr 16 Mo);go_loopw [41,13,14,15] (fun i _ _ _ wt=>∃ (k:Nat) (ys:List Int),k<=16/\i=.int .i64 k/\Hid (ys.length=16)/\Hid (ys.take k=A.take k)/\Hid (Own .i64 3 wr.heap.size wt (.slice (some ⟨wr.heap.size,0,none⟩) 16 16) ys)/\Hid (ae [] wr wt)) (fun i _ _ _ _=>16-(intOf i).toNat)
   case atStart=>exact ⟨0,List.replicate 16 0,Mf,rfl,lh Mg,lh rfl,HO,lh (ae.new _ _)⟩
   case round =>
    obtain ⟨k,ys,hk,rfl,Ol,XA,Nc,Yk⟩:=hrel;by_cases MO:k<16
    ·have Ny:(k:Int)<16:=Mf
     have NU:(0:Int)<=(k:Int):=Mf;have ha:k % 4<4:=Mf;have hb:k / 4<4:=Mf;have ct:=(MW.q Yk).cell (HTc.out (k % 4) ha) Mg;have cl:=(MW.q Yk).cell (Ri.out (k / 4) hb) Mg;have cx:=Nc.cellS Ol.symm (i:=k) (by rw [Ol.out];exact MO);have fx:=Nc.frzS Ol.symm k;have bt:=Hts.at (k % 4);have bl:=Hls.at (k / 4);have hA:=(Qp.out k MO).trans (HA.out k);have em1:(k:Int).tmod 4=((k % 4:Nat):Int):=by rw [LX NU] <;> omega
     have em2:(k:Int).tdiv 4=((k / 4:Nat):Int):=by rw [Int.tdiv_eq_ediv_of_nonneg NU] <;> omega
     have em3:(k:Int) % 4=((k % 4:Nat):Int):=Mf;have em4:(k:Int) / 4=((k / 4:Nat):Int):=Mf;generalize top.getD (k % 4) 0=x at *
     generalize left.getD (k / 4) 0=y at *
     generalize ys.getD k 0=z at *
     generalize k % 4=a at *
     generalize k / 4=b at *
     have ha0:(a:Int)<4:=Mf;have hb0:(b:Int)<4:=Mf;obtain ⟨bt0,bt1⟩:=bt;obtain ⟨bl0,bl1⟩:=bl;have HAx:=lh hA;clear hA;rcases (by omega:mode=0\/mode=1\/mode=2\/mode=3) with hm0 | hm0 | hm0 | hm0
     ·have hA:A.getD k 0=s / 8:=by rw [HAx.out,hm0];rfl
      have hb0:(mode == 0)=true:=Mz;have Hm0:=lh hm0;clear hm0;have MX:InK .i64 (s / 8):=by simp only [InK];omega
      obtain ⟨NC,NE⟩:=Nc.storeS Ol.symm MX k;have HAy:=lh hA;have NT:=lh NC;have OH:=lh NE;clear hA MX NC NE;go_wp2_with fail
      go_region
      go_wp2_with fail;exact ⟨⟨k+1,ys.set k (s / 8),Mf,Mm,lh (by rw [LK];exact Ol),lh (fj XA (by rw [Ol.out];exact MO) (Ol.trans QK.symm) HAy.symm),lh (NT.quiet (ae.refl _ _).drew),lh (Yk.trans OH.drew (U:=[]) Mg (fun g hg MO=>Mj))⟩,Mk⟩
     ·exact BF
     ·exact BD
     ·exact BC
    ·obtain rfl:k=16:=Mf
     have hx:¬ (16:Int)<16:=Mf;exact BH
theorem mL {lo hi lo' hi':Nat} {tv lv:Value} {top left:List Int} {w:World} (ht:ah .i64 lo hi w tv top) (hl:ah .i64 lo' hi' w lv left) (hn:top.length=8) (Vr:left.length=8) (Sl:au top) (PQ:au left) {corner:Int} (hc:0<=corner/\corner<=255) {mode:Int} (hm:0<=mode/\mode<=3) :
  Calls Tryz.prog 193 #[mode,tv,lv,corner] w fun e w'=>∃ v',e=.returned v'/\Own .i64 3 w.heap.size w' v' (bj mode top left corner)/\ae [] w w':=by
 refine aN fun Q MM=>?_
 obtain ⟨ta,TT,rfl,-,-,Jee,Vh⟩:=ht.open;obtain ⟨la,Nn,rfl,-,-,TK,Vc⟩:=hl.open;obtain ⟨tb,JkV,rfl,-,-⟩:=Jee 0 Mf;obtain ⟨lb,Qh,rfl,-,-⟩:=TK 0 Mf;have HTc:=lh (fun i (hi:i<8)=>Vh tb JkV rfl i Mf);have Ri:=lh (fun i (hi:i<8)=>Vc lb Qh rfl i Mf);have Hts:=lh Sl;have Hls:=lh PQ;have HS:=lh (fun k=>mt Sl PQ k);have QK:Hid ((bj mode top left corner).length=64):=lh (by rw [cS,hn]);have Qp:=lh (fun k (hk:k<64)=>xQ mode top left corner (k:=k) (by rw [hn];exact hk));have HA:Hid (∀ k,eQ mode top left corner k=if mode=0 then ie top left 8 / 16
  else if mode=1 then top.getD (k % 8) 0
  else if mode=2 then left.getD (k / 8) 0
  else ep (left.getD (k / 8) 0+top.getD (k % 8) 0-corner)):=lh (fun k=>by unfold eQ;rw [hn];rfl)
 have Jtm:=lh (block_lt_of_cell (HTc.out 0 Mf));have Jtd:=lh (block_lt_of_cell (Ri.out 0 Mf));have Hn:=lh hn;rw [hn,Vr];obtain ⟨Vq,Sj⟩:=hc;clear ht hl Jee Vh TK Vc Sl PQ hn Vr;generalize bj mode top left corner=A at *
 have Rc:∀ W:World,(Instr.makeSlice 22 (.int .i64 64) (.int .i64 64)).run Tryz.prog W=.ok (.slice (some ⟨W.heap.size,0,none⟩) 64 64) (W.alloc (.cells (madeCells #[()] 64) 3)):=fun W=>run_make_row' (P:=Tryz.prog) 22 3 (.int .i64 0) 8 EI.ut Mh rfl .i64 .i64 64 Mf Mf W
 go_enter Tryz.func193,Tryz.ntmps193;go_wp2_with fail;go_loopw [20,10,11] (fun i s _ wr=>∃ (k:Nat),k<=8/\i=.int .i64 k/\s=.int .i64 (ie top left k)/\Hid (ae [] w wr)) (fun i _ _ _=>8-(intOf i).toNat)
 case atStart=>exact ⟨0,Mf,rfl,by show Value.int .i64 _=Value.int .i64 (top.length:Int);rw [Hn.out];rfl,lh (ae.refl _ _)⟩
 case round =>
  obtain ⟨k,hk,rfl,rfl,MW⟩:=hrel;by_cases MO:k<8
  ·have Ny:(k:Int)<8:=Mf
   exact BG
  ·obtain rfl:k=8:=Mf
   have bs:=HS.out 8;rw [Hn.out] at bs;generalize hS:ie top left 8=s at *
   obtain ⟨bs0,bs1⟩:=bs;clear hS;go_wp2_with fail;clear Rc;have HO:=lh (fD .i64 3 wr 64 Mo);go_loopw [41,13,14,15] (fun i _ _ _ wt=>∃ (k:Nat) (ys:List Int),k<=64/\i=.int .i64 k/\Hid (ys.length=64)/\Hid (ys.take k=A.take k)/\Hid (Own .i64 3 wr.heap.size wt (.slice (some ⟨wr.heap.size,0,none⟩) 64 64) ys)/\Hid (ae [] wr wt)) (fun i _ _ _ _=>64-(intOf i).toNat)
   case atStart=>exact ⟨0,List.replicate 64 0,Mf,rfl,lh Mg,lh rfl,HO,lh (ae.new _ _)⟩
   case round =>
    obtain ⟨k,ys,hk,rfl,Ol,XA,Nc,Yk⟩:=hrel;by_cases MO:k<64
    ·have Ny:(k:Int)<64:=Mf
     have NU:(0:Int)<=(k:Int):=Mf;have ha:k % 8<8:=Mf;have hb:k / 8<8:=Mf;have ct:=(MW.q Yk).cell (HTc.out (k % 8) ha) Mg;have cl:=(MW.q Yk).cell (Ri.out (k / 8) hb) Mg;have cx:=Nc.cellS Ol.symm (i:=k) (by rw [Ol.out];exact MO);have fx:=Nc.frzS Ol.symm k;have bt:=Hts.at (k % 8);have bl:=Hls.at (k / 8);have hA:=(Qp.out k MO).trans (HA.out k);have em1:(k:Int).tmod 8=((k % 8:Nat):Int):=by rw [LX NU] <;> omega
     have em2:(k:Int).tdiv 8=((k / 8:Nat):Int):=by rw [Int.tdiv_eq_ediv_of_nonneg NU] <;> omega
     have em3:(k:Int) % 8=((k % 8:Nat):Int):=Mf;have em4:(k:Int) / 8=((k / 8:Nat):Int):=Mf;generalize top.getD (k % 8) 0=x at *
     generalize left.getD (k / 8) 0=y at *
     generalize ys.getD k 0=z at *
     generalize k % 8=a at *
     generalize k / 8=b at *
     have ha0:(a:Int)<8:=Mf;have hb0:(b:Int)<8:=Mf;obtain ⟨bt0,bt1⟩:=bt;obtain ⟨bl0,bl1⟩:=bl;have HAx:=lh hA;clear hA;rcases (by omega:mode=0\/mode=1\/mode=2\/mode=3) with hm0 | hm0 | hm0 | hm0
     ·have hA:A.getD k 0=s / 16:=by rw [HAx.out,hm0];rfl
      have hb0:(mode == 0)=true:=Mz;have Hm0:=lh hm0;clear hm0;have MX:InK .i64 (s / 16):=by simp only [InK];omega
      obtain ⟨NC,NE⟩:=Nc.storeS Ol.symm MX k;have HAy:=lh hA;have NT:=lh NC;have OH:=lh NE;clear hA MX NC NE;go_wp2_with fail
      go_region
      go_wp2_with fail;exact ⟨⟨k+1,ys.set k (s / 16),Mf,Mm,lh (by rw [LK];exact Ol),lh (fj XA (by rw [Ol.out];exact MO) (Ol.trans QK.symm) HAy.symm),lh (NT.quiet (ae.refl _ _).drew),lh (Yk.trans OH.drew (U:=[]) Mg (fun g hg MO=>Mj))⟩,Mk⟩
     ·exact BF
     ·exact BD
     ·exact BC
    ·obtain rfl:k=64:=Mf
     have hx:¬ (64:Int)<64:=Mf;exact BH
theorem pQ {lo hi lo' hi':Nat} {tv lv:Value} {top left:List Int} {w:World} (ht:ah .i64 lo hi w tv top) (hl:ah .i64 lo' hi' w lv left) (hn:top.length=4\/top.length=8) (Vr:left.length=top.length) (Sl:au top) (PQ:au left) {corner:Int} (hc:0<=corner/\corner<=255) {mode:Int} (hm:0<=mode/\mode<=3) :
  Calls Tryz.prog 138 #[mode,tv,lv,corner] w fun e w'=>∃ v',e=.returned (.tuple #[v',.nilIface])/\Own .i64 3 w.heap.size w' v' (bj mode top left corner)/\ae [] w w':=by
 refine aN fun Q MM=>?_
 have HC:=lh (rh ht hl hn Vr Sl PQ hc);have HF:Hid (∀ W,ae [] w W->Calls Tryz.prog 193 #[mode,tv,lv,corner] W fun e w'=>∃ v',e=.returned v'/\Own .i64 3 W.heap.size w' v' (bj mode top left corner)/\ae [] W w'):=lh (fun W o=>by
  rcases hn with hn | hn
  ·exact mK (ht.quiet o) (hl.quiet o) hn Mf Sl PQ hc hm
  ·exact mL (ht.quiet o) (hl.quiet o) hn Mf Sl PQ hc hm)
 obtain ⟨ta,TT,rfl,-⟩:=ht.open;obtain ⟨la,Nn,rfl,-⟩:=hl.open;obtain ⟨hm0,YL⟩:=hm;have hm2:¬ mode<0:=Mf;have hm3:mode<4:=Mf;have hm4:¬ 4<=mode:=Mf;clear ht hl hn Sl PQ hc;generalize bj mode top left corner=A at *
 generalize left.length=ln at *
 clear Vr;generalize top.length=n at *
 go_enter Tryz.func138,Tryz.ntmps138;go_wp2_with fail;go_at_call 192;refine HC.mono ?_;rintro e w1 ⟨rfl,MP⟩;have MT:=lh MP;clear MP;go_wp2_with fail;go_at_call 193;refine (HF.out w1 MT).mono ?_;rintro e w2 ⟨v2,rfl,MQ,MV⟩;have HO:=lh MQ;have Na:=lh MV;clear MQ MV;go_wp2_with fail;exact MM.out _ _ ⟨v2,rfl,HO.lower MT.size,MT.q Na.out⟩
end
theorem lS {lo hi g cap base:Nat} {lv:Value} {l:List Int} {w:World} {f:ai} {x y:Int} {n q:Nat} {mode:Int} (hf:FrOk f) (hp:Own .i64 3 base w (.slice (some ⟨g,0,none⟩) f.pix.length cap) f.pix) (hl:ah .i64 lo hi w lv l) (hg:g<lo\/hi<=g)
  (hn:n=4\/n=8) (Qn:l.length=n*n) (Nj:cu l) (hq:q<=15) (hm:0<=mode/\mode<=3) (hx:0<=x) (NA:x+n<=f.W) (hy:0<=y) (NM:y+n<=f.H) :
  Calls Tryz.prog 83 #[.agg #[f.W,f.H,.slice (some ⟨g,0,none⟩) f.pix.length cap],x,y,n,mode,q,lv] w fun e w'=>e=.returned (.tuple #[])/\Own .i64 3 base w' (.slice (some ⟨g,0,none⟩) f.pix.length cap) (dR f x y n mode q l).pix/\ae [g] w w':=by
 refine aN fun Q MM=>?_
 have TW:=lh ((hp.at g rfl).2);have MP:=ae.new w (.cells #[f.W,f.H,.slice (some ⟨g,0,none⟩) f.pix.length cap] 24);have Nq:Hid ((w.alloc (.cells #[f.W,f.H,.slice (some ⟨g,0,none⟩) f.pix.length cap] 24)).heap[w.heap.size]?=some (.cells #[f.W,f.H,.slice (some ⟨g,0,none⟩) f.pix.length cap] 24 (0,0))):=lh (heap_alloc_new w _);have Jpw:n*n=16\/n*n=64:=by rcases hn with rfl | rfl <;> simp
 have HE:=lh (tA hf (hp.ints.quiet MP) x y n hn hx NA hy NM);have Ug:Hid (∀ (lo1 hi1 TQ RK:Nat) (v1 v2:Value) (W:World),ah .i64 lo1 hi1 W v1 (cZ f x y n)->ah .i64 TQ RK W v2 (bU f x y n)->Calls Tryz.prog 138 #[mode,v1,v2,.int .i64 (aB f (x-1) (y-1))] W fun e w'=>∃ v',e=.returned (.tuple #[v',.nilIface])/\Own .i64 3 W.heap.size w' v' (bj mode (cZ f x y n) (bU f x y n) (aB f (x-1) (y-1)))/\ae [] W w') :=
  lh (fun _ _ _ _ _ _ W h1 h2=>pQ h1 h2 (by rw [cH];exact hn) (by rw [cH,iA]) (ix hf.sam _ _ _) (fX hf.sam _ _ _) (eo hf.sam _ _) hm)
 have SH:(bj mode (cZ f x y n) (bU f x y n) (aB f (x-1) (y-1))).length=n*n:=by rw [cS,cH]
 have hps:au (bj mode (cZ f x y n) (bU f x y n) (aB f (x-1) (y-1))):=jH (ix hf.sam _ _ _) (fX hf.sam _ _ _) (by rw [cH];omega) _ _;have Htl:=lh (cH f x y n);have Hll:=lh (iA f x y n);have HD:Hid ((dR f x y n mode q l).pix=(dz f x y n (fS (bj mode (cZ f x y n) (bU f x y n) (aB f (x-1) (y-1))) l q)).pix):=lh rfl;generalize bj mode (cZ f x y n) (bU f x y n) (aB f (x-1) (y-1))=P at *
 have hal:(fS P l q).length=n*n:=by rw [fT (by rw [SH,Qn])];exact SH
 have Ni:Hid ((fS P l q).length=n*n/\0<n*n):=lh ⟨hal,Mf⟩;have QK:=lh (And.intro SH (show 0<n*n by omega));have HAd:Hid (∀ (W:World) {lo1 hi1:Nat} {v:Value},ae [] (w.alloc (.cells #[f.W,f.H,.slice (some ⟨g,0,none⟩) f.pix.length cap] 24)) W->ah .i64 lo1 hi1 W v P->Calls Tryz.prog 82 #[v,lv,q] W fun e w'=>∃ v',e=.returned v'/\Own .i64 3 W.heap.size w' v' (fS P l q)/\ae [] W w') :=
  lh (fun W _ _ _ o h=>pA h (hl.quiet (MP.q o)) (by rw [Qn];exact Jpw) (by rw [SH,Qn]) hps Nj q hq)
 have HLy:Hid (∀ (W:World) {lo1:Nat} (v:Value),ae [] (w.alloc (.cells #[f.W,f.H,.slice (some ⟨g,0,none⟩) f.pix.length cap] 24)) W->Own .i64 3 lo1 W v (fS P l q)->g<lo1->Calls Tryz.prog 81 #[.agg #[f.W,f.H,.slice (some ⟨g,0,none⟩) f.pix.length cap],x,y,n,v] W fun e w'=>e=.returned (.tuple #[])/\Own .i64 3 base w' (.slice (some ⟨g,0,none⟩) f.pix.length cap) (dz f x y n (fS P l q)).pix/\ae [g] W w') :=
  lh (fun W _ v o h MO=>rO hf (hp.quiet (MP.q o)) h.ints (.inl MO) hn hal hx NA hy NM)
 have MT:=lh MP;obtain ⟨la,Nn,rfl,-⟩:=hl.open;clear hp hl hg Nj SH hps hal MP hf Jpw hn Qn;generalize fS P l q=A at *
 generalize cZ f x y n=T at *
 generalize bU f x y n=L at *
 generalize aB f (x-1) (y-1)=cn at *
 go_enter Tryz.func83,Tryz.ntmps83;obtain ⟨r0,r1,r2⟩:=ag Nq;go_wp2_with fail;go_at_call 136;refine HE.mono ?_;rintro e w2 ⟨v1,v2,rfl,Nu,OU,MV⟩;obtain ⟨a1,c1,rfl,-⟩:=Nu.ints.open;obtain ⟨a2,c2,rfl,-⟩:=OU.ints.open;have Oy:=lh Nu;have Sb:=lh OU;have Na:=lh MV;clear r0 r1 r2;obtain ⟨r0,r1,r2⟩:=ag (MV.row Nq);clear Nu OU MV;go_wp2_with fail;go_at_call 138;refine (Ug.out _ _ _ _ _ _ w2 Oy.ints Sb.ints).mono ?_;rintro e w3 ⟨v3,rfl,ho3,Nb⟩;obtain ⟨g3,c3,rfl,-,-⟩:=ho3.form (by have:=QK.out;omega);have Us:=lh (ho3.ints.quiet (ae.refl _ _).drew);have Nf:=lh (Na.q Nb);clear r0 r1 r2;obtain ⟨r0,r1,r2⟩:=ag ((Na.q Nb).row Nq);clear ho3 Nb;go_wp2_with fail;refine wp_region_held_drew (S:=(fun w'=>w'.cell? ⟨w.heap.size,0,none⟩=some (.int .i64 f.W)/\w'.cell? ⟨w.heap.size,1,none⟩=some (.int .i64 f.H)/\w'.cell? ⟨w.heap.size,2,none⟩=some (.slice (some ⟨g,0,none⟩) f.pix.length cap))) Mh ?_ (fun hHeld=>?_)
 ·exact ⟨r0,r1,r2⟩
 refine tk 0 36 ?_;refine tk 1 37 ?_;refine tk 2 38 ?_;refine tk 3 39 ?_;refine tk 4 40 ?_;refine tk 5 41 ?_;refine tk 6 42 ?_;refine rdy (rdc 7 43 (fun K hK=>?_) .nil);go_simp;go_at_call 82;refine (HAd.out w3.drew (Nf.drew) Us).mono ?_;rintro e w4 ⟨v4,rfl,Qf,Ng⟩;obtain ⟨g4,JnV,rfl,hg4,JbH⟩:=Qf.form (by have:=Ni.out;omega);have NI:=lh ((Nf.drew).q Ng);have XZ:=lh Qf;have hr4:=(Nf.drew.q Ng).row Nq;have Hg4:=lh (And.intro hg4 JbH);clear Qf Ng hg4 JbH;refine hK.out _ _ ?_ (fun hHeld=>?_)
 ·exact ag hr4
 clear hK K
 try simp only [Act.put,Lg,Lj,Lk]
 refine rdy (rdc 8 44 (fun K hK=>?_) .nil);go_simp;go_at_call 81;refine (HLy.out w4 _ NI XZ (by have:=Hg4.1;have:=Nf.size;have:=TW.out;simp at *;omega)).mono ?_;rintro e w5 ⟨rfl,Oo,NF⟩;have Nz:=lh NF;have Sx:=lh Oo;have hr5:=NF.rowAt (NI.row Nq) (by rw [mSg];have:=TW.out;omega);clear Oo NF;refine hK.out _ _ ?_ (fun hHeld=>?_)
 ·exact ag hr5
 clear hK K
 try simp only [Act.put,Lg,Lj,Lk]
 refine wpAnyH_done Mh ?_ _;go_wp2_with fail;refine bodyPost_end (results_none Tryz.results83 _ _ _) rfl (MM.out _ _ ⟨rfl,?_,(MT.q NI).trans Nz.out Mg (fun g h _=>h)⟩);rw [HD.out];exact Sx
end Go.Proofs.YthcafdfdglfabaaGreatDoor
