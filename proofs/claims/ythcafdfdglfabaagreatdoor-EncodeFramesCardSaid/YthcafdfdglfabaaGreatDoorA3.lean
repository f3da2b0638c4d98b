/- Joined texts: DREd, DRPd, DRPp, DRPt, DRkS. Conditions: each part names its own. -/
import Derived.Test.YthcafdfdglfabaaGreatDoorA2
set_option maxRecDepth 100000
set_option maxHeartbeats 16000000
namespace Go.Proofs.YthcafdfdglfabaaGreatDoor
open Go.RowKit
set_option linter.unusedVariables false
set_option linter.unusedSimpArgs false
section
theorem Aj {p:Prop} (h:p:=by
 go_enter Tryz.func156,Tryz.ntmps156;go_wp2_with fail;go_ret;exact ⟨dN HR.symm,HQ.out⟩):p:=h
theorem xu {lo hi:Nat} {pv:Value} {w:World} {f:ai} (MU:FrOk f) (h:ah .i64 lo hi w pv f.pix) (x y:Int) (hx:x<f.W) (hy:y<f.H) :
  Calls Tryz.prog 156 #[.agg #[f.W,f.H,pv],x,y] w fun e w'=>e=.returned (.int .i64 (aB f x y))/\ae [] w w':=by
 obtain ⟨a,cap,rfl,-⟩:=h.open;have hq:=ae.new w (.cells #[f.W,f.H,.slice a f.pix.length cap] 24);have HQ:=lh hq;by_cases Ue:x<0
 ·have HR:Hid (aB f x y=128):=lh (by unfold aB;rw [if_pos (.inl Ue)])
  clear h MU hq;exact Aj
 by_cases Sr:y<0
 ·have HR:Hid (aB f x y=128):=lh (by unfold aB;rw [if_pos (.inr Sr)])
  clear h MU hq;exact Aj
 have h1:y*f.W<=(f.H-1)*f.W:=Int.mul_le_mul_of_nonneg_right Mf (by have:=MU.w0;omega);have h2:0<=y*f.W:=Int.mul_nonneg Mf (by have:=MU.w0;omega);have MR:=MU.len;rw [Int.sub_mul,Int.one_mul,Int.mul_comm f.H f.W] at h1;have h3:f.W*f.H<=32*32:=Int.mul_le_mul MU.w1 MU.h1 (by have:=MU.h0;omega) Mf;have HR:Hid (aB f x y=f.pix.getD (y*f.W+x).toNat 0):=lh (by unfold aB;rw [if_neg Mf]);obtain ⟨b,off,Te,hv,-,-,hc⟩:=(h.quiet hq).at (i:=(y*f.W+x).toNat) Mf;injection hv with e1 e2 e3
 subst e1;subst e3;generalize f.pix.getD (y*f.W+x).toNat 0=v at *
 obtain ⟨M,hM⟩:∃ M,M=y*f.W:=⟨_,rfl⟩
 rw [<- hM] at h1 h2 hc;have n1:IntKind.i64.wrap (y*f.W)=M:=by rw [<- hM,Ll];omega
 have n2:IntKind.i64.wrap (M+x)=M+x:=Mi;have t0:0<=M+x:=Mf;have t1:M+x<(f.pix.length:Int):=Mf;clear h MU hq e2 hM h1 h2 h3 MR;exact Aj
theorem Gv {p:Prop} (h:p:=by
 have NU:(0:Int)<=(k:Int):=Mf;have PV:=lh (HB.out wr (MT.q (Nf.q MW)) (x+(k:Int)) (y-1) Mf Mf);have Og:=lh (fun wt (o:ae [] w3 wt)=>HB.out wt (MT.q (Nf.q o)) (x-1) (y+(k:Int)) Mf Mf);have hi1:=VI.out (x+(k:Int)) (y-1);have RK:=VI.out (x-1) (y+(k:Int));have Hm1:=lh (uo f x y k);have Hm2:=lh (tr f x y k);generalize aB f (x+(k:Int)) (y-1)=p1 at *
 generalize aB f (x-1) (y+(k:Int))=p2 at *
 have Pr:∀ z∈[p1],InK .i64 z:=by simp only [mSg,forall_eq,InK];omega
 have NK:∀ z∈[p2],InK .i64 z:=by simp only [mSg,forall_eq,InK];omega
 have NC:=lh (fun (W:World)=>bg (k:=.i64) (w:=W) (t:=3) (l:=[p1]) rfl Mo Pr 1 rfl rfl);have NE:=lh (fun (W:World)=>bg (k:=.i64) (w:=W) (t:=3) (l:=[p2]) rfl Mo NK 1 rfl rfl);have JjV:=lh (show ((np f x y k).length+[p1].length)*8<=140737488355328 by rw [RN];simp;omega);have JjW:=lh (show ((mV f x y k).length+[p2].length)*8<=140737488355328 by rw [RO];simp;omega);have Hl1:Hid ((np f x y k ++ [p1]).length=k+1):=lh (by rw [Ln,RN];rfl);have Hl2:Hid ((mV f x y k ++ [p2]).length=k+1):=lh (by rw [Ln,RO];rfl);have nb1:IntKind.i64.wrap (x+(k:Int))=x+(k:Int):=Mi;have nb2:IntKind.i64.wrap (y+(k:Int))=y+(k:Int):=Mi;clear RN RO hi1 RK Pr NK;go_wp2_with fail;go_at_call 156;refine PV.mono ?_;rintro e ws ⟨rfl,Ve⟩;have JcQ:=lh (Yc.quiet Ve);have Jbn:=lh (ST.quiet Ve);have HQs:=lh (MW.q Ve);have JdD:=lh (fun (o:Obj)=>(show w3.heap.size<=(ws.alloc o).heap.size by have:=(MW.q Ve).size;simp;omega));clear Ve r0 r1 r2
 go_wp2_with (first
   | (at_builtin;refine aw rfl (.tmp 38) (.tmp 46) _ rfl EI (JcQ.quiet (ae.new _ _)) rfl (NC.out _) rfl JjV (JdD.out _) (fun v1 w4 MN Nu=>?_);obtain ⟨x1,OW,OB,_⟩:=MN.ints.open;subst OB;rw [Hl1.out] at MN Nu |-;have Oy:=lh MN;have Od:=lh Nu;have JpG:=(Nf.q ((HQs.q (ae.new ws (.cells #[p1] 3))).acc Nu Ze)).row Nq;obtain ⟨r0,r1,r2⟩:=ag JpG;clear MN Nu JpG)
   | fail)
 have hn4:=ae.new ws (.cells #[p1] 3);have Ng:=(HQs.q hn4).acc Od Ze;have NI:=lh Ng;have JiI:=lh ((Jbn.quiet hn4).accD Od ZO);have Jda:=lh (Od.sepD ZO (fun g hg=>((Jbn.quiet hn4).at g hg).2));have Jiu:=lh (Od.from_ Ze (JdD.out _));clear Ng hn4;go_at_call 156;refine (Og.out _ NI).mono ?_;rintro e wt ⟨rfl,hqt⟩;have JmI:=lh (Oy.quiet hqt);have Jsh:=lh (JiI.quiet hqt);have Yk:=lh (NI.q hqt);have JdE:=lh (fun (o:Obj)=>(show w3.heap.size<=(wt.alloc o).heap.size by have:=(NI.q hqt).size;simp;omega));clear hqt r0 r1 r2
 go_wp2_with (first
   | (at_builtin;refine aw rfl (.tmp 48) (.tmp 56) _ rfl EI (Jsh.quiet (ae.new _ _)) rfl (NE.out _) rfl JjW (JdE.out _) (fun v1 w5 MN Nu=>?_);obtain ⟨x1,OW,OB,_⟩:=MN.ints.open;subst OB;rw [Hl2.out] at MN Nu |-;have Sb:=lh MN;have HA2:=lh Nu;clear MN Nu)
   | fail)
 refine ⟨⟨k+1,Mf,Mm,lh ?_,Jiu,lh ?_,lh (HA2.from_ Qu (JdE.out _)),lh ?_,lh ((Yk.q (ae.new _ _)).acc HA2 Qu)⟩,Mk⟩
 ·rw [Hm1.out];exact (JmI.quiet (ae.new _ _)).accD HA2 Jda.symm
 ·rw [Hm2.out];exact Sb
 ·exact (HA2.sepD Jda.symm (fun g hg=>((JmI.quiet (ae.new _ _)).at g hg).2)).symm):p:=h
theorem mY {lo hi:Nat} {pv:Value} {w:World} {f:ai} (MU:FrOk f) (h:ah .i64 lo hi w pv f.pix) (x y:Int) (n:Nat) (hn:n=4\/n=8) (hx:0<=x) (NA:x+n<=f.W) (hy:0<=y) (NM:y+n<=f.H):Calls Tryz.prog 97 #[.agg #[f.W,f.H,pv],x,y,n] w fun e w'=>(∃ v1 v2,e=.returned (.tuple #[v1,v2,.int .i64 (aB f (x-1) (y-1))])/\Own .i64 3 w.heap.size w' v1 (cZ f x y n)/\Own .i64 3 w.heap.size w' v2 (bU f x y n)/\ae [] w w'):=by
 refine aN fun Q MM=>?_
 obtain ⟨a,cap,rfl,-⟩:=h.open;have HT:Hid (cZ f x y n=np f x y n):=lh rfl;have HL:Hid (bU f x y n=mV f x y n):=lh rfl;have VI:=lh (fun hx hy=>eo MU.sam hx hy);have MP:=ae.new w (.cells #[f.W,f.H,.slice a f.pix.length cap] 24);have Nq:Hid ((w.alloc (.cells #[f.W,f.H,.slice a f.pix.length cap] 24)).heap[w.heap.size]?=some (.cells #[f.W,f.H,.slice a f.pix.length cap] 24 (0,0))):=lh (heap_alloc_new w _);have MT:=lh MP;have hM:=gU f.W f.H (h.quiet MP);rw [show dV ⟨f.W,f.H,f.pix⟩=true from dL.2 MU] at hM;have HM:=lh hM;have HP:=lh (fun (W:World)=>lH f.W f.H x y n (.slice a f.pix.length cap) W ⟨MU.w0,MU.w1⟩ ⟨MU.h0,MU.h1⟩ Mf);rw [show gA f.W f.H x y n=true from by unfold gA;rw [decide_eq_true_iff];omega] at HP;have HB:=lh (fun (W:World) (o:ae [] w W) (px py:Int) (h1:px<f.W) (h2:py<f.H)=>xu MU (h.quiet o) px py h1 h2);have PO:Hid ((w.alloc (.cells #[f.W,f.H,.slice a f.pix.length cap] 24)).heap.size=w.heap.size+1):=lh Mg;have hW:=MU.w1;have hH:=MU.h1;clear h MP hM MU;rcases hn with rfl | rfl
 ·rw [show (((4:Nat)):Int)=4 from rfl] at *
  go_enter Tryz.func97,Tryz.ntmps97;go_wp2_with fail;generalize NB:World.alloc w _=W1 at *
  clear NB;go_at_call 60;refine HM.mono ?_;rintro e w2 ⟨rfl,MV⟩;obtain ⟨r0,r1,r2⟩:=ag (MV.row Nq);have Na:=lh MV;clear MV;go_wp2_with fail;go_at_call 154;refine (HP.out w2).mono ?_;rintro e w3 ⟨rfl,Nb⟩;have Nf:=lh (Na.q Nb);have QM:=lh (show w.heap.size+1<=w3.heap.size by have:=(Na.q Nb).size;have:=PO.out;omega);clear Nb r0 r1 r2 Na;go_wp2_with fail;go_loopw [13,11,12] (fun i t l wr=>∃ (k:Nat),k<=4/\i=.int .i64 k/\Hid (Own .i64 3 w3.heap.size wr t (np f x y k))/\Hid (bB w3.heap.size t)/\Hid (Own .i64 3 w3.heap.size wr l (mV f x y k))/\Hid (bB w3.heap.size l)/\Hid (mA t l)/\Hid (ae [] w3 wr)) (fun i _ _ _=>4-(intOf i).toNat)
  case atStart=>exact ⟨0,Mf,rfl,lh (Own.nil _ _ _ _),lh (bB.nil _),lh (Own.nil _ _ _ _),lh (bB.nil _),lh (mA.nil _),lh (ae.refl _ _)⟩
  case round =>
   obtain ⟨k,hk,rfl,Yc,Ze,ST,Qu,ZO,MW⟩:=hrel;have RN:=oC f x y k;have RO:=nG f x y k;obtain ⟨ta,TT,rfl,-⟩:=Yc.ints.open;obtain ⟨la,Nn,rfl,-⟩:=ST.ints.open;rw [RN] at Yc Ze ZO |-
   rw [RO] at ST Qu ZO |-
   have Rp:=lh ((Nf.q MW).row Nq);obtain ⟨r0,r1,r2⟩:=ag Rp;by_cases MO:k<4
   ·have Ny:(k:Int)<4:=Mf
    exact Gv
   ·obtain rfl:k=4:=Mf
    have Ny:¬ ((4:Nat):Int)<4:=Mf;have HC:=lh (HB.out wr (MT.q (Nf.q MW)) (x-1) (y-1) Mf Mf);clear RN RO;generalize aB f (x-1) (y-1)=p0 at *
    go_wp2_with fail;go_at_call 156;refine HC.mono ?_;rintro e ws ⟨rfl,Ve⟩;have JcQ:=lh (Yc.quiet Ve);have Jbn:=lh (ST.quiet Ve);have HQs:=lh (MW.q Ve);clear Ve r0 r1 r2;go_wp2_with fail;refine bodyPost_ret (v:=.tuple #[.slice ta 4 TT,.slice la 4 Nn,p0]) (by simp [results,Tryz.results97,go_sem]) rfl (MM.out _ _ ⟨_,_,rfl,?_,?_,(MT.q Nf).q HQs.out⟩)
    ·rw [HT.out];exact JcQ.lower (by have:=QM.out;omega)
    ·rw [HL.out];exact Jbn.lower (by have:=QM.out;omega)
 ·rw [show (((8:Nat)):Int)=8 from rfl] at *
  go_enter Tryz.func97,Tryz.ntmps97;go_wp2_with fail;generalize NB:World.alloc w _=W1 at *
  clear NB;go_at_call 60;refine HM.mono ?_;rintro e w2 ⟨rfl,MV⟩;obtain ⟨r0,r1,r2⟩:=ag (MV.row Nq);have Na:=lh MV;clear MV;go_wp2_with fail;go_at_call 154;refine (HP.out w2).mono ?_;rintro e w3 ⟨rfl,Nb⟩;have Nf:=lh (Na.q Nb);have QM:=lh (show w.heap.size+1<=w3.heap.size by have:=(Na.q Nb).size;have:=PO.out;omega);clear Nb r0 r1 r2 Na;go_wp2_with fail;go_loopw [13,11,12] (fun i t l wr=>∃ (k:Nat),k<=8/\i=.int .i64 k/\Hid (Own .i64 3 w3.heap.size wr t (np f x y k))/\Hid (bB w3.heap.size t)/\Hid (Own .i64 3 w3.heap.size wr l (mV f x y k))/\Hid (bB w3.heap.size l)/\Hid (mA t l)/\Hid (ae [] w3 wr)) (fun i _ _ _=>8-(intOf i).toNat)
  case atStart=>exact ⟨0,Mf,rfl,lh (Own.nil _ _ _ _),lh (bB.nil _),lh (Own.nil _ _ _ _),lh (bB.nil _),lh (mA.nil _),lh (ae.refl _ _)⟩
  case round =>
   obtain ⟨k,hk,rfl,Yc,Ze,ST,Qu,ZO,MW⟩:=hrel;have RN:=oC f x y k;have RO:=nG f x y k;obtain ⟨ta,TT,rfl,-⟩:=Yc.ints.open;obtain ⟨la,Nn,rfl,-⟩:=ST.ints.open;rw [RN] at Yc Ze ZO |-
   rw [RO] at ST Qu ZO |-
   have Rp:=lh ((Nf.q MW).row Nq);obtain ⟨r0,r1,r2⟩:=ag Rp;by_cases MO:k<8
   ·have Ny:(k:Int)<8:=Mf
    exact Gv
   ·obtain rfl:k=8:=Mf
    have Ny:¬ ((8:Nat):Int)<8:=Mf;have HC:=lh (HB.out wr (MT.q (Nf.q MW)) (x-1) (y-1) Mf Mf);clear RN RO;generalize aB f (x-1) (y-1)=p0 at *
    go_wp2_with fail;go_at_call 156;refine HC.mono ?_;rintro e ws ⟨rfl,Ve⟩;have JcQ:=lh (Yc.quiet Ve);have Jbn:=lh (ST.quiet Ve);have HQs:=lh (MW.q Ve);clear Ve r0 r1 r2;go_wp2_with fail;refine bodyPost_ret (v:=.tuple #[.slice ta 8 TT,.slice la 8 Nn,p0]) (by simp [results,Tryz.results97,go_sem]) rfl (MM.out _ _ ⟨_,_,rfl,?_,?_,(MT.q Nf).q HQs.out⟩)
    ·rw [HT.out];exact JcQ.lower (by have:=QM.out;omega)
    ·rw [HL.out];exact Jbn.lower (by have:=QM.out;omega)
end
theorem rP {mode corner:Int} {top left:List Int} {k:Nat} (hk:k<top.length*top.length):(bj mode top left corner).take (k+1)=(bj mode top left corner).take k ++ [eQ mode top left corner k]:=by
 rw [List.take_succ_eq_append_getElem (by rw [cS];exact hk)]
 congr 2
 simp [bj]
section
theorem vI {p:Prop} (h:p:=by
 go_wp2_with (first
   | (at_builtin;refine aw rfl (.tmp 115) (.tmp 117) _ rfl EI (Nc.quiet ((ae.refl [] wr).drew.q (ae.new _ _))) rfl (Oa.out _) rfl Qj PG (fun v1 w6 MN Nu=>?_);obtain ⟨x1,OW,OB,_⟩:=MN.ints.open;subst OB;rw [Ni.out] at MN Nu |-;have Oy:=lh MN;have Od:=lh Nu;clear MN Nu)
   | fail)
 refine ⟨⟨k+1,by have:=Oq.out;omega,Mm,lh (by rw [Hnx.out];exact Oy),lh (Od.from_ OO PG),lh ((QY.drew.q (ae.new _ _)).acc Od OO)⟩,by simp [intOf];have:=Oq.out;omega⟩):p:=h
theorem GA {p:Prop} (h:p:=by
 have hVb:0<=V/\V<=255*4:=by have:=Hmb.out;omega
 have eV:IntKind.i64.wrap V=V:=Mi;have hmm:=Hm.out;have hcc:=Hc.out;have Oq:=lh MO;clear e2 e4 Vs bM bD hV MO;generalize hpq:eQ mode top left corner k=q at *
 have hqe:(mode=0->q=V)/\(mode=1->q=t)/\(mode=2->q=l)/\(mode=3->q=ep (l+t-corner)):=⟨fun h=>by subst h;rw [<- hpq,hp0,hVd];rfl,fun h=>by subst h;rw [<- hpq,hp1],fun h=>by subst h;rw [<- hpq,Xh],fun h=>by subst h;rw [<- hpq,XI]⟩
 clear hp0 hp1 Xh XI hpq hVd;have hqb:-100000<=q/\q<=100000:=by
  have hcd:=iJ (l+t-corner);rcases (by omega:mode=0\/mode=1\/mode=2\/mode=3) with h | h | h | h
  ·have:=hqe.1 h;omega
  ·have:=hqe.2.1 h;omega
  ·have:=hqe.2.2.1 h;omega
  ·have:=hqe.2.2.2 h;omega
 have QF:∀ z∈[q],InK .i64 z:=by simp only [mSg,forall_eq,InK];omega
 have Oa:=lh (fun (W:World)=>bg (k:=.i64) (w:=W) (t:=3) (l:=[q]) rfl Mo QF 1 rfl rfl);have Qj:=lh (show ((D.take k).length+[q].length)*8<=140737488355328 by rw [SN];simp;omega);have Ni:Hid ((D.take k ++ [q]).length=k+1):=lh (by rw [Ln,SN];rfl);have Hnx:=lh Rl;have PG:=lh (show W1.heap.size<=(wr.drew.alloc (.cells #[q] 3)).heap.size from Lz QY.drew.size (ae.new _ _).size);have Hqe:=lh hqe;have a1:IntKind.i64.wrap (l+t)=l+t:=Mi;have a2:IntKind.i64.wrap (l+t-corner)=l+t-corner:=Mi;clear QF hqb Rl hqe SN hbt NS hVb hcc;go_wp2_with fail;refine wp_region_held_drew (S:=(fun w'=>w'.cell? ⟨bt,ot+M,none⟩=some (.int .i64 t)/\w'.cell? ⟨bl,ol+Dv,none⟩=some (.int .i64 l))) Mh ?_ (fun hHeld=>?_)
 ·exact ⟨ct,cl⟩
 refine tk 0 84 ?_;refine tk 1 85 ?_;refine tk 2 86 ?_;refine tk 3 87 ?_;refine tk 4 88 ?_;refine tk 5 89 ?_;refine tk 6 90 ?_;refine tk 7 91 ?_;refine tk 8 92 ?_;refine tk 9 93 ?_;refine tk 10 94 ?_;refine tk 11 95 ?_;refine tk 12 15 ?_;refine tk 13 16 ?_;refine wpAnyH_done Mh ?_ _;rcases (by omega:mode=0\/mode=1\/mode=2\/mode=3) with rfl | rfl | rfl | rfl
 ·obtain rfl:=Hqe.1 rfl
  exact vI
 ·obtain rfl:=Hqe.2.1 rfl
  exact vI
 ·obtain rfl:=Hqe.2.2.1 rfl
  exact vI
 ·have Nb:=Hqe.2.2.2 rfl
  have Hq3:=lh Nb;clear Nb;go_wp2_with fail;go_at_call 157;refine (tN _ _).mono ?_;rintro e w' ⟨rfl,rfl⟩;rw [<- Hq3.out];exact vI):p:=h
theorem GC {p:Prop} (h:p:=by
 have NU:(0:Int)<=(k:Int):=Mf;obtain ⟨bt,ot,Jie,e1,-,-,ct⟩:=(HT.quiet MW).at (i:=k) (by rw [Hn.out];exact MO);injection e1 with e1 e2 e3
 subst e1;subst e3;obtain ⟨bl,ol,WI,e1,-,-,cl⟩:=(HL.quiet MW).at (i:=k) (by rw [PN.out];exact MO);injection e1 with e1 e4 e3
 subst e1;subst e3;have hsn:ie top left (k+1)=ie top left k+(top.getD k 0+left.getD k 0):=rfl;have hb:=Sy.out k;have hbt:=Hts.at k;have NS:=Hls.at k;have Vs:=Hn.out;generalize hg:ie top left (k+1)=m1 at *
 generalize ie top left k=m0 at *
 generalize top.getD k 0=t at *
 generalize left.getD k 0=l at *
 rw [Vs] at hb;have n1:IntKind.i64.wrap (m0+t)=m0+t:=Mi;have n2:IntKind.i64.wrap (m0+t+l)=m1:=by rw [hsn,Ll];omega
 have Hg:=lh hg;have Oq:=lh MO;clear e2 e4 hg hsn hb hbt NS Vs MO;go_wp2_with fail;refine wp_region_held_drew (S:=(fun w'=>w'.cell? ⟨bt,ot+k,none⟩=some (.int .i64 t)/\w'.cell? ⟨bl,ol+k,none⟩=some (.int .i64 l))) Mh ?_ (fun hHeld=>?_)
 ·exact ⟨ct,cl⟩
 refine tk 0 66 ?_;refine tk 1 67 ?_;refine tk 2 68 ?_;refine tk 3 69 ?_;refine tk 4 70 ?_;refine tk 5 71 ?_;refine tk 6 72 ?_;refine tk 7 73 ?_;refine tk 8 74 ?_;refine tk 9 75 ?_;refine tk 10 76 ?_;refine tk 11 11 ?_;refine wpAnyH_done Mh ?_ _;go_wp2_with fail;exact ⟨⟨k+1,by have:=Oq.out;omega,Mm,by rw [Hg.out],lh MW.drew⟩,by simp [intOf];have:=Oq.out;omega⟩):p:=h
theorem GD {p:Prop} (h:p:=by
 rw [List.take_of_length_le (by rw [TU.out];omega)] at Nc;have Xk:=QY.row Nq;obtain ⟨z0,z1,y0,y1,-⟩:=aJ Xk;have Hre:=lh Xk;clear Xk SN;go_wp2_with fail;obtain ⟨MS,Nd⟩:=aH (x:=.int .i64 0) (y:=.slice none 0 0) Hre;refine bodyPost_ret (aA Tryz.results99 _ _ w.heap.size _ _ _ _ _ rfl rfl MS Tryz.underlying39 rfl (aR _ rfl)) rfl (MM.out _ _ ⟨⟨_,rfl,?_⟩,?_⟩)
 ·exact (Nc.only Nd (fun x hx hh=>by rw [mSg] at hx;subst hx;have:=OO.out _ hh;have:=PO.out;omega)).lower MT.size
 ·exact (MT.q QY).trans Nd (U:=[]) Mg (fun x hx MO=>Mr)):p:=h
theorem jq {lo hi lo' hi':Nat} {tv lv:Value} {top left:List Int} {w:World} (ht:ah .i64 lo hi w tv top) (hl:ah .i64 lo' hi' w lv left) (hn:top.length=4) (Vr:left.length=4) (Sl:au top) (PQ:au left) {corner:Int} (hc:0<=corner/\corner<=255) {mode:Int} (hm:0<=mode/\mode<=3):Calls Tryz.prog 99 #[mode,tv,lv,corner] w fun e w'=>((∃ v',e=.returned (.tuple #[v',.agg #[(),JEu]])/\Own .i64 3 w.heap.size w' v' (bj mode top left corner))/\ae [] w w'):=by
 refine aN fun Q MM=>?_
 have MP:=ae.new w (.cells #[(),JEu] 39);have Nq:Hid ((w.alloc (.cells #[(),JEu] 39)).heap[w.heap.size]?=some (.cells #[(),JEu] 39 (0,0))):=lh (heap_alloc_new w _);have PO:Hid ((w.alloc (.cells #[(),JEu] 39)).heap.size=w.heap.size+1):=lh Mg;have HT:=lh (ht.quiet MP);have HL:=lh (hl.quiet MP);have Hts:=lh Sl;have Hls:=lh PQ;have Hn:=lh hn;have PN:=lh Vr;have HWt:=lh (ee.2 Sl);have HWl:=lh (ee.2 PQ);have HNx:=lh (fun k (hk:k<16)=>rP (mode:=mode) (corner:=corner) (left:=left) (show k<top.length*top.length by rw [hn];exact hk));have TU:Hid ((bj mode top left corner).length=16):=lh (by rw [cS,hn]);have Sy:=lh (fun k=>(mt Sl PQ k));have MT:=lh MP;obtain ⟨ta,TT,rfl,-⟩:=ht.open;obtain ⟨la,Nn,rfl,-⟩:=hl.open;rw [hn] at HT |-
 rw [Vr] at HL |-
 have Vq:¬ corner<0:=Mf;have Sj:¬ (255:Int)<corner:=Mf;have hm0:¬ mode<0:=Mf;have YL:¬ (3:Int)<mode:=Mf;have Hc:=lh hc;have Hm:=lh hm;clear ht hl Sl PQ hc hm hn Vr MP;generalize bj mode top left corner=D at *
 go_enter Tryz.func99,Tryz.ntmps99;go_wp2_with fail;generalize NB:World.alloc w _=W1 at *
 clear NB;go_at_call 61;refine (bS 0 255 HT).mono ?_;rintro e w' ⟨rfl,rfl⟩;rw [HWt.out];go_wp2_with fail;go_at_call 61;refine (bS 0 255 HL).mono ?_;rintro e w' ⟨rfl,rfl⟩;rw [HWl.out];clear hm0 YL;go_wp2_with fail;clear Vq Sj;go_loopw [12,11] (fun i m wr=>∃ k:Nat,k<=4/\i=.int .i64 k/\m=.int .i64 (ie top left k)/\Hid (ae [] W1 wr)) (fun i _ _=>4-(intOf i).toNat)
 case atStart=>exact ⟨0,Mf,rfl,by show _=Value.int IntKind.i64 ((top.length:Nat):Int);rw [Hn.out];rfl,lh (ae.refl _ _)⟩
 case round =>
  obtain ⟨k,hk,rfl,rfl,MW⟩:=hrel;by_cases MO:k<4
  ·have Ny:(k:Int)<4:=Mf
   exact GC
  ·obtain rfl:k=4:=Mf
   have Ny:¬ ((4:Nat):Int)<4:=Mf;have hmb:=Sy.out 4;generalize hme:ie top left 4=mean at *
   have Hme:=lh hme;have Vs:=Hn.out;rw [Vs] at hmb;have Hmb:=lh hmb;clear hmb hme Vs MO hk;go_wp2_with fail;go_loopw [14,13,15,16,17] (fun i y _ _ _ wy=>∃ k:Nat,k<=16/\i=.int .i64 k/\Hid (Own .i64 3 W1.heap.size wy y (D.take k))/\Hid (bB W1.heap.size y)/\Hid (ae [] W1 wy)) (fun i _ _ _ _ _=>16-(intOf i).toNat)
   case atStart=>exact ⟨0,Mf,rfl,lh (Own.nil _ _ _ _),lh (bB.nil _),MW⟩
   case round =>
    obtain ⟨k,hk,rfl,Nc,OO,QY⟩:=hrel;have SN:(D.take k).length=k:=by rw [Lp,TU.out];omega
    obtain ⟨ra,RT,rfl,-⟩:=Nc.ints.open;rw [SN] at Nc OO |-
    have hNN:IntKind.i64.wrap (4*4)=16:=Mn;by_cases MO:k<16
    ·have Ti:(k:Int)<16:=Mf
     have NU:(0:Int)<=(k:Int):=Mf;have eM:(k:Int).tmod 4=((k % 4:Nat):Int):=by rw [LX NU];rfl
     have eD:(k:Int).tdiv 4=((k / 4:Nat):Int):=by rw [Int.tdiv_eq_ediv_of_nonneg NU];rfl
     have bM:k % 4<4:=Mf;have bD:k / 4<4:=Mf;have Rl:=HNx.out k MO;have hp0:eQ 0 top left corner k=ie top left top.length / (2*(top.length:Int)):=rfl;have hp1:eQ 1 top left corner k=top.getD (k % top.length) 0:=rfl;have Xh:eQ 2 top left corner k=left.getD (k / top.length) 0:=rfl;have XI:eQ 3 top left corner k=ep (left.getD (k / top.length) 0+top.getD (k % top.length) 0-corner):=rfl;have Vs:=Hn.out;rw [Vs] at hp0 hp1 Xh XI;rw [Hme.out] at hp0;generalize k % 4=M at *
     generalize k / 4=Dv at *
     obtain ⟨bt,ot,Jie,e1,-,-,ct⟩:=(HT.quiet QY).at (i:=M) (by rw [Vs];exact bM);injection e1 with e1 e2 e3
     subst e1;subst e3;obtain ⟨bl,ol,WI,e1,-,-,cl⟩:=(HL.quiet QY).at (i:=Dv) (by rw [PN.out];exact bD);injection e1 with e1 e4 e3
     subst e1;subst e3;have hbt:=Hts.at M;have NS:=Hls.at Dv;generalize top.getD M 0=t at *
     generalize left.getD Dv 0=l at *
     have hM0:(0:Int)<=(M:Int):=Mf;have hM1:(M:Int)<4:=Mf;have hD0:(0:Int)<=(Dv:Int):=Mf;have hD1:(Dv:Int)<4:=Mf;have eDw:IntKind.i64.wrap (Dv:Int)=(Dv:Int):=Mi;have h2n:IntKind.i64.wrap (2*4)=8:=Mn;obtain ⟨V,hV⟩:∃ V,V=mean.tdiv 8:=⟨_,rfl⟩
     have hVe:mean.tdiv 8=V:=hV.symm;have hVd:V=mean / 8:=by rw [hV,Int.tdiv_eq_ediv_of_nonneg (by have:=Hmb.1;omega)]
     exact GA
    ·obtain rfl:k=16:=Mf
     have Ti:¬ ((16:Nat):Int)<16:=Mf;exact GD
theorem jr {lo hi lo' hi':Nat} {tv lv:Value} {top left:List Int} {w:World} (ht:ah .i64 lo hi w tv top) (hl:ah .i64 lo' hi' w lv left) (hn:top.length=8) (Vr:left.length=8) (Sl:au top) (PQ:au left) {corner:Int} (hc:0<=corner/\corner<=255) {mode:Int} (hm:0<=mode/\mode<=3):Calls Tryz.prog 99 #[mode,tv,lv,corner] w fun e w'=>((∃ v',e=.returned (.tuple #[v',.agg #[(),JEu]])/\Own .i64 3 w.heap.size w' v' (bj mode top left corner))/\ae [] w w'):=by
 refine aN fun Q MM=>?_
 have MP:=ae.new w (.cells #[(),JEu] 39);have Nq:Hid ((w.alloc (.cells #[(),JEu] 39)).heap[w.heap.size]?=some (.cells #[(),JEu] 39 (0,0))):=lh (heap_alloc_new w _);have PO:Hid ((w.alloc (.cells #[(),JEu] 39)).heap.size=w.heap.size+1):=lh Mg;have HT:=lh (ht.quiet MP);have HL:=lh (hl.quiet MP);have Hts:=lh Sl;have Hls:=lh PQ;have Hn:=lh hn;have PN:=lh Vr;have HWt:=lh (ee.2 Sl);have HWl:=lh (ee.2 PQ);have HNx:=lh (fun k (hk:k<64)=>rP (mode:=mode) (corner:=corner) (left:=left) (show k<top.length*top.length by rw [hn];exact hk));have TU:Hid ((bj mode top left corner).length=64):=lh (by rw [cS,hn]);have Sy:=lh (fun k=>(mt Sl PQ k));have MT:=lh MP;obtain ⟨ta,TT,rfl,-⟩:=ht.open;obtain ⟨la,Nn,rfl,-⟩:=hl.open;rw [hn] at HT |-
 rw [Vr] at HL |-
 have Vq:¬ corner<0:=Mf;have Sj:¬ (255:Int)<corner:=Mf;have hm0:¬ mode<0:=Mf;have YL:¬ (3:Int)<mode:=Mf;have Hc:=lh hc;have Hm:=lh hm;clear ht hl Sl PQ hc hm hn Vr MP;generalize bj mode top left corner=D at *
 go_enter Tryz.func99,Tryz.ntmps99;go_wp2_with fail;generalize NB:World.alloc w _=W1 at *
 clear NB;go_at_call 61;refine (bS 0 255 HT).mono ?_;rintro e w' ⟨rfl,rfl⟩;rw [HWt.out];go_wp2_with fail;go_at_call 61;refine (bS 0 255 HL).mono ?_;rintro e w' ⟨rfl,rfl⟩;rw [HWl.out];clear hm0 YL;go_wp2_with fail;clear Vq Sj;go_loopw [12,11] (fun i m wr=>∃ k:Nat,k<=8/\i=.int .i64 k/\m=.int .i64 (ie top left k)/\Hid (ae [] W1 wr)) (fun i _ _=>8-(intOf i).toNat)
 case atStart=>exact ⟨0,Mf,rfl,by show _=Value.int IntKind.i64 ((top.length:Nat):Int);rw [Hn.out];rfl,lh (ae.refl _ _)⟩
 case round =>
  obtain ⟨k,hk,rfl,rfl,MW⟩:=hrel;by_cases MO:k<8
  ·have Ny:(k:Int)<8:=Mf
   exact GC
  ·obtain rfl:k=8:=Mf
   have Ny:¬ ((8:Nat):Int)<8:=Mf;have hmb:=Sy.out 8;generalize hme:ie top left 8=mean at *
   have Hme:=lh hme;have Vs:=Hn.out;rw [Vs] at hmb;have Hmb:=lh hmb;clear hmb hme Vs MO hk;go_wp2_with fail;go_loopw [14,13,15,16,17] (fun i y _ _ _ wy=>∃ k:Nat,k<=64/\i=.int .i64 k/\Hid (Own .i64 3 W1.heap.size wy y (D.take k))/\Hid (bB W1.heap.size y)/\Hid (ae [] W1 wy)) (fun i _ _ _ _ _=>64-(intOf i).toNat)
   case atStart=>exact ⟨0,Mf,rfl,lh (Own.nil _ _ _ _),lh (bB.nil _),MW⟩
   case round =>
    obtain ⟨k,hk,rfl,Nc,OO,QY⟩:=hrel;have SN:(D.take k).length=k:=by rw [Lp,TU.out];omega
    obtain ⟨ra,RT,rfl,-⟩:=Nc.ints.open;rw [SN] at Nc OO |-
    have hNN:IntKind.i64.wrap (8*8)=64:=Mn;by_cases MO:k<64
    ·have Ti:(k:Int)<64:=Mf
     have NU:(0:Int)<=(k:Int):=Mf;have eM:(k:Int).tmod 8=((k % 8:Nat):Int):=by rw [LX NU];rfl
     have eD:(k:Int).tdiv 8=((k / 8:Nat):Int):=by rw [Int.tdiv_eq_ediv_of_nonneg NU];rfl
     have bM:k % 8<8:=Mf;have bD:k / 8<8:=Mf;have Rl:=HNx.out k MO;have hp0:eQ 0 top left corner k=ie top left top.length / (2*(top.length:Int)):=rfl;have hp1:eQ 1 top left corner k=top.getD (k % top.length) 0:=rfl;have Xh:eQ 2 top left corner k=left.getD (k / top.length) 0:=rfl;have XI:eQ 3 top left corner k=ep (left.getD (k / top.length) 0+top.getD (k % top.length) 0-corner):=rfl;have Vs:=Hn.out;rw [Vs] at hp0 hp1 Xh XI;rw [Hme.out] at hp0;generalize k % 8=M at *
     generalize k / 8=Dv at *
     obtain ⟨bt,ot,Jie,e1,-,-,ct⟩:=(HT.quiet QY).at (i:=M) (by rw [Vs];exact bM);injection e1 with e1 e2 e3
     subst e1;subst e3;obtain ⟨bl,ol,WI,e1,-,-,cl⟩:=(HL.quiet QY).at (i:=Dv) (by rw [PN.out];exact bD);injection e1 with e1 e4 e3
     subst e1;subst e3;have hbt:=Hts.at M;have NS:=Hls.at Dv;generalize top.getD M 0=t at *
     generalize left.getD Dv 0=l at *
     have hM0:(0:Int)<=(M:Int):=Mf;have hM1:(M:Int)<8:=Mf;have hD0:(0:Int)<=(Dv:Int):=Mf;have hD1:(Dv:Int)<8:=Mf;have eDw:IntKind.i64.wrap (Dv:Int)=(Dv:Int):=Mi;have h2n:IntKind.i64.wrap (2*8)=16:=Mn;obtain ⟨V,hV⟩:∃ V,V=mean.tdiv 16:=⟨_,rfl⟩
     have hVe:mean.tdiv 16=V:=hV.symm;have hVd:V=mean / 16:=by rw [hV,Int.tdiv_eq_ediv_of_nonneg (by have:=Hmb.1;omega)]
     exact GA
    ·obtain rfl:k=64:=Mf
     have Ti:¬ ((64:Nat):Int)<64:=Mf;exact GD
end
set_option linter.unusedVariables false
def gh (pix:List Int) (o:Nat) (row:List Int) (i:Nat):List Int:=pix.take o ++ row.take i ++ pix.drop (o+i)
theorem kj (pix:List Int) (o:Nat) (row:List Int):gh pix o row 0=pix:=by simp [gh]
theorem xM {pix row:List Int} {o n:Nat} (h:row.length=n):gh pix o row n=kG pix o row:=by
 unfold gh kG;rw [show row.take n=row from List.take_of_length_le Mf,h]
theorem xN {pix row:List Int} {o i:Nat} (h:o+i<=pix.length) (g:i<=row.length):(gh pix o row i).length=pix.length:=by
 unfold gh;simp only [Ln,Lp,Lq];omega
theorem vo {pix row:List Int} {o i:Nat} (h:o+i<pix.length) (g:i<row.length):(gh pix o row i).set (o+i) (row.getD i 0)=gh pix o row (i+1):=by
 unfold gh;have h1:(pix.take o ++ row.take i).length=o+i:=by simp only [Ln,Lp];omega
 rw [List.set_append_right _ _ Mf,h1,Nat.sub_self,LC h,Lj,List.take_succ_eq_append_getElem g,Le,Lf g];simp only [LR,List.cons_append,LQ,Nat.add_assoc,Option.getD_some]
section
variable (W x y:Int) (n:Nat) (b pix:List Int)
def mZ (j:Nat):List Int:=(List.range j).foldl (fC W x y n b) pix
theorem pJ (j:Nat):mZ W x y n b pix (j+1)=fC W x y n b (mZ W x y n b pix j) j:=by
 unfold mZ;rw [List.range_succ,List.foldl_append]
 rfl
def ki (j:Nat):Nat:=((y+j)*W+x).toNat
def yt (j:Nat):List Int:=(b.drop (j*n)).take n
def om (k:Nat):List Int:=gh (mZ W x y n b pix (k / n)) (ki W x y (k / n)) (yt n b (k / n)) (k % n)
end
section
variable {W x y:Int} {n:Nat} {b pix:List Int} {H:Int}
theorem oD (hb:b.length=n*n) {j:Nat} (hj:j<n):(yt n b j).length=n:=by
 unfold yt;rw [Lp,Lq,hb];have:j*n+n<=n*n:=by rw [<- Nat.succ_mul];exact Nat.mul_le_mul_right _ hj
 omega
theorem Jy (hb:b.length=n*n) {j i:Nat} (hj:j<n) (hi:i<n):(yt n b j).getD i 0=b.getD (j*n+i) 0:=by
 have h1:=oD hb hj;unfold yt;rw [Le,LI,if_pos hi,LH,Le]
theorem ke (hb:b.length=n*n) (ho:∀ j,j<n->ki W x y j+n<=pix.length):∀ j,j<=n->(mZ W x y n b pix j).length=pix.length
 | 0,_=>rfl
 | j+1,hj=>by
  have ih:=ke hb ho j Mf;rw [pJ];show (kG _ (ki W x y j) (yt n b j)).length=_;rw [jI (by rw [oD hb Mf,ih];exact ho j Mf),ih]
theorem ul (hn:0<n):om W x y n b pix 0=pix:=by
 unfold om;rw [Nat.zero_div,Nat.zero_mod,kj]
 rfl
theorem xU (hb:b.length=n*n) (ho:∀ j,j<n->ki W x y j+n<=pix.length) {k:Nat} (hk:k<n*n):(om W x y n b pix k).length=pix.length:=by
 have hn:0<n:=by cases n <;> omega
 have hj:k / n<n:=Nat.div_lt_of_lt_mul hk;have hi:=Nat.mod_lt k hn;have h1:=ho _ hj;unfold om;rw [xN (by rw [ke hb ho _ Mf];omega) (by rw [oD hb hj];omega),ke hb ho _ Mf]
theorem uk (hb:b.length=n*n) (ho:∀ j,j<n->ki W x y j+n<=pix.length) {k:Nat} (hk:k<n*n):(om W x y n b pix k).set (ki W x y (k / n)+k % n) (b.getD k 0)=om W x y n b pix (k+1):=by
 have hn:0<n:=by cases n <;> omega
 have hj:k / n<n:=Nat.div_lt_of_lt_mul hk;have hi:=Nat.mod_lt k hn;have h1:=ho _ hj;have hl:=ke hb ho (k / n) Mf;have hrl:=oD hb hj;have Un:k / n*n+k % n=k:=by rw [Nat.mul_comm];exact Nat.div_add_mod k n
 have hr:=Jy hb hj hi;rw [Un] at hr;have Rl:=vo (pix:=mZ W x y n b pix (k / n)) (row:=yt n b (k / n)) (o:=ki W x y (k / n)) (i:=k % n) Mf Mf;rw [hr] at Rl;have e:om W x y n b pix k=gh (mZ W x y n b pix (k / n)) (ki W x y (k / n)) (yt n b (k / n)) (k % n):=rfl;rw [e,Rl];unfold om;by_cases Jpr:k % n+1=n
 ·have hd:(k+1) / n=k / n+1:=by
   rw [show k+1=(k / n+1)*n by rw [Nat.add_mul,Nat.one_mul];omega,Nat.mul_div_cancel _ hn]
  have hm:(k+1) % n=0:=by
   rw [show k+1=(k / n+1)*n by rw [Nat.add_mul,Nat.one_mul];omega,Nat.mul_mod_left]
  rw [hd,hm,kj,Jpr,xM hrl,pJ]
  rfl
 ·have hd:(k+1) / n=k / n:=by
   rw [show k+1=k % n+1+k / n*n by omega,Nat.add_mul_div_right _ _ hn,Nat.div_eq_of_lt Mf,Nat.zero_add]
  have hm:(k+1) % n=k % n+1:=by
   rw [show k+1=k % n+1+k / n*n by omega,Nat.add_mul_mod_self_right,Nat.mod_eq_of_lt Mf]
  rw [hd,hm]
theorem xS (hb:b.length=n*n) (hn:0<n) (f:ai) (hf:f.W=W) (hp:f.pix=pix):om W x y n b pix (n*n)=(dz f x y n b).pix:=by
 subst hf;subst hp;unfold om;rw [Nat.mul_div_cancel _ hn,Nat.mul_mod_left,kj]
 rfl
end
set_option linter.unusedVariables false
set_option linter.unusedSimpArgs false
section
theorem iM {lo hi:Nat} {pv:Value} {w:World} {f:ai} (h:ah .i64 lo hi w pv f.pix) (hl:f.pix.length<=1000000000):Calls Tryz.prog 8 #[.agg #[f.W,f.H,pv]] w fun e w'=>(∃ v',e=.returned (.agg #[f.W,f.H,v'])/\Own .i64 3 w.heap.size w' v' f.pix/\ae [] w w'):=by
 refine aN fun Q MM=>?_
 obtain ⟨a,cap,rfl,-⟩:=h.open;obtain ⟨MP,Nq,Px,-⟩:=jl w (.cells #[f.W,f.H,.slice a f.pix.length cap] 24) (.cells #[(),(),JEu] 24);have HCp:=lh (fun (W:World) (o:ae [] w W)=>CZ (h.quiet o) hl);have MT:=lh MP;have PO:Hid (((w.alloc (.cells #[f.W,f.H,.slice a f.pix.length cap] 24)).alloc (.cells #[(),(),JEu] 24)).heap.size=w.heap.size+1+1):=lh Mg;clear h MP;go_enter Tryz.func8,Tryz.ntmps8;go_wp2_with fail;generalize NB:World.alloc (World.alloc w _) _=W1 at *
 clear NB;obtain ⟨r0,r1,r2⟩:=ag Nq;refine wp_region_held_drew (S:=(fun w'=>w'.cell? ⟨w.heap.size,0,none⟩=some (.int .i64 f.W)/\w'.cell? ⟨w.heap.size,1,none⟩=some (.int .i64 f.H)/\w'.cell? ⟨w.heap.size,2,none⟩=some (.slice a f.pix.length cap))) Mh ?_ (fun hHeld=>?_)
 ·exact ⟨r0,r1,r2⟩
 refine tk 0 3 ?_;refine tk 1 4 ?_;refine tk 2 5 ?_;refine tk 3 6 ?_;refine tk 4 7 ?_;refine tk 5 8 ?_;refine rdy (rdc 6 9 (fun K hK=>?_) .nil);go_simp;go_at_call 27;refine (HCp.out _ MT.drew).mono ?_;rintro e w3 ⟨v3,rfl,MQ,Nb⟩;have hqd:=(ae.refl [] W1).drew.q Nb;have Nf:=lh (MT.q hqd);have Ql:=lh MQ;obtain ⟨z0,z1,z2⟩:=ag (hqd.row Px);have fz0:=frozen_of_row _ _ 0 _ _ (hqd.row Px);have fz1:=frozen_of_row _ _ 1 _ _ (hqd.row Px);have fz2:=frozen_of_row _ _ 2 _ _ (hqd.row Px);obtain ⟨s0,s1,s2⟩:=ag (hqd.row Nq);obtain ⟨va,vl,vc,rfl⟩:∃ va vl vc,v3=.slice va vl vc:=by obtain ⟨va,vc,e,-⟩:=MQ.ints.open;exact ⟨va,_,vc,e⟩
 obtain ⟨MS,Nd⟩:=fd (x:=.int .i64 f.W) (y:=.int .i64 f.H) (z:=.slice va vl vc) (hqd.row Px);have hno:=Ql.at
 clear Nb MQ;refine hK.out _ _ ?_ (fun hHeld=>?_)
 ·exact ⟨s0,s1,s2⟩
 clear hK K
 try simp only [Act.put,Lg,Lj,Lk]
 refine tk 7 10 ?_;refine rdy (rdn 8 (fun K hK=>?_) .nil);go_simp;refine hK.out _ _ ?_ (fun hHeld=>?_)
 ·exact ⟨Nd.cell s0 Mg,Nd.cell s1 Mg,Nd.cell s2 Mg⟩
 clear hK K
 try simp only [Act.put,Lg,Lj,Lk]
 refine wpAnyH_done Mh ?_ _;go_wp2_with fail;refine bodyPost_ret (v:=.agg #[f.W,f.H,.slice va vl vc]) (results_cell_row Tryz.results8 _ _ (w.heap.size+1) _ _ _ _ rfl MS Tryz.underlying24 rfl Mh) rfl (MM.out _ _ ⟨_,rfl,?_,?_⟩)
 ·exact (Ql.only Nd (fun x hx hh=>by rw [mSg] at hx;subst hx;have:=(hno _ hh).1;have:=PO.out;have:W1.drew.heap.size=W1.heap.size:=rfl;omega)).lower (by have:=PO.out;show w.heap.size<=W1.heap.size;omega)
 ·exact Nf.trans Nd (U:=[]) Mg (fun x hx MO=>Mr)
theorem dg {P:Program} {fn:Func} {p q:Tmp} {ty ty':TypeId} (h:fn.results=#[.cell p ty,.cell q ty']) (Oe:Array Value) (w:World) (g g':Nat) (t t':TypeId) (cs cs':Array Value) (fr fr':Nat×Nat) (d d':TypeDesc)
  (hp:Oe.getD p undef=.pointer (some ⟨g,0,none⟩)) (hq:Oe.getD q undef=.pointer (some ⟨g',0,none⟩)) (hg:w.heap[g]?=some (.cells cs t fr)) (hg':w.heap[g']?=some (.cells cs' t' fr'))
  (hu:P.underlying ty=some d) (hd:(match d with | .struct _ | .array _ _=>true | _=>false)=true) (hi:(P.info? ty).map (·.size)=some cs.size)
  (hu':P.underlying ty'=some d') (hd':(match d' with | .struct _ | .array _ _=>true | _=>false)=true) (hi':(P.info? ty').map (·.size)=some cs'.size) :
  (results fn Oe).run P w=.ok (.tuple #[.agg cs,.agg cs']) w:=by
 have hp':Oe[p]?.getD undef=.pointer (some ⟨g,0,none⟩):=MD;have hq':Oe[q]?.getD undef=.pointer (some ⟨g',0,none⟩):=ME;simp [results,h,hp',hq',asAddr,run_loadVar_row w g t ty cs fr d hg hu hd hi,run_loadVar_row w g' t' ty' cs' fr' d' hg' hu' hd' hi']
theorem GF {p:Prop} (h:p:=by
 generalize b.getD k 0=c at *
 obtain ⟨h1,h2,h3⟩:=hix;obtain ⟨I,hI⟩:∃ I,I=ki f.W x y Dv+M:=⟨_,rfl⟩
 rw [<- hI] at Rl h1 h2;obtain ⟨Y,hY⟩:∃ Y,Y=(y+(Dv:Int))*f.W:=⟨_,rfl⟩
 rw [<- hY] at h1 h3;have SH:(f.pix.length:Int)<=1000000:=by have:=Hfl.out;omega
 have n0:IntKind.i64.wrap (Dv:Int)=(Dv:Int):=Mi;have n1:IntKind.i64.wrap (y+(Dv:Int))=y+(Dv:Int):=by rw [Ll];have:=Hpl.out;omega
 have n2:IntKind.i64.wrap ((y+(Dv:Int))*f.W)=Y:=by rw [<- hY,Ll];have:=Hpl.out;omega
 have n3:IntKind.i64.wrap (Y+x)=Y+x:=by rw [Ll];have:=Hpl.out;omega
 have n4:Y+x+(M:Int)=(I:Int):=Mf;have n5:IntKind.i64.wrap (I:Int)=(I:Int):=Mi;have hI0:(0:Int)<=(I:Int):=Mf;have hI1:(I:Int)<(f.pix.length:Int):=Mf;have MX:InK .i64 c:=by simp only [InK];omega
 have cx:=Nc.cellS MR.symm (i:=I) Mf;have fx:=Nc.frzS MR.symm I;obtain ⟨NC,NE⟩:=Nc.storeS MR.symm MX I;rw [Rl] at NC;have NT:=lh NC;have OH:=lh NE;have Oq:=lh MO;have JwY:¬ bb=g:=by have:=Hbw.out _ _ _ rfl k Mf;omega
 have hwg:¬ w.heap.size=g:=Mf;have hBg:¬ B4=g:=Mf;clear e2 hI hY h1 h2 h3 MR MX NC Rl Zn bM bD TY Zm hbg hgg MO cb0 SH;go_wp2_with fail;refine wp_region_held_drew (S:=(fun w'=>w'.cell? ⟨B4,2,none⟩=some (.slice (some ⟨g,0,none⟩) f.pix.length Ot)/\w'.cell? ⟨w.heap.size,0,none⟩=some (.int .i64 f.W)/\w'.cell? ⟨bb,bo+k,none⟩=some (.int .i64 c))) Mh ?_ (fun hHeld=>?_)
 ·exact ⟨q2,r0,cb⟩
 refine tk 0 61 ?_;refine tk 1 62 ?_;refine tk 2 63 ?_;refine tk 3 64 ?_;refine tk 4 65 ?_;refine tk 5 66 ?_;refine tk 6 67 ?_;refine tk 7 68 ?_;refine tk 8 69 ?_;refine tk 9 70 ?_;refine tk 10 71 ?_;refine tk 11 72 ?_;refine tk 12 73 ?_;refine tk 13 74 ?_;refine tk 14 75 ?_;refine tk 15 76 ?_;refine tk 16 77 ?_;refine tk 17 78 ?_;refine tk 18 79 ?_;refine tk 19 80 ?_;refine tk 20 81 ?_;refine rdy (rdn 21 (fun K hK=>?_) .nil);go_simp;refine hK.out _ _ ?_ (fun hHeld=>?_)
 ·exact ⟨NE.cell q2 Mq,NE.cell r0 Mq,NE.cell cb Mq⟩
 clear hK K
 try simp only [Act.put,Lg,Lj,Lk]
 refine wpAnyH_done Mh ?_ _;go_wp2_with fail;exact ⟨⟨k+1,by have:=Oq.out;omega,Mm,lh (NT.quiet (ae.refl _ _).drew),lh (MW.trans OH (fun _ h _=>h) (fun _ h _=>h)).drew⟩,by simp [intOf];have:=Oq.out;omega⟩):p:=h
theorem GG {p:Prop} (h:p:=by
 rw [HPe.out] at Nc;have Nq:=lh (MW.rowAt (Nz.row PU) (by rw [mSg];have:=Hg.out;omega));have Px:=lh (MW.rowAt (Nz.row Oj) (by rw [mSg];have:=Hg.out;omega));obtain ⟨z0,z1,z2⟩:=ag Nq;have fz0:=frozen_of_row _ _ 0 _ _ Nq;have fz1:=frozen_of_row _ _ 1 _ _ Nq;have fz2:=frozen_of_row _ _ 2 _ _ Nq;obtain ⟨y0,y1,y2,y3,-⟩:=aJ Px;obtain ⟨WF,Wf⟩:=fd (x:=.int .i64 f.W) (y:=.int .i64 f.H) (z:=(.slice (some ⟨g,0,none⟩) f.pix.length Ot)) Nq;have Rn:=Wf.rowAt Px Mg;obtain ⟨Rf,Qr⟩:=aH (x:=.int .i64 0) (y:=.slice none 0 0) Rn;have Pz:=Qr.rowAt WF Mg;have HX1:=lh Pz;have HX2:=lh Rf;have JnC:=lh Wf;have JnD:=lh Qr;obtain ⟨t0,t1,t2,t3,-⟩:=aJ Rn;clear WF Rf Wf Qr Pz Rn MO;go_wp2_with fail;refine bodyPost_ret (dg Tryz.results168 _ _ (w.heap.size+1) (w.heap.size+1+1) _ _ _ _ _ _ _ _ rfl rfl HX1 HX2 Tryz.underlying24 rfl Mh Tryz.underlying39 rfl (aR _ rfl)) rfl (MM.out _ _ ⟨_,rfl,?_,?_⟩)
 ·exact ((Nc.only JnC (fun x hx hh=>by rw [mSg] at hx;subst hx;simp only [Value.ownBlock] at hh;injection hh with hh;have:=Hg.out;omega)).only JnD (fun x hx hh=>by rw [mSg] at hx;subst hx;simp only [Value.ownBlock] at hh;injection hh with hh;have:=Hg.out;omega)).lower (by have:=Nf.size;have:=PO.out;omega)
 ·exact (((MT.q Nz).trans MW (U:=[]) Mg (fun x hx MO=>by rw [mSg] at hx;have:=Hg.out;omega)).trans JnC (U:=[]) Mg (fun x hx MO=>Mr)).trans JnD (U:=[]) Mg (fun x hx MO=>Mr)):p:=h
theorem GH {p:Prop} (h:p:=by
 have e1:=MU.len;have e2:=MU.w0;have e3:=MU.h0;have e4:=MU.w1;have e5:=MU.h1;have e6:8*8<=f.W*f.H:=Int.mul_le_mul e2 e3 Mf Mf;have e7:f.W*f.H<=32*32:=Int.mul_le_mul e4 e5 Mf Mf;omega):p:=h
theorem Dy {lo hi lo' hi':Nat} {pv bv:Value} {w:World} {f:ai} {x y:Int} {b:List Int} (MU:FrOk f) (h:ah .i64 lo hi w pv f.pix) (hb:ah .i64 lo' hi' w bv b) (NS:b.length=16) (RJ:au b) (hx:0<=x) (NA:x+4<=f.W) (hy:0<=y) (NM:y+4<=f.H):Calls Tryz.prog 168 #[.agg #[f.W,f.H,pv],x,y,.int .i64 4,bv] w fun e w'=>(∃ v',e=.returned (.tuple #[.agg #[f.W,f.H,v'],.agg #[(),JEu]])/\Own .i64 3 w.heap.size w' v' (dz f x y 4 b).pix/\ae [] w w'):=by
 refine aN fun Q MM=>?_
 obtain ⟨a,cap,rfl,-⟩:=h.open;have MP:ae [] w (((w.alloc (.cells #[f.W,f.H,.slice a f.pix.length cap] 24)).alloc (.cells #[(),(),JEu] 24)).alloc (.cells #[(),JEu] 39)):=((ae.new w _).alloc _).alloc _;have XD:0<f.pix.length/\f.pix.length<=1000000:=by
  exact GH
 have hpi:=fun (j:Nat) (hj:j<4)=>oh (W:=f.W) (H:=f.H) (x:=x) (y:=y) (j:=(j:Int)) (n:=4) (by have:=MU.w0;omega) hx NA Mf hy Mf Mf
 have ho:∀ j,j<4->ki f.W x y j+4<=f.pix.length:=fun j hj=>by have:=hpi j hj;have:=MU.len;unfold ki;omega
 have HIx:Hid (∀ k,k<16->(y+((k / 4:Nat):Int))*f.W+x+((k % 4:Nat):Int)=((ki f.W x y (k / 4)+k % 4:Nat):Int)/\ki f.W x y (k / 4)+k % 4<f.pix.length/\0<=(y+((k / 4:Nat):Int))*f.W+x):=lh (fun k hk=>by
  have:=hpi (k / 4) Mf;have:=ho (k / 4) Mf;unfold ki at *
  omega)
 have HPn:=lh (fun k (hk:k<16)=>uk (n:=4) (W:=f.W) (x:=x) (y:=y) NS ho hk);have QK:=lh (fun k (hk:k<16)=>xU (n:=4) (W:=f.W) (x:=x) (y:=y) NS ho hk);have Wo:=lh (ul (n:=4) (W:=f.W) (x:=x) (y:=y) (b:=b) (pix:=f.pix) Mf);have HPe:Hid (om f.W x y 4 b f.pix 16=(dz f x y 4 b).pix):=lh (xS (n:=4) NS Mf f rfl rfl);have OY:Hid ((((w.alloc (.cells #[f.W,f.H,.slice a f.pix.length cap] 24)).alloc (.cells #[(),(),JEu] 24)).alloc (.cells #[(),JEu] 39)).heap[w.heap.size]?=some (.cells #[f.W,f.H,.slice a f.pix.length cap] 24 (0,0))):=lh (((ae.new (w.alloc _) _).alloc _).row (heap_alloc_new w _));have PU:Hid ((((w.alloc (.cells #[f.W,f.H,.slice a f.pix.length cap] 24)).alloc (.cells #[(),(),JEu] 24)).alloc (.cells #[(),JEu] 39)).heap[w.heap.size+1]?=some (.cells #[(),(),JEu] 24 (0,0))):=lh ((ae.new ((w.alloc _).alloc _) _).row (ak Mg));have Oj:Hid ((((w.alloc (.cells #[f.W,f.H,.slice a f.pix.length cap] 24)).alloc (.cells #[(),(),JEu] 24)).alloc (.cells #[(),JEu] 39)).heap[w.heap.size+1+1]?=some (.cells #[(),JEu] 39 (0,0))):=lh (ak Mg);have PO:Hid ((((w.alloc (.cells #[f.W,f.H,.slice a f.pix.length cap] 24)).alloc (.cells #[(),(),JEu] 24)).alloc (.cells #[(),JEu] 39)).heap.size=w.heap.size+1+1+1):=lh Mg;have HM:=lh (fun (W:World) (o:ae [] (((w.alloc (.cells #[f.W,f.H,.slice a f.pix.length cap] 24)).alloc (.cells #[(),(),JEu] 24)).alloc (.cells #[(),JEu] 39)) W)=>by have:=gU f.W f.H (h.quiet (MP.q o));rw [show dV ⟨f.W,f.H,f.pix⟩=true from dL.2 MU] at this;exact this);have HLi:=lh (fun (W:World)=>by have:=lH f.W f.H x y 4 (.slice a f.pix.length cap) W ⟨MU.w0,MU.w1⟩ ⟨MU.h0,MU.h1⟩ Mf;rw [show gA f.W f.H x y 4=true by unfold gA;rw [decide_eq_true_iff];omega] at this;exact this);have Sn:=lh (hb.quiet MP);have Hbw:Hid (∀ (b0 o0 c0:Nat),bv=.slice (some ⟨b0,o0,none⟩) b.length c0->∀ k,k<16->b0<w.heap.size):=lh (fun b0 o0 c0 e k hk=>by obtain ⟨b',o',c',e',-,-,hc⟩:=hb.at (i:=k) Mf;rw [e'] at e;injection e with e1;injection e1 with e1;injection e1 with e1;subst e1;exact block_lt_of_cell hc);have HWb:=lh (ee.2 RJ)
 have Zx:=lh (fun (W:World) (o:ae [] (((w.alloc (.cells #[f.W,f.H,.slice a f.pix.length cap] 24)).alloc (.cells #[(),(),JEu] 24)).alloc (.cells #[(),JEu] 39)) W)=>iM (h.quiet (MP.q o)) Mf);have Hfl:=lh XD;have Hbl:=lh NS;have Hbs:=lh RJ;have Hpl:Hid (0<=x/\x<=32/\0<=y/\y<=32/\0<=f.W/\f.W<=32):=lh (by have:=MU.w1;have:=MU.h1;have:=MU.w0;omega);have MT:=lh MP;obtain ⟨ba,VT,rfl,-⟩:=hb.open;rw [NS] at Sn Hbw |-
 clear h hb NS RJ MP MU XD hpi ho hx NA hy NM;generalize om f.W x y 4 b f.pix=PK at *
 go_enter Tryz.func168,Tryz.ntmps168;obtain ⟨r0,r1,r2⟩:=ag OY;go_wp2_with fail;generalize NB:World.alloc (World.alloc (World.alloc w _) _) _=W1 at *
 clear NB r0 r1 r2;go_at_call 60;refine (HM.out W1 (ae.refl _ _)).mono ?_;rintro e w2 ⟨rfl,MV⟩;have Na:=lh MV;obtain ⟨r0,r1,r2⟩:=ag (MV.row OY);clear MV;go_wp2_with fail;go_at_call 154;refine (HLi.out w2).mono ?_;rintro e w3 ⟨rfl,Nb⟩;have Nf:=lh (Na.q Nb);clear Nb r0 r1 r2;go_wp2_with fail;go_at_call 61;refine (bS 0 255 (Sn.quiet Nf)).mono ?_;rintro e w' ⟨rfl,rfl⟩;rw [HWb.out];obtain ⟨r0,r1,r2⟩:=ag (Nf.row OY);go_wp2_with fail;go_at_call 8;refine (Zx.out w3 Nf).mono ?_;rintro e w4 ⟨v4,rfl,MQ,Ng⟩;obtain ⟨g,Ot,rfl,OL,Nl⟩:=MQ.form Hfl.1;have Tj:=ae.new w4 (.cells #[f.W,f.H,(.slice (some ⟨g,0,none⟩) f.pix.length Ot)] 24);have Zc:Hid ((w4.alloc (.cells #[f.W,f.H,(.slice (some ⟨g,0,none⟩) f.pix.length Ot)] 24)).heap[w4.heap.size]?=some (.cells #[f.W,f.H,(.slice (some ⟨g,0,none⟩) f.pix.length Ot)] 24 (0,0))):=lh (heap_alloc_new w4 _);have NF:=Ng.q Tj;have Nz:=lh (Nf.q NF);have Sx:=lh (MQ.quiet Tj);have Hg:Hid (w.heap.size+1+1<g/\g<w4.heap.size):=lh ⟨by have:=Nf.size;have:=PO.out;omega,Nl⟩;clear Ng Tj NF MQ OL Nl r0 r1 r2;go_wp2_with fail;generalize hW5:World.alloc w4 _=W5 at *
 clear hW5;generalize hB4:w4.heap.size=B4 at *
 go_loopw [13] (fun i wr=>∃ k:Nat,k<=16/\i=.int .i64 k/\Hid (Own .i64 3 w3.heap.size wr (.slice (some ⟨g,0,none⟩) f.pix.length Ot) (PK k))/\Hid (ae [g] W5 wr)) (fun i _=>16-(intOf i).toNat)
 case atStart=>exact ⟨0,Mf,rfl,lh (by rw [Wo.out];exact Sx),lh (ae.refl _ _)⟩
 case round =>
  obtain ⟨k,hk,rfl,Nc,MW⟩:=hrel;have hNN:IntKind.i64.wrap (4*4)=16:=Mn;obtain ⟨q0,q1,q2⟩:=ag (MW.rowAt Zc (by rw [mSg];have:=Hg.out;omega));obtain ⟨r0,r1,r2⟩:=ag (MW.rowAt (Nz.row OY) (by rw [mSg];have:=Hg.out;omega));by_cases MO:k<16
  ·have Ny:(k:Int)<16:=Mf
   have NU:(0:Int)<=(k:Int):=Mf;have MR:=QK.out k MO;have hix:=HIx.out k MO;obtain ⟨bb,bo,JnR,e1,TY,Zm,cb0⟩:=(Sn.out).at (i:=k) (by rw [Hbl.out];exact MO);injection e1 with e1 e2 e3
   subst e1;subst e3;have hbg:=block_lt_of_cell cb0;simp only at hbg;have hgg:=Hg.out;have cb:=MW.cell (Nz.cell cb0 Mg) (by rw [mSg];have:=PO.out;have:=Hbw.out _ _ _ rfl k MO;simp only;omega);have eM:(k:Int).tmod 4=((k % 4:Nat):Int):=by rw [LX NU];rfl
   have eD:(k:Int).tdiv 4=((k / 4:Nat):Int):=by rw [Int.tdiv_eq_ediv_of_nonneg NU];rfl
   have Zn:=Hbs.at k;have Rl:=HPn.out k MO;have bM:k % 4<4:=Mf;have bD:k / 4<4:=Mf;generalize k % 4=M at *
   generalize k / 4=Dv at *
   exact GF
  ·obtain rfl:k=16:=Mf
   have Ny:¬ ((16:Nat):Int)<16:=Mf;exact GG
theorem Dz {lo hi lo' hi':Nat} {pv bv:Value} {w:World} {f:ai} {x y:Int} {b:List Int} (MU:FrOk f) (h:ah .i64 lo hi w pv f.pix) (hb:ah .i64 lo' hi' w bv b) (NS:b.length=64) (RJ:au b) (hx:0<=x) (NA:x+8<=f.W) (hy:0<=y) (NM:y+8<=f.H):Calls Tryz.prog 168 #[.agg #[f.W,f.H,pv],x,y,.int .i64 8,bv] w fun e w'=>(∃ v',e=.returned (.tuple #[.agg #[f.W,f.H,v'],.agg #[(),JEu]])/\Own .i64 3 w.heap.size w' v' (dz f x y 8 b).pix/\ae [] w w'):=by
 refine aN fun Q MM=>?_
 obtain ⟨a,cap,rfl,-⟩:=h.open;have MP:ae [] w (((w.alloc (.cells #[f.W,f.H,.slice a f.pix.length cap] 24)).alloc (.cells #[(),(),JEu] 24)).alloc (.cells #[(),JEu] 39)):=((ae.new w _).alloc _).alloc _;have XD:0<f.pix.length/\f.pix.length<=1000000:=by
  exact GH
 have hpi:=fun (j:Nat) (hj:j<8)=>oh (W:=f.W) (H:=f.H) (x:=x) (y:=y) (j:=(j:Int)) (n:=8) (by have:=MU.w0;omega) hx NA Mf hy Mf Mf
 have ho:∀ j,j<8->ki f.W x y j+8<=f.pix.length:=fun j hj=>by have:=hpi j hj;have:=MU.len;unfold ki;omega
 have HIx:Hid (∀ k,k<64->(y+((k / 8:Nat):Int))*f.W+x+((k % 8:Nat):Int)=((ki f.W x y (k / 8)+k % 8:Nat):Int)/\ki f.W x y (k / 8)+k % 8<f.pix.length/\0<=(y+((k / 8:Nat):Int))*f.W+x):=lh (fun k hk=>by
  have:=hpi (k / 8) Mf;have:=ho (k / 8) Mf;unfold ki at *
  omega)
 have HPn:=lh (fun k (hk:k<64)=>uk (n:=8) (W:=f.W) (x:=x) (y:=y) NS ho hk);have QK:=lh (fun k (hk:k<64)=>xU (n:=8) (W:=f.W) (x:=x) (y:=y) NS ho hk);have Wo:=lh (ul (n:=8) (W:=f.W) (x:=x) (y:=y) (b:=b) (pix:=f.pix) Mf);have HPe:Hid (om f.W x y 8 b f.pix 64=(dz f x y 8 b).pix):=lh (xS (n:=8) NS Mf f rfl rfl);have OY:Hid ((((w.alloc (.cells #[f.W,f.H,.slice a f.pix.length cap] 24)).alloc (.cells #[(),(),JEu] 24)).alloc (.cells #[(),JEu] 39)).heap[w.heap.size]?=some (.cells #[f.W,f.H,.slice a f.pix.length cap] 24 (0,0))):=lh (((ae.new (w.alloc _) _).alloc _).row (heap_alloc_new w _));have PU:Hid ((((w.alloc (.cells #[f.W,f.H,.slice a f.pix.length cap] 24)).alloc (.cells #[(),(),JEu] 24)).alloc (.cells #[(),JEu] 39)).heap[w.heap.size+1]?=some (.cells #[(),(),JEu] 24 (0,0))):=lh ((ae.new ((w.alloc _).alloc _) _).row (ak Mg));have Oj:Hid ((((w.alloc (.cells #[f.W,f.H,.slice a f.pix.length cap] 24)).alloc (.cells #[(),(),JEu] 24)).alloc (.cells #[(),JEu] 39)).heap[w.heap.size+1+1]?=some (.cells #[(),JEu] 39 (0,0))):=lh (ak Mg);have PO:Hid ((((w.alloc (.cells #[f.W,f.H,.slice a f.pix.length cap] 24)).alloc (.cells #[(),(),JEu] 24)).alloc (.cells #[(),JEu] 39)).heap.size=w.heap.size+1+1+1):=lh Mg;have HM:=lh (fun (W:World) (o:ae [] (((w.alloc (.cells #[f.W,f.H,.slice a f.pix.length cap] 24)).alloc (.cells #[(),(),JEu] 24)).alloc (.cells #[(),JEu] 39)) W)=>by have:=gU f.W f.H (h.quiet (MP.q o));rw [show dV ⟨f.W,f.H,f.pix⟩=true from dL.2 MU] at this;exact this);have HLi:=lh (fun (W:World)=>by have:=lH f.W f.H x y 8 (.slice a f.pix.length cap) W ⟨MU.w0,MU.w1⟩ ⟨MU.h0,MU.h1⟩ Mf;rw [show gA f.W f.H x y 8=true by unfold gA;rw [decide_eq_true_iff];omega] at this;exact this);have Sn:=lh (hb.quiet MP);have Hbw:Hid (∀ (b0 o0 c0:Nat),bv=.slice (some ⟨b0,o0,none⟩) b.length c0->∀ k,k<64->b0<w.heap.size):=lh (fun b0 o0 c0 e k hk=>by obtain ⟨b',o',c',e',-,-,hc⟩:=hb.at (i:=k) Mf;rw [e'] at e;injection e with e1;injection e1 with e1;injection e1 with e1;subst e1;exact block_lt_of_cell hc);have HWb:=lh (ee.2 RJ)
 have Zx:=lh (fun (W:World) (o:ae [] (((w.alloc (.cells #[f.W,f.H,.slice a f.pix.length cap] 24)).alloc (.cells #[(),(),JEu] 24)).alloc (.cells #[(),JEu] 39)) W)=>iM (h.quiet (MP.q o)) Mf);have Hfl:=lh XD;have Hbl:=lh NS;have Hbs:=lh RJ;have Hpl:Hid (0<=x/\x<=32/\0<=y/\y<=32/\0<=f.W/\f.W<=32):=lh (by have:=MU.w1;have:=MU.h1;have:=MU.w0;omega);have MT:=lh MP;obtain ⟨ba,VT,rfl,-⟩:=hb.open;rw [NS] at Sn Hbw |-
 clear h hb NS RJ MP MU XD hpi ho hx NA hy NM;generalize om f.W x y 8 b f.pix=PK at *
 go_enter Tryz.func168,Tryz.ntmps168;obtain ⟨r0,r1,r2⟩:=ag OY;go_wp2_with fail;generalize NB:World.alloc (World.alloc (World.alloc w _) _) _=W1 at *
 clear NB r0 r1 r2;go_at_call 60;refine (HM.out W1 (ae.refl _ _)).mono ?_;rintro e w2 ⟨rfl,MV⟩;have Na:=lh MV;obtain ⟨r0,r1,r2⟩:=ag (MV.row OY);clear MV;go_wp2_with fail;go_at_call 154;refine (HLi.out w2).mono ?_;rintro e w3 ⟨rfl,Nb⟩;have Nf:=lh (Na.q Nb);clear Nb r0 r1 r2;go_wp2_with fail;go_at_call 61;refine (bS 0 255 (Sn.quiet Nf)).mono ?_;rintro e w' ⟨rfl,rfl⟩;rw [HWb.out];obtain ⟨r0,r1,r2⟩:=ag (Nf.row OY);go_wp2_with fail;go_at_call 8;refine (Zx.out w3 Nf).mono ?_;rintro e w4 ⟨v4,rfl,MQ,Ng⟩;obtain ⟨g,Ot,rfl,OL,Nl⟩:=MQ.form Hfl.1;have Tj:=ae.new w4 (.cells #[f.W,f.H,(.slice (some ⟨g,0,none⟩) f.pix.length Ot)] 24);have Zc:Hid ((w4.alloc (.cells #[f.W,f.H,(.slice (some ⟨g,0,none⟩) f.pix.length Ot)] 24)).heap[w4.heap.size]?=some (.cells #[f.W,f.H,(.slice (some ⟨g,0,none⟩) f.pix.length Ot)] 24 (0,0))):=lh (heap_alloc_new w4 _);have NF:=Ng.q Tj;have Nz:=lh (Nf.q NF);have Sx:=lh (MQ.quiet Tj);have Hg:Hid (w.heap.size+1+1<g/\g<w4.heap.size):=lh ⟨by have:=Nf.size;have:=PO.out;omega,Nl⟩;clear Ng Tj NF MQ OL Nl r0 r1 r2;go_wp2_with fail;generalize hW5:World.alloc w4 _=W5 at *
 clear hW5;generalize hB4:w4.heap.size=B4 at *
 go_loopw [13] (fun i wr=>∃ k:Nat,k<=64/\i=.int .i64 k/\Hid (Own .i64 3 w3.heap.size wr (.slice (some ⟨g,0,none⟩) f.pix.length Ot) (PK k))/\Hid (ae [g] W5 wr)) (fun i _=>64-(intOf i).toNat)
 case atStart=>exact ⟨0,Mf,rfl,lh (by rw [Wo.out];exact Sx),lh (ae.refl _ _)⟩
 case round =>
  obtain ⟨k,hk,rfl,Nc,MW⟩:=hrel;have hNN:IntKind.i64.wrap (8*8)=64:=Mn;obtain ⟨q0,q1,q2⟩:=ag (MW.rowAt Zc (by rw [mSg];have:=Hg.out;omega));obtain ⟨r0,r1,r2⟩:=ag (MW.rowAt (Nz.row OY) (by rw [mSg];have:=Hg.out;omega));by_cases MO:k<64
  ·have Ny:(k:Int)<64:=Mf
   have NU:(0:Int)<=(k:Int):=Mf;have MR:=QK.out k MO;have hix:=HIx.out k MO;obtain ⟨bb,bo,JnR,e1,TY,Zm,cb0⟩:=(Sn.out).at (i:=k) (by rw [Hbl.out];exact MO);injection e1 with e1 e2 e3
   subst e1;subst e3;have hbg:=block_lt_of_cell cb0;simp only at hbg;have hgg:=Hg.out;have cb:=MW.cell (Nz.cell cb0 Mg) (by rw [mSg];have:=PO.out;have:=Hbw.out _ _ _ rfl k MO;simp only;omega);have eM:(k:Int).tmod 8=((k % 8:Nat):Int):=by rw [LX NU];rfl
   have eD:(k:Int).tdiv 8=((k / 8:Nat):Int):=by rw [Int.tdiv_eq_ediv_of_nonneg NU];rfl
   have Zn:=Hbs.at k;have Rl:=HPn.out k MO;have bM:k % 8<8:=Mf;have bD:k / 8<8:=Mf;generalize k % 8=M at *
   generalize k / 8=Dv at *
   exact GF
  ·obtain rfl:k=64:=Mf
   have Ny:¬ ((64:Nat):Int)<64:=Mf;exact GG
end
theorem GW {p:Prop} (h:p:=by
 go_enter Tryz.func102,Tryz.ntmps102;go_wp2_with fail;go_at_call 162;refine (HF.out _ (by first | rfl | exact aY _ _)).mono ?_;rintro e w2 ⟨rfl,F2,NK,Nl⟩;go_wp2_with fail;refine MM.out _ _ ?_;rw [HP.out];exact ⟨rfl,F2,NK,Nl⟩):p:=h
theorem wU {R:Nat} (X:KC R) {F:List Nat} {w:World} {s:X.σ} {n:Nat} (h:X.At F w s) (key:Bool) (k:Int) (ok:X.Ok n s) (hn:n<=800000000) :
  Calls Tryz.prog 102 #[.pointer (some ⟨R,0,none⟩),.bool key,k] w (Es X F w (((bK X.C key k s).1:Int),(bK X.C key k s).2)):=by
 refine aN fun Q MM=>?_
 cases key with
 | false =>
  have HP:Hid (bK X.C false k s=kx X.C k s):=lh rfl;rw [HP.out] at MM;have HK:=lh (Di X h k ok hn);clear h ok;go_enter Tryz.func102,Tryz.ntmps102;go_wp2_with fail;go_at_call 161;refine HK.mono ?_;rintro e w2 ⟨rfl,F2,NK,Nl⟩;go_wp2_with fail;exact MM.out _ _ ⟨rfl,F2,NK,Nl⟩
 | true =>
  have HP:Hid (bK X.C true k s=(if (X.C.flat (decide (k=3)) s).1 then 3 else 2,(X.C.flat (decide (k=3)) s).2)):=lh rfl;have HF:=lh (fun (b:Bool) (hb:b=decide (k=3))=>(by subst hb;exact X.flat _ h ok Mf:Calls Tryz.prog 162 #[.pointer (some ⟨R,0,none⟩),.bool b] w _));obtain ⟨FL,hFL⟩:∃ y,y=X.C.flat (decide (k=3)) s:=⟨_,rfl⟩
  rw [<- hFL] at HF HP;obtain ⟨t,s2⟩:=FL;simp only at HF HP;clear h ok hFL;cases t with
  | true =>
   exact GW
  | false =>
   exact GW
def pw (w:World) (W H V:Int) (e:Ending) (w':World):Prop :=
 ae [] w w'/\match io W H V with
  | true=>∃ g cap,e=.returned (.tuple #[.agg #[W,H,.slice (some ⟨g,0,none⟩) (ed W H V).pix.length cap],.agg #[(),JEu]])/\Own .i64 3 w.heap.size w' (.slice (some ⟨g,0,none⟩) (ed W H V).pix.length cap) (ed W H V).pix
  | false=>e=.returned (.tuple #[.agg #[(),(),JEu],.agg #[.int .i64 3,JEu]])
theorem GX {p:Prop} (h:p:=by
 go_wp2_with fail;go_at_call 26;refine (gT 3 W1).mono ?_;rintro e w2 ⟨rfl,MV⟩;have HBa:=lh (MV.row OY);have HBb:=lh (MV.row PU);have HQ:=lh (MT.q MV);clear MV;obtain ⟨t0,t1,t2⟩:=ag HBa;have fz0:=frozen_of_row _ _ 0 _ _ HBa;have fz1:=frozen_of_row _ _ 1 _ _ HBa;have fz2:=frozen_of_row _ _ 2 _ _ HBa;obtain ⟨z0,z1,y0,y1,-⟩:=aJ HBb;go_wp2_with fail;obtain ⟨WF,Wf⟩:=fd (x:=.int .i64 0) (y:=.int .i64 0) (z:=.slice none 0 0) HBa;have Rn:=Wf.rowAt HBb Mg;obtain ⟨Rf,Qr⟩:=aH (x:=.int .i64 3) (y:=.slice none 0 0) Rn;have Pz:=Qr.rowAt WF Mg;have NQ:=(HQ.trans Wf (U:=[]) Mg (fun g hg MO=>Mj)).trans Qr (U:=[]) Mg (fun g hg MO=>Mj);refine bodyPost_ret (dg Tryz.results38 _ _ (w.heap.size) (w.heap.size+1) _ _ _ _ _ _ _ _ rfl rfl Pz Rf Tryz.underlying24 rfl Mh Tryz.underlying39 rfl (aR _ rfl)) rfl (MM.out _ _ ?_);exact ⟨NQ,by rw [Hn.out]⟩):p:=h
theorem Ke {W H V:Int} {w:World} (Tn:eA W=false):Calls Tryz.prog 38 #[W,H,V] w (pw w W H V):=by
 have Hn:Hid (io W H V=false):=lh (by unfold io;rw [Tn];rfl);refine aN fun Q MM=>?_
 obtain ⟨MP,OY,PU,Hz⟩:=jl w (.cells #[(),(),JEu] 24) (.cells #[(),JEu] 39);have MT:=lh MP;clear MP;go_enter Tryz.func38,Tryz.ntmps38;go_wp2_with fail;generalize NB:World.alloc (World.alloc w _) _=W1 at *
 clear NB;go_at_call 88;have hs:=fk W W1;rw [Tn] at hs;have NT:=lh hs;clear hs;refine NT.mono ?_;rintro e w' ⟨rfl,rfl⟩;clear Tn;exact GX
theorem Ao {p:Prop} (h:p:=by
 refine aN fun Q MM=>?_
 obtain ⟨MP,OY,PU,Hz⟩:=jl w (.cells #[(),(),JEu] 24) (.cells #[(),JEu] 39);have MT:=lh MP;clear MP;go_enter Tryz.func38,Tryz.ntmps38;go_wp2_with fail;generalize NB:World.alloc (World.alloc w _) _=W1 at *
 clear NB;go_at_call 88;have hs:=fk W W1;rw [Tn] at hs;have NT:=lh hs;clear hs;refine NT.mono ?_;rintro e w' ⟨rfl,rfl⟩;go_wp2_with fail;go_at_call 88;have hs:=fk H W1;rw [Uv] at hs;have OH:=lh hs;clear hs;refine OH.mono ?_;rintro e w' ⟨rfl,rfl⟩;clear Tn Uv;exact GX):p:=h
theorem Kd {W H V:Int} {w:World} (Tn:eA W=true) (Uv:eA H=false):Calls Tryz.prog 38 #[W,H,V] w (pw w W H V):=by
 have Hn:Hid (io W H V=false):=lh (by unfold io;rw [Tn,Uv];rfl);exact Ao
theorem Jg {W H V:Int} {w:World} (Tn:eA W=true) (Uv:eA H=true) (hv0:V<0):Calls Tryz.prog 38 #[W,H,V] w (pw w W H V):=by
 have Hn:Hid (io W H V=false):=lh (by unfold io;rw [Tn,Uv];unfold iw;simp;omega);exact Ao
theorem Jh {W H V:Int} {w:World} (Tn:eA W=true) (Uv:eA H=true) (hv0:¬ V<0) (Rg:255<V):Calls Tryz.prog 38 #[W,H,V] w (pw w W H V):=by
 have Hn:Hid (io W H V=false):=lh (by unfold io;rw [Tn,Uv];unfold iw;simp;omega);exact Ao
theorem Jf {W H V:Int} {w:World} (Tn:eA W=true) (Uv:eA H=true) (hv0:¬ V<0) (Rg:¬ 255<V):Calls Tryz.prog 38 #[W,H,V] w (pw w W H V):=by
 refine aN fun Q MM=>?_
 obtain ⟨MP,OY,PU,Hz⟩:=jl w (.cells #[(),(),JEu] 24) (.cells #[(),JEu] 39);have MT:=lh MP;clear MP;go_enter Tryz.func38,Tryz.ntmps38;go_wp2_with fail;generalize NB:World.alloc (World.alloc w _) _=W1 at *
 clear NB;go_at_call 88;have hs:=fk W W1;rw [Tn] at hs;have NT:=lh hs;clear hs;refine NT.mono ?_;rintro e w' ⟨rfl,rfl⟩;go_wp2_with fail;go_at_call 88;have hs:=fk H W1;rw [Uv] at hs;have OH:=lh hs;clear hs;refine OH.mono ?_;rintro e w' ⟨rfl,rfl⟩;have hwb:8<=W/\W<=32/\W % 8=0:=of_decide_eq_true Tn;have hhb:8<=H/\H<=32/\H % 8=0:=of_decide_eq_true Uv;have Hn:Hid (io W H V=true):=lh (by unfold io;rw [Tn,Uv];unfold iw;simp;omega);obtain ⟨Wn,rfl⟩:=Int.eq_ofNat_of_zero_le (show 0<=W by omega);obtain ⟨Hm,rfl⟩:=Int.eq_ofNat_of_zero_le (show 0<=H by omega);have hN:64<=Wn*Hm/\Wn*Hm<=1024:=⟨by have:=Nat.mul_le_mul (show 8<=Wn by omega) (show 8<=Hm by omega);omega,by have:=Nat.mul_le_mul (show Wn<=32 by omega) (show Hm<=32 by omega);omega⟩
 have VZ:(Wn:Int)*(Hm:Int)=((Wn*Hm:Nat):Int):=by rw [Int.natCast_mul]
 have HM:=lh VZ;obtain ⟨N,hNe⟩:∃ N,N=Wn*Hm:=⟨_,rfl⟩
 rw [<- hNe] at hN VZ;have hwm:IntKind.i64.wrap ((Wn:Int)*(Hm:Int))=(N:Int):=by rw [VZ,Ll];omega
 have JpZ:wrap64 (N:Int)=(N:Int):=by unfold wrap64;omega
 have HNe:=lh hNe;have HN:=lh hN;have Hwv:=lh (And.intro hv0 Rg);clear Tn Uv hwb hhb hNe hN;have TL:=ae.new W1 (.cells #[Wn,Hm,JEu] 24);have SJ:Hid ((W1.alloc (.cells #[Wn,Hm,JEu] 24)).heap[W1.heap.size]?=some (.cells #[Wn,Hm,JEu] 24 (0,0))):=lh (heap_alloc_new W1 _);have Jru:=lh (TL.row OY);have Jcs:=lh (TL.row PU);have Nf:=lh (MT.q TL);clear TL;go_wp2_with fail;generalize PZ:World.alloc W1 _=W3 at *
 have QM:Hid (W1.heap.size<W3.heap.size):=lh (Array.getElem?_eq_some_iff.1 SJ).1;clear PZ;go_loopw [9] (fun i wr=>∃ (k:Nat) (pv:Value),k<=N/\i=.int .i64 k/\Hid (wr.heap[W1.heap.size]?=some (.cells #[Wn,Hm,pv] 24 (0,0)))/\Hid (Own .i64 3 W3.heap.size wr pv (List.replicate k V))/\Hid (bB W3.heap.size pv)/\Hid (ae [W1.heap.size] W3 wr)) (fun i _=>N-(intOf i).toNat)
 case atStart=>exact ⟨0,_,Mf,rfl,SJ,lh (Own.nil _ _ _ _),lh (bB.nil _),lh (ae.refl _ _)⟩
 case round =>
  obtain ⟨k,pv,hk,rfl,HR,HO,Tq,QY⟩:=hrel;obtain ⟨pa,NR,hpv,-⟩:=HO.ints.open;rw [LJ] at hpv;subst hpv;obtain ⟨r0,r1,r2⟩:=ag HR;have fr2:=frozen_of_row wr W1.heap.size 2 _ _ HR;by_cases MO:k<N
  ·have Ny:(k:Int)<(N:Int):=Mf
   have NU:(0:Int)<=(k:Int):=Mf;have hN:=HN.out;have MX:∀ x∈[V],InK .i64 x:=by simp only [mSg,forall_eq,InK];have:=Hwv.out;omega
   have Oa:=lh (fun (W:World)=>bg (k:=.i64) (w:=W) (t:=3) (l:=[V]) rfl Mo MX 1 rfl rfl);have Qj:=lh (show ((List.replicate k V).length+[V].length)*8<=140737488355328 by rw [LJ];simp;omega);have PG:=lh (fun (o:Obj)=>(show W3.heap.size<=(wr.alloc o).heap.size from Lz QY.size (ae.new _ _).size));have Oq:=lh MO;have Px:=lh (fun (o:Obj) (v1:Value) (w1:World) (ho:Acc (.slice pa k NR) (wr.alloc o) v1 w1)=>ho.only.rowAt ((ae.new wr o).row HR) (fun hm=>by have:=Tq.out W1.heap.size Mu;have:=QM.out;omega));clear MX MO
   go_wp2_with (first
    | (at_builtin;refine aw rfl (.tmp 39) (.tmp 41) _ rfl EI (HO.quiet (ae.new _ _)) (by first | rfl | (rw [LJ];rfl)) (Oa.out _) rfl Qj (PG.out _) (fun v1 w1 MN Nu=>?_);have hrw:=Px.out _ _ _ Nu;obtain ⟨x1,OW,OB,_⟩:=MN.ints.open;subst OB;simp only [Ln,List.length_singleton,LJ] at MN Nu |-;obtain ⟨q0,q1,q2⟩:=ag hrw;have fq2:=frozen_of_row w1 W1.heap.size 2 _ _ hrw;have Oy:=lh MN;have Od:=lh Nu;have HRw:=lh hrw;clear MN Nu hrw)
    | fail)
   have Tm:=heap_setCell_same w1 W1.heap.size 2 _ _ (.slice x1 (k+1) OW) HRw;have Nd:ae [W1.heap.size] w1 (w1.setCell ⟨W1.heap.size,2,none⟩ (.slice x1 (k+1) OW)):=(ae.refl _ _).setCell Mg _;have Xu:=lh (Od.from_ Tq (PG.out _));refine ⟨⟨k+1,_,by have:=Oq.out;omega,Mm,lh Tm,lh ?_,Xu,lh ?_⟩,by simp [intOf];have:=Oq.out;omega⟩
   ·have ho:=Oy.only Nd (fun x hx e=>by rw [mSg] at hx;subst hx;have:=Xu.out _ e;have:=QM.out;omega)
    rw [List.replicate_succ'];exact ho
   ·exact ((QY.trans (ae.new wr _) (U:=[W1.heap.size]) (fun g h _=>h) Mg).trans Od.only (U:=[W1.heap.size]) (fun g h _=>h) (fun g hg MO=>by have:=Tq.out g Mt;omega)).trans Nd (fun g h _=>h) (fun g h _=>h)
  ·obtain rfl:k=N:=Mf
   have Ny:¬ ((k:Nat):Int)<(k:Int):=Mf;have HBa:=lh (QY.rowAt Jru (by simp;have:=Hz.out;omega));have HBb:=lh (QY.rowAt Jcs (by simp;have:=Hz.out;omega));have HQ:=lh (Nf.trans QY (U:=[]) Mg (fun g hg MO=>by rw [mSg] at hg;have:=MT.size;omega));obtain ⟨g,Ot,hgv,OL,Nl⟩:=HO.form (by rw [LJ];have:=HN.out;omega);rw [LJ] at hgv;injection hgv with e1 e2 e3
   subst e1 e3;clear e2;obtain ⟨t0,t1,t2⟩:=ag HBa;have fz0:=frozen_of_row _ _ 0 _ _ HBa;have fz1:=frozen_of_row _ _ 1 _ _ HBa;have fz2:=frozen_of_row _ _ 2 _ _ HBa;obtain ⟨z0,z1,y0,y1,-⟩:=aJ HBb;go_wp2_with fail;obtain ⟨WF,Wf⟩:=fd (x:=.int .i64 Wn) (y:=.int .i64 Hm) (z:=.slice (some ⟨g,0,none⟩) k NR) HBa;have Rn:=Wf.rowAt HBb Mg;obtain ⟨Rf,Qr⟩:=aH (x:=.int .i64 0) (y:=.slice none 0 0) Rn;have Pz:=Qr.rowAt WF Mg;have NQ:=(HQ.trans Wf (U:=[]) Mg (fun g hg MO=>Mj)).trans Qr (U:=[]) Mg (fun g hg MO=>Mj);refine bodyPost_ret (dg Tryz.results38 _ _ (w.heap.size) (w.heap.size+1) _ _ _ _ _ _ _ _ rfl rfl Pz Rf Tryz.underlying24 rfl Mh Tryz.underlying39 rfl (aR _ rfl)) rfl (MM.out _ _ ?_);refine ⟨NQ,?_⟩;rw [Hn.out];have hpx:(ed (Wn:Int) (Hm:Int) V).pix=List.replicate k V:=by show List.replicate ((Wn:Int)*(Hm:Int)).toNat V=_;rw [HM.out,Int.toNat_natCast,<- HNe.out]
   refine ⟨g,NR,?_,?_⟩
   ·rw [hpx,LJ]
   ·rw [hpx,LJ]
    have hz1:=Nf.size;have hz2:=Hz.out;have hz3:=QM.out;exact ((HO.only Wf (fun x hx e=>by rw [mSg] at hx;subst hx;have:=Tq.out _ e;omega)).only Qr (fun x hx e=>by rw [mSg] at hx;subst hx;have:=Tq.out _ e;omega)).lower hz1
theorem xm (W H V:Int) (w:World):Calls Tryz.prog 38 #[W,H,V] w (pw w W H V):=by
 cases Tn:eA W with
 | false=>exact Ke Tn
 | true =>
  cases Uv:eA H with
  | false=>exact Kd Tn Uv
  | true =>
   by_cases hv0:V<0
   ·exact Jg Tn Uv hv0
   ·by_cases Rg:255<V
    ·exact Jh Tn Uv hv0 Rg
    ·exact Jf Tn Uv hv0 Rg
end Go.Proofs.YthcafdfdglfabaaGreatDoor
