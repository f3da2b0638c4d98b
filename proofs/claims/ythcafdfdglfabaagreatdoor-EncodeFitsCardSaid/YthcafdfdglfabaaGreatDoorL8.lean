/- Joined texts: EFiW, EFitsC. Conditions: each part names its own. -/
import Derived.Test.YthcafdfdglfabaaGreatDoorZEFs2
import Derived.Test.YthcafdfdglfabaaGreatDoorB3
import Derived.Test.YthcafdfdglfabaaGreatDoorF3
import Derived.Test.YthcafdfdglfabaaGreatDoorTie
import Derived.Test.YthcafdfdglfabaaGreatDoorCards
set_option maxRecDepth 100000
set_option maxHeartbeats 16000000
namespace Go.Proofs.YthcafdfdglfabaaGreatDoor
open Go.RowKit
set_option linter.unusedVariables false
set_option linter.unusedSimpArgs false
section
theorem Dc {sv pv:Value} {src prev:ai} {a0 a1 a2 a3 a4 a5 a6 a7:Int} {w:World} (hs:ah .i64 0 w.heap.size w sv src.pix) (hp:ah .i64 0 w.heap.size w pv prev.pix) (key:Bool) (most:Int) (hE:kJ w) :
  Calls Tryz.prog 4 #[.agg #[src.W,src.H,sv],.agg #[prev.W,prev.H,pv],.bool key,.agg #[a0,a1,a2,a3,a4,a5,a6,a7],most] w fun e w'=>e=.returned (.bool true)/\ae [] w w':=by
 refine aN fun Q MM=>?_
 have Uq:=lh (fun (W:World) (o:ae [] w W)=>Dt (src:=src) (prev:=prev) key (⟨a0,a1,a2,a3,a4,a5,a6,a7⟩:Cfg) most (hs.quiet o) (hp.quiet o) o.size o.size);unfold Cfg.v at Uq;simp only at Uq;have HEr:=lh (fun (W:World) (o:ae [] w W)=>tj (o:=wM src prev key (⟨a0,a1,a2,a3,a4,a5,a6,a7⟩:Cfg) most) (fun c h=>IY h) (hE.quiet o));rw [<- IZ] at HEr;generalize (wM src prev key (⟨a0,a1,a2,a3,a4,a5,a6,a7⟩:Cfg) most).getD 0=kc0 at *
 have HFi:=lh (fun (W:World) (o:ae [] w W)=>tC W (hE.quiet o));have Ze:=lh (fun (W:World) (o:ae [] w W)=>EW (src:=src) (prev:=prev) key (⟨a0,a1,a2,a3,a4,a5,a6,a7⟩:Cfg) most (hs.quiet o) (hp.quiet o) o.size o.size);have Tq:=lh (fun (W:World) (q:Int) (o:ae [] w W)=>wK (src:=src) (prev:=prev) key q a2 (hs.quiet o) (hp.quiet o) o.size o.size);have JmV:=lh (fun (W:World) (o:ae [] w W)=>Bu (qW (hs.quiet o) (hp.quiet o)));have HLi:=lh (fun (W:World)=>tV (⟨a0,a1,a2,a3,a4,a5,a6,a7⟩:Cfg) src.W src.H 1 W);unfold Cfg.v at Ze HLi;simp only at Ze HLi;have HP:=lh (And.intro hs hp);generalize hFC:EQ src prev key (⟨a0,a1,a2,a3,a4,a5,a6,a7⟩:Cfg) most=C at *
 generalize hFB:EP src prev key (⟨a0,a1,a2,a3,a4,a5,a6,a7⟩:Cfg) most=B at *
 generalize hFV:ER src prev key (⟨a0,a1,a2,a3,a4,a5,a6,a7⟩:Cfg) most=V at *
 have HFD:=lh (And.intro hFC (And.intro hFB hFV));clear hFC hFB hFV;generalize qd [src,prev]=PXB at *
 obtain ⟨sa,sc,rfl,-⟩:=hs.open;obtain ⟨pa,pc,rfl,-⟩:=hp.open;clear hs hp hE;obtain ⟨TY,NT,HP1,HK1,-⟩:=gD w (.cells #[src.W,src.H,.slice sa src.pix.length sc] 24) (.cells #[prev.W,prev.H,.slice pa prev.pix.length pc] 24) (.cells #[a0,a1,a2,a3,a4,a5,a6,a7] 47);have MT:=lh TY;clear TY;go_enter Tryz.func4,Tryz.ntmps4;go_wp2_with fail;generalize NB:World.alloc (World.alloc (World.alloc w _) _) _=W1 at *
 clear NB;go_at_call 6;refine (HFi.out _ MT).mono ?_;rintro e w2 ⟨rfl,MV⟩;have Na:=lh MV;clear MV;obtain ⟨s0,s1,s2⟩:=ag (Na.row NT);obtain ⟨p0,p1,p2⟩:=ag (Na.row HP1);obtain ⟨k0,k1,k2,k3,k4,k5,k6,k7⟩:=dI (Na.row HK1);have PS:=lh (ae.new w2 (.cells #[src.W,src.H,.slice sa src.pix.length sc,prev.W,prev.H,.slice pa prev.pix.length pc] 24));have HPx:=lh (JmV.out _ (MT.q Na));go_wp2_with fail;generalize PZ:World.alloc w2 _=W3 at *
 clear PZ JmV;clear s0 s1 s2 p0 p1 p2 k0 k1 k2 k3 k4 k5 k6 k7;have Nf:=lh (Na.q PS);go_at_call 14;refine HPx.mono ?_;rintro e w4 ⟨rfl,hw4⟩;subst hw4;cases PXB with
 | false =>
  go_wp2_with fail;go_at_call 6;refine (HFi.out _ (MT.q Nf)).mono ?_;rintro e w5 ⟨rfl,NF⟩;have Nz:=lh (Nf.q NF);clear NF;go_wp2_with fail;exact MM.out _ _ ⟨rfl,MT.q Nz.out⟩
 | true =>
  obtain ⟨s0,s1,s2⟩:=ag (Nf.row NT);obtain ⟨p0,p1,p2⟩:=ag (Nf.row HP1);obtain ⟨k0,k1,k2,k3,k4,k5,k6,k7⟩:=dI (Nf.row HK1);go_wp2_with fail;clear s0 s1 s2 p0 p1 p2 k0 k1 k2 k3 k4 k5 k6 k7;go_at_call 15;refine (HLi.out _).mono ?_;rintro e w5 ⟨⟨b,rfl⟩,NF⟩;have Nz:=lh (Nf.q NF);clear NF;cases b with
  | false =>
   go_wp2_with fail;go_at_call 6;refine (HFi.out _ (MT.q Nz)).mono ?_;rintro e w6 ⟨rfl,Ob⟩;have OI:=lh (Nz.q Ob);clear Ob;go_wp2_with fail;exact MM.out _ _ ⟨rfl,MT.q OI.out⟩
  | true =>
   obtain ⟨s0,s1,s2⟩:=ag (Nz.row NT);obtain ⟨p0,p1,p2⟩:=ag (Nz.row HP1);obtain ⟨k0,k1,k2,k3,k4,k5,k6,k7⟩:=dI (Nz.row HK1);go_wp2_with fail;clear s0 s1 s2 p0 p1 p2 k0 k1 k2 k3 k4 k5 k6 k7;go_at_call 16;refine (Ze.out _ (MT.q Nz)).mono ?_;rintro e w6 ⟨Ob,d1,n1,f1,m1,rfl,Pr⟩;have OI:=lh (Nz.q Ob);have HK:=lh Pr;clear Ob Pr HPx HLi PS;obtain ⟨hb8,HVc,Xy,-⟩:=jl w6 (.cells #[C.kind,.slice d1 C.data.length n1] 31) (.cells #[B.W,B.H,.slice f1 B.pix.length m1] 24);have HA8:=lh hb8;clear hb8;go_upto_region 6 with (fail)
   generalize hW8:World.alloc (World.alloc w6 _) _=W8 at *
   clear hW8;obtain ⟨VC,hVC⟩:∃ z,z=w6.heap.size:=⟨_,rfl⟩
   rw [<- hVC] at HVc Xy |-
   clear hVC;have QQ:=lh (OI.q HA8);replace HK:=lh (HK.quiet HA8);obtain ⟨s0,s1,s2⟩:=ag (QQ.row NT);obtain ⟨p0,p1,p2⟩:=ag (QQ.row HP1);obtain ⟨k0,k1,k2,k3,k4,k5,k6,k7⟩:=dI (QQ.row HK1);go_wp2_with fail;clear s0 s1 s2 p0 p1 p2 k0 k1 k2 k3 k4 k5 k6 k7;go_at_call 17;refine (Uq.out _ (MT.q QQ)).mono ?_;rintro e w9 ⟨Rm,d2,n2,f2,m2,rfl,NK⟩;have Ph:=lh Rm;clear Rm Uq;obtain ⟨Jao,HVd,HVg,HVe,-⟩:=gD w9 (.cells #[C.kind,.slice d2 C.data.length n2] 31) (.cells #[B.W,B.H,.slice f2 B.pix.length m2] 24) (.cells #[kc0,JEu] 39);have Vv:=lh Jao;have HK2:=lh (NK.quiet Jao);clear Jao NK;go_upto_region 7 with (fail)
   generalize TG:World.alloc (World.alloc (World.alloc w9 _) _) _=SM at *
   clear TG;obtain ⟨VD,hVD⟩:∃ z,z=w9.heap.size:=⟨_,rfl⟩
   rw [<- hVD] at HVd HVg HVe |-
   clear hVD;have QX:=lh (Ph.q Vv);have NJ:=lh (QQ.q QX);have HK1:=lh (HK.quiet QX);replace HVc:=lh (QX.row HVc);replace Xy:=lh (QX.row Xy);clear HA8 QQ Ph Vv QX OI HK;go_wp2_with fail;go_at_call 6;refine (HFi.out _ (MT.q NJ)).mono ?_;rintro e y1 ⟨rfl,hq⟩;have X1:=lh hq;clear hq;obtain ⟨e0,e1,-⟩:=aJ (X1.row HVc);obtain ⟨g0,g1,-⟩:=aJ (X1.row HVd);have HKc:=lh (tq (j:=C.kind) (k:=C.kind) (HK1.1.quiet X1) (HK2.1.quiet X1));rw [show eqB (⟨C.kind,C.data⟩:kH) ⟨C.kind,C.data⟩=true by simp [eqB]] at HKc;go_wp2_with fail;clear e0 e1 g0 g1;go_at_call 11;refine HKc.mono ?_;rintro e y2 ⟨rfl,hq⟩;have X2:=lh (X1.q hq);clear hq HKc;obtain ⟨k0,k1,k2⟩:=ag (X2.row Xy);obtain ⟨c0,c1,c2⟩:=ag (X2.row HVg);have WN:=lh (iN (A:=B) (B:=B) (HK1.2.quiet X2) (HK2.2.quiet X2));rw [show oX B B=true by unfold oX;simp [eqB]] at WN;go_wp2_with fail;clear k0 k1 k2 c0 c1 c2;go_at_call 12;refine WN.mono ?_;rintro e y3 ⟨rfl,hq⟩;have X3:=lh (X2.q hq);clear hq WN;obtain ⟨e0,e1,-⟩:=aJ (X3.row HVe);go_wp2_with fail;clear e0 e1;go_at_call 13;refine (HEr.out _ (MT.q (NJ.q X3))).mono ?_;rintro e y4 ⟨rfl,hq⟩;have X4:=lh (X3.q hq);clear hq;go_wp2_with fail;exact MM.out _ _ ⟨rfl,MT.q (NJ.q X4)⟩
end
theorem zw {sv pv:Value} {src prev:ai} {w:World} (hs:ah .i64 0 w.heap.size w sv src.pix) (_:InK .i64 src.W/\InK .i64 src.H) (hp:ah .i64 0 w.heap.size w pv prev.pix) (_:InK .i64 prev.W/\InK .i64 prev.H) (key:Bool) (c:Cfg) (most:Int) (_:w.heap.size<=w.heap.size) (hE:kJ w) :
  Calls Tryz.prog 4 #[.agg #[src.W,src.H,sv],.agg #[prev.W,prev.H,pv],.bool key,c.v,most] w fun e w'=>e=.returned (.bool true)/\ae [] w w':=Dc hs hp key most hE
open Go.ChangeShapes Go.WideShapes Go.ChangeAt
set_option linter.unusedVariables false
set_option linter.unusedSimpArgs false
theorem nI (os:Os) (QW:os.Started) (H:Type) (enc:TypeId×Value->H) :
  ReturnsInHanded {} Tryz.checked os 4 .any (fun w args=>(Rows.encodeFitsSpec.pre enc Tryz.prog Tryz.f4 [] false w args/\laidMetH Tryz.prog nX w)/\sizedMet enc Tryz.prog Tryz.f4 (OpenSpec.ofChange Rows.encodeFitsSpec) false w args)
   (Rows.encodeFitsSpec.post enc Tryz.prog Tryz.f4 false true false false):=by
 refine returnsInHanded_of_change_and (C:=Tryz.checked) (X:=fun w _=>laidMetH Tryz.prog nX w) (fun _ _ _ hh h=>h.of_heap hh) KN QW Mh Tryz.func4
  (ChangeSpec.witness_at (enc:=enc) (C:=Tryz.checked) (os:=os) (X:=fun w _=>laidMetH Tryz.prog nX w) false (laidWorld os) #[.agg #[(),(),JEu],.agg #[(),(),JEu],.bool false,.agg #[(),(),(),(),(),(),(),()],()] 8 rfl Mh Mh Mh Mh Mh (mN os _)) ?_
 intro W base args ds gs Jjx YV hW _ _ hL _;have PJ:∀ (j:Nat) t v,Tryz.f4.params[j]?=some t->args[j]?=some v->Value.okWide Tryz.prog W .any base t v:=YV;have hW':=hW;obtain ⟨p,q,hA0,hV,rfl,hfz,hnd⟩:=hW;have hA:DataW.TrodAll enc Tryz.prog W 0 (fun _=>true) true Tryz.f4.params.toList args.toList ds p:=hA0;rw [Tryz.params4] at hA PJ;obtain ⟨v0,WJ,d0,ds0,p0,q0,JoA,rfl,rfl,h0,r0⟩:=trodAll_cons hA;obtain ⟨v1,vs1,d1,ds1,p1,q1,rfl,rfl,rfl,h1,r1⟩:=trodAll_cons r0;obtain ⟨v2,vs2,d2,ds2,p2,q2,rfl,rfl,rfl,h2,r2⟩:=trodAll_cons r1;obtain ⟨v3,vs3,d3,ds3,p3,q3,rfl,rfl,rfl,h3,r3⟩:=trodAll_cons r2;obtain ⟨v4,vs4,d4,ds4,p4,q4,rfl,rfl,rfl,h4,r4⟩:=trodAll_cons r3;obtain ⟨rfl,rfl,rfl⟩:=trodAll_nil r4;obtain rfl:args=#[v0,v1,v2,v3,v4]:=by cases args;simp_all
 obtain ⟨rfl,rfl⟩:=trodVars_none hV;have k0:=h0;have lt0:∀ x∈p0,x.block<W.heap.size:=by obtain ⟨m,hm⟩:=k0;exact DataW.trod_lt m _ _ _ hm
 obtain ⟨f0,pv0,rfl,NU,hd0⟩:=nO (PJ 0 24 v0 rfl rfl) h0;have k1:=h1;have lt1:∀ x∈p1,x.block<W.heap.size:=by obtain ⟨m,hm⟩:=k1;exact DataW.trod_lt m _ _ _ hm
 obtain ⟨f1,pv1,rfl,Pr,hd1⟩:=nO (PJ 1 24 v1 rfl rfl) h1;obtain ⟨n2,rfl,rfl,rfl⟩:=open_bool Tryz.underlying4 (PJ 2 4 v2 rfl rfl) h2;have k3:=h3;have lt3:∀ x∈p3,x.block<W.heap.size:=by obtain ⟨m,hm⟩:=k3;exact DataW.trod_lt m _ _ _ hm
 obtain ⟨c3,rfl⟩:=CX (PJ 3 47 v3 rfl rfl) h3;obtain ⟨n4,rfl,rfl,rfl,w4⟩:=open_int Tryz.underlying3 (PJ 4 3 v4 rfl rfl) h4;clear hA0 YV;simp only [LA] at hW';refine (zw hd0 NU hd1 Pr n2 c3 n4 (Lm _) (nJ hL)).mono fun e W' ⟨he,hq⟩=>?_
 subst he;have bel:=hq.quiet;exact ⟨_,rfl,_,_,_,[],_,[],hW',trodAll_mk1 (shut_bool Tryz.underlying4 _),(trodAll_cons_mk (Below.trod kR Mh (of_decide_eq_true Mh) k0 bel lt0) (trodAll_cons_mk (Below.trod kR Mh (of_decide_eq_true Mh) k1 bel lt1) (trodAll_cons_mk (shut_bool Tryz.underlying4 _) (trodAll_cons_mk (Below.trod kR Mh (of_decide_eq_true Mh) k3 bel lt3) (trodAll_cons_mk (shut_int Tryz.underlying3 w4) trodAll_mk0))))),rfl,bel.frame _,fun h=>Mv⟩
theorem qO:Rows.EncodeFitsSaid :=
 OpenClaim.holds_of_wide 4 Tryz.f4 rfl rfl rfl rfl rfl rfl rfl ⟨rfl,rfl,rfl,rfl,rfl⟩ rfl rfl rfl rfl rfl Mh Tryz.func4 Mh
  (of_decide_eq_true Mh) (by unfold Func.isWrapper;first | (rw [if_pos My];kernel_rfl) | (rw [if_neg My];exact ⟨rfl,rfl⟩))
  (fun os QW H enc _=>nI os QW H enc)
theorem encodeFits_holds:Rows.EncodeFitsCardSaid :=
 Claim7.holds_tied_plain_at .later [] [.handle] true _ true
  qO (fun _ h=>Mv) Mh (fun _ h=>Mv) encodeFits_row_tie rfl ⟨rfl,rfl⟩ Mh rfl
  (fun f fn hf hfn=>by
   obtain rfl:f=4:=Option.some.inj ((show Tryz.prog.funcNamed "kinescope/kinlaw22.EncodeFits"=some 4 by kernel_rfl).symm.trans hf) |>.symm;obtain rfl:fn=Tryz.f4:=(Option.some.inj (Tryz.func4.symm.trans hfn)).symm;exact ⟨Mh,fun j t ht=>by
    rw [Tryz.params4] at ht;have hm:t∈[24,24,4,47,3]:=by simpa using Array.mem_of_getElem? ht
    have NQ:([24,24,4,47,3].all fun u=>!Tryz.prog.wantsStandIn u)=true:=Mh;exact (show Tryz.prog.wantsStandIn t=false by simpa using List.all_eq_true.1 NQ t hm)⟩)
  Mh
end Go.Proofs.YthcafdfdglfabaaGreatDoor
