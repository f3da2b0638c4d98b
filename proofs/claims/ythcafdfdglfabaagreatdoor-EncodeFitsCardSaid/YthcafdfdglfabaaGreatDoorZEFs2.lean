/- kinlaw22.first: the chapter's examples hold. Conditions: none. -/
import Derived.Test.YthcafdfdglfabaaGreatDoorF1
import Derived.Test.YthcafdfdglfabaaGreatDoorF2
namespace Go.Proofs.YthcafdfdglfabaaGreatDoor
open Go.RowKit
set_option linter.unusedVariables false
set_option linter.unusedSimpArgs false
set_option maxRecDepth 100000
set_option maxHeartbeats 16000000
theorem dD {p:Prop} (h:p:=by intro wz OP;obtain ⟨p0,p1,p2⟩:=ag OP;go_simp;try with_reducible rfl):p:=h
theorem dr {p:Prop} (h:p:=by intro wz OP;obtain ⟨UQ,hS1⟩:=OP;obtain ⟨p0,p1,p2⟩:=ag UQ;obtain ⟨k0,k1,k2,k3,k4,k5,k6,k7⟩:=dI hS1;go_simp;try with_reducible rfl):p:=h
theorem dE {p:Prop} (h:p:=by intro wz OP;obtain ⟨k0,k1,k2,k3,k4,k5,k6,k7⟩:=dI OP;go_simp;try with_reducible rfl):p:=h
theorem bz {p:Prop} (h:p:=by intro wz OP;obtain ⟨UQ,hS1,hS2,hS3,hS4,hS5⟩:=OP;obtain ⟨c0,c1,-⟩:=aJ UQ;obtain ⟨c2,c3,c4⟩:=ag hS1;obtain ⟨c5,c6,-⟩:=aJ hS2;obtain ⟨c7,c8,c9⟩:=ag hS3;obtain ⟨d0,d1,-⟩:=aJ hS4;obtain ⟨d2,d3,d4⟩:=ag hS5;go_simp;try with_reducible rfl):p:=h
section
theorem nN (a b c:Value):(Tryz.prog.info? 24).map (·.size)=some (#[a,b,c]:Array Value).size:=by show _=some 3;kernel_rfl
theorem uQ (a b:Value):(Tryz.prog.info? 31).map (·.size)=some (#[a,b]:Array Value).size:=by show _=some 2;kernel_rfl
theorem dw {w:World} {o:Oper} {a:Act} {K:Act->World->Prop} {Q:Exit->Act->World->Prop} (x y:Operand) (t:TypeId) (ho:o.op=.store t x y)
  {g:Nat} {c c':Array Value} {ty:TypeId} (hx:a.eval x=.pointer (some ⟨g,0,none⟩)) (hy:a.eval y=.agg c') (hr:w.heap[g]?=some (.cells c ty (0,0))) (hi:(Tryz.prog.info? t).map (·.size)=some c'.size) (hs:c.size=c'.size) (h1:c'.all (·.oneCell')=true)
  (h:∀ w',ae [g] w w'->w'.heap[g]?=some (.cells c' ty (0,0))->K (a.put o.dst undef) w'):o.wp Tryz.prog a w K Q:=by
 have h2:=h _ (ae.setRow (ae.refl _ _) (fun _=>Mg) _) (setRow_heap _ _ _ _ _ _ hr);unfold Oper.wp execOp;simp only [ho,hx,hy,Instr.storeAt,Instr.sureAddr,Sem.run_bind,Sem.run_pure,Result.andThen_ok,run_storeVar_row w g ty t c c' hr hi hs h1];exact h2
theorem oB {p:Prop} (h:p:=by
 exact Yo.out _ (by first | exact o | exact o.drew)):p:=h
theorem Cg {p:Prop} (h:p:=by
 refine rdy (rdn 10 (fun K hK=>?_) .nil);refine dw (.tmp 9) (.tmp 37) 31 rfl (g:=QA) (c':=#[.int .i64 3,.slice da3 dn3 dc3]) rfl rfl OM (uQ _ _) rfl (by first | kernel_rfl | simp [Value.oneCell']) (fun v' hq hr=>?_);have q:ae [QA] v v':=by first | exact hq | exact ((ae.refl _ _).drew.mono (U:=[QA]) Mg).trans hq (fun g h _=>h) (fun g h _=>h)
 replace OM:=lh hr;replace OG:=lh (q.rowAt OG (by rw [mSg];have:=NZ.out;omega));replace HK:Hid (ah .i64 l3 h3 v' (.slice UL 64 UO) (am 200).pix):=lh (HK.only q (fun g hg=>by rw [mSg] at hg;subst hg;exact VL.2));replace Nh:Hid (W3.heap.size<=l3/\h3<=v'.heap.size):=lh ⟨Nh.1,Lz Nh.2 q.size⟩;replace o:Hid (ae [] W3 v'):=lh (o.trans q Mg (fun g hg MO=>by rw [mSg] at hg;have:=VL.1;omega));clear hq hr q;obtain ⟨v,rfl⟩:∃ z,z=v':=⟨_,rfl⟩
 refine hK.out _ _ ?_ (fun hHeld=>?_)
 ·exact oB
 clear hK K;refine rdy (rdn 11 (fun K hK=>?_) .nil);refine dw (.tmp 10) (.tmp 38) 24 rfl (g:=QB) (c':=#[.int .i64 8,.int .i64 8,.slice UL 64 UO]) rfl rfl OG (nN _ _ _) rfl (by first | kernel_rfl | simp [Value.oneCell']) (fun v' hq hr=>?_);have q:ae [QB] v v':=by first | exact hq | exact ((ae.refl _ _).drew.mono (U:=[QB]) Mg).trans hq (fun g h _=>h) (fun g h _=>h)
 replace OG:=lh hr;replace OM:=lh (q.rowAt OM (by rw [mSg];have:=NZ.out;omega));replace HK:Hid (ah .i64 l3 h3 v' (.slice UL 64 UO) (am 200).pix):=lh (HK.only q (fun g hg=>by rw [mSg] at hg;subst hg;exact VP.2));replace Nh:Hid (W3.heap.size<=l3/\h3<=v'.heap.size):=lh ⟨Nh.1,Lz Nh.2 q.size⟩;replace o:Hid (ae [] W3 v'):=lh (o.trans q Mg (fun g hg MO=>by rw [mSg] at hg;have:=VP.1;omega));clear hq hr q;obtain ⟨v,rfl⟩:∃ z,z=v':=⟨_,rfl⟩
 refine hK.out _ _ ?_ (fun hHeld=>?_)
 ·exact oB
 clear hK K;refine tkw 12 11 ⟨rfl,dE⟩ ?_;refine wpAnyH_done Mh ?_ _;go_wp2_with fail;go_meet;exact ⟨QA,QB,l3,h3,da3,dn3,dc3,UL,UO,rfl,rfl,rfl,o,OM,OG,Nh,HK,VL,VP⟩):p:=h
theorem Ar {p:Prop} (h:p:=by
 obtain ⟨v,rfl⟩:∃ z,z=v':=⟨_,rfl⟩
 refine hK.out _ _ ?_ (fun hHeld=>?_)
 ·exact oB
 clear hK K;refine rdy (rdc 3 36 (fun K hK=>?_) .nil);go_simp;go_at_call 16;refine (RV.out _ _ _ (by first | exact OZ | exact OZ.quiet (ae.refl _ _).drew) (by first | exact QP | exact QP.quiet (ae.refl _ _).drew)).mono ?_;rintro e v' ⟨da3,dn3,dc3,UL,UO,rfl,RM,hq⟩;obtain ⟨l3,Pf⟩:∃ z,z=v.heap.size:=⟨_,rfl⟩
 obtain ⟨h3,Rb⟩:∃ z,z=v'.heap.size:=⟨_,rfl⟩
 have PE:ah .i64 l3 h3 v' (.slice UL 64 UO) (am 200).pix:=by rw [Pf,Rb];exact RM
 have Ry:v.heap.size<=l3:=Mf;have PF:h3<=v'.heap.size:=Mf;clear RM Pf Rb;have q:ae [] v v':=by first | exact hq | exact ((ae.refl _ _).drew).q hq
 have Pp:W3.heap.size<=v.heap.size:=o.size;have VL:Hid (W3.heap.size<=QA/\(QA<l3\/h3<=QA)):=lh (by have:=(Array.getElem?_eq_some_iff.1 OM).1;have:=VR.out;exact ⟨Mf,.inl Mf⟩);have VP:Hid (W3.heap.size<=QB/\(QB<l3\/h3<=QB)):=lh (by have:=(Array.getElem?_eq_some_iff.1 OG).1;have:=VS.out;exact ⟨Mf,.inl Mf⟩);replace OM:=lh (q.row OM);replace OG:=lh (q.row OG);replace OZ:Hid (ah .i64 0 v'.heap.size v' (.slice (some ⟨gc,0,none⟩) 64 Tf) (am 7).pix):=lh ((OZ.quiet q).mono (Lm _) q.size);replace QP:Hid (ah .i64 0 v'.heap.size v' (.slice (some ⟨gd,0,none⟩) 64 VW) (am 200).pix):=lh ((QP.quiet q).mono (Lm _) q.size);have HK:=lh PE;have Nh:Hid (W3.heap.size<=l3/\h3<=v'.heap.size):=lh ⟨Mf,PF⟩;replace o:=lh (o.q q);clear hq q PE Ry PF Pp;obtain ⟨v,rfl⟩:∃ z,z=v':=⟨_,rfl⟩
 refine hK.out _ _ ?_ (fun hHeld=>?_)
 ·exact oB
 clear hK K;refine tkw 4 32 ⟨rfl,dE⟩ ?_;refine tkw 5 37 ⟨rfl,dE⟩ ?_;refine tkw 6 38 ⟨rfl,dE⟩ ?_;refine tkw 7 39 ⟨rfl,dE⟩ ?_;exact Cg):p:=h
theorem Kl {p:Prop} (h:p:=by
 exact Cg):p:=h
theorem Im {p:Prop} (h:p:=by
 refine rdy (rdn 10 (fun K hK=>?_) .nil);refine dw (.tmp 6) (.tmp 29) 31 rfl (g:=Ru) (c':=#[.int .i64 4,.slice da2 dn2 dc2]) rfl rfl Og (uQ _ _) rfl (by first | kernel_rfl | simp [Value.oneCell']) (fun v' hq hr=>?_);have q:ae [Ru] v v':=by first | exact hq | exact ((ae.refl _ _).drew.mono (U:=[Ru]) Mg).trans hq (fun g h _=>h) (fun g h _=>h)
 replace Og:=lh hr;replace Pk:=lh (q.rowAt Pk (by rw [mSg];have:=OA.out;omega));replace HK:Hid (ah .i64 l2 h2 v' (.slice UK 64 UN) (am 128).pix):=lh (HK.only q (fun g hg=>by rw [mSg] at hg;subst hg;exact VK.2));replace Nh:Hid (W2.heap.size<=l2/\h2<=v'.heap.size):=lh ⟨Nh.1,Lz Nh.2 q.size⟩;replace o:Hid (ae [] W2 v'):=lh (o.trans q Mg (fun g hg MO=>by rw [mSg] at hg;have:=VK.1;omega));clear hq hr q;obtain ⟨v,rfl⟩:∃ z,z=v':=⟨_,rfl⟩
 refine hK.out _ _ ?_ (fun hHeld=>?_)
 ·exact OH _ (by first | exact o | exact o.drew)
 clear hK K;refine rdy (rdn 11 (fun K hK=>?_) .nil);refine dw (.tmp 7) (.tmp 30) 24 rfl (g:=Rw) (c':=#[.int .i64 8,.int .i64 8,.slice UK 64 UN]) rfl rfl Pk (nN _ _ _) rfl (by first | kernel_rfl | simp [Value.oneCell']) (fun v' hq hr=>?_);have q:ae [Rw] v v':=by first | exact hq | exact ((ae.refl _ _).drew.mono (U:=[Rw]) Mg).trans hq (fun g h _=>h) (fun g h _=>h)
 replace Pk:=lh hr;replace Og:=lh (q.rowAt Og (by rw [mSg];have:=OA.out;omega));replace HK:Hid (ah .i64 l2 h2 v' (.slice UK 64 UN) (am 128).pix):=lh (HK.only q (fun g hg=>by rw [mSg] at hg;subst hg;exact VO.2));replace Nh:Hid (W2.heap.size<=l2/\h2<=v'.heap.size):=lh ⟨Nh.1,Lz Nh.2 q.size⟩;replace o:Hid (ae [] W2 v'):=lh (o.trans q Mg (fun g hg MO=>by rw [mSg] at hg;have:=VO.1;omega));clear hq hr q;obtain ⟨v,rfl⟩:∃ z,z=v':=⟨_,rfl⟩
 refine hK.out _ _ ?_ (fun hHeld=>?_)
 ·exact OH _ (by first | exact o | exact o.drew)
 clear hK K;refine tkw 12 8 ⟨rfl,dr⟩ ?_;refine wpAnyH_done Mh ?_ _;go_wp2_with fail;go_meet;exact ⟨Ru,Rw,l2,h2,da2,dn2,dc2,UK,UN,rfl,rfl,rfl,o,Og,Pk,Nh,HK,VK,VO⟩):p:=h
theorem Io {p:Prop} (h:p:=by
 refine rdy (rdn 9 (fun K hK=>?_) .nil);refine dw (.tmp 2) (.tmp 20) 31 rfl (g:=Rt) (c':=#[.int .i64 1,.slice da1 dn1 dc1]) rfl rfl PV (uQ _ _) rfl (by first | kernel_rfl | simp [Value.oneCell']) (fun v' hq hr=>?_);have q:ae [Rt] v v':=by first | exact hq | exact ((ae.refl _ _).drew.mono (U:=[Rt]) Mg).trans hq (fun g h _=>h) (fun g h _=>h)
 replace PV:=lh hr;replace Pg:=lh (q.rowAt Pg (by rw [mSg];have:=Oz.out;omega));replace HK:Hid (ah .i64 l1 h1 v' (.slice UJ 64 UM) (am 128).pix):=lh (HK.only q (fun g hg=>by rw [mSg] at hg;subst hg;exact VJ.2));replace Nh:Hid (W1.heap.size<=l1/\h1<=v'.heap.size):=lh ⟨Nh.1,Lz Nh.2 q.size⟩;replace o:Hid (ae [] W1 v'):=lh (o.trans q Mg (fun g hg MO=>by rw [mSg] at hg;have:=VJ.1;omega));clear hq hr q;obtain ⟨v,rfl⟩:∃ z,z=v':=⟨_,rfl⟩
 refine hK.out _ _ ?_ (fun hHeld=>?_)
 ·exact NT _ (by first | exact o | exact o.drew)
 clear hK K;refine rdy (rdn 10 (fun K hK=>?_) .nil);refine dw (.tmp 3) (.tmp 21) 24 rfl (g:=Rv) (c':=#[.int .i64 8,.int .i64 8,.slice UJ 64 UM]) rfl rfl Pg (nN _ _ _) rfl (by first | kernel_rfl | simp [Value.oneCell']) (fun v' hq hr=>?_);have q:ae [Rv] v v':=by first | exact hq | exact ((ae.refl _ _).drew.mono (U:=[Rv]) Mg).trans hq (fun g h _=>h) (fun g h _=>h)
 replace Pg:=lh hr;replace PV:=lh (q.rowAt PV (by rw [mSg];have:=Oz.out;omega));replace HK:Hid (ah .i64 l1 h1 v' (.slice UJ 64 UM) (am 128).pix):=lh (HK.only q (fun g hg=>by rw [mSg] at hg;subst hg;exact VN.2));replace Nh:Hid (W1.heap.size<=l1/\h1<=v'.heap.size):=lh ⟨Nh.1,Lz Nh.2 q.size⟩;replace o:Hid (ae [] W1 v'):=lh (o.trans q Mg (fun g hg MO=>by rw [mSg] at hg;have:=VN.1;omega));clear hq hr q;obtain ⟨v,rfl⟩:∃ z,z=v':=⟨_,rfl⟩
 refine hK.out _ _ ?_ (fun hHeld=>?_)
 ·exact NT _ (by first | exact o | exact o.drew)
 clear hK K;refine tkw 11 4 ⟨rfl,dD⟩ ?_;refine wpAnyH_done Mh ?_ _;go_wp2_with fail;go_meet;exact ⟨Rt,Rv,l1,h1,da1,dn1,dc1,UJ,UM,rfl,rfl,rfl,o,PV,Pg,Nh,HK,VJ,VN⟩):p:=h
theorem fA {p:Prop} (h:p:=by
 exact oB):p:=h
theorem gj {p:Prop} (h:p:=by
 exact NT.out _ (by first | exact o | exact o.drew)):p:=h
theorem gq {p:Prop} (h:p:=by
 exact OH.out _ (by first | exact o | exact o.drew)):p:=h
theorem Au {p:Prop} (h:p:=by
 obtain ⟨v,rfl⟩:∃ z,z=v':=⟨_,rfl⟩
 refine hK.out _ _ ?_ (fun hHeld=>?_)
 ·exact gj
 clear hK K;refine rdy (rdc 2 19 (fun K hK=>?_) .nil);go_simp;go_at_call 9;refine (Tq.out _ _ (by first | exact Qp | exact Qp.quiet (ae.refl _ _).drew)).mono ?_;rintro e v' ⟨da1,dn1,dc1,UJ,UM,rfl,RM,hq⟩;obtain ⟨l1,Pf⟩:∃ z,z=v.heap.size:=⟨_,rfl⟩
 obtain ⟨h1,Rb⟩:∃ z,z=v'.heap.size:=⟨_,rfl⟩
 have PE:ah .i64 l1 h1 v' (.slice UJ 64 UM) (am 128).pix:=by rw [Pf,Rb];exact RM
 have Ry:v.heap.size<=l1:=Mf;have PF:h1<=v'.heap.size:=Mf;clear RM Pf Rb;have q:ae [] v v':=by first | exact hq | exact ((ae.refl _ _).drew).q hq
 have Pp:W1.heap.size<=v.heap.size:=o.size;have VJ:Hid (W1.heap.size<=Rt/\(Rt<l1\/h1<=Rt)):=lh (by have:=(Array.getElem?_eq_some_iff.1 PV).1;have:=Yx.out;exact ⟨Mf,.inl Mf⟩);have VN:Hid (W1.heap.size<=Rv/\(Rv<l1\/h1<=Rv)):=lh (by have:=(Array.getElem?_eq_some_iff.1 Pg).1;have:=Yz.out;exact ⟨Mf,.inl Mf⟩);replace PV:=lh (q.row PV);replace Pg:=lh (q.row Pg);replace Qp:Hid (ah .i64 0 v'.heap.size v' (.slice (some ⟨ga,0,none⟩) 64 VU) (am 128).pix):=lh ((Qp.quiet q).mono (Lm _) q.size);have HK:=lh PE;have Nh:Hid (W1.heap.size<=l1/\h1<=v'.heap.size):=lh ⟨Mf,PF⟩;replace o:=lh (o.q q);clear hq q PE Ry PF Pp;obtain ⟨v,rfl⟩:∃ z,z=v':=⟨_,rfl⟩
 refine hK.out _ _ ?_ (fun hHeld=>?_)
 ·exact gj
 clear hK K;refine tkw 3 16 ⟨rfl,dD⟩ ?_;refine tkw 4 20 ⟨rfl,dD⟩ ?_;refine tkw 5 21 ⟨rfl,dD⟩ ?_;refine tkw 6 22 ⟨rfl,dD⟩ ?_;exact Io):p:=h
theorem Av {p:Prop} (h:p:=by
 obtain ⟨v,rfl⟩:∃ z,z=v':=⟨_,rfl⟩
 refine hK.out _ _ ?_ (fun hHeld=>?_)
 ·exact gq
 clear hK K;refine rdy (rdc 3 28 (fun K hK=>?_) .nil);go_simp;go_at_call 16;refine (Qu.out _ _ (by first | exact Qy | exact Qy.quiet (ae.refl _ _).drew)).mono ?_;rintro e v' ⟨da2,dn2,dc2,UK,UN,rfl,RM,hq⟩;obtain ⟨l2,Pf⟩:∃ z,z=v.heap.size:=⟨_,rfl⟩
 obtain ⟨h2,Rb⟩:∃ z,z=v'.heap.size:=⟨_,rfl⟩
 have PE:ah .i64 l2 h2 v' (.slice UK 64 UN) (am 128).pix:=by rw [Pf,Rb];exact RM
 have Ry:v.heap.size<=l2:=Mf;have PF:h2<=v'.heap.size:=Mf;clear RM Pf Rb;have q:ae [] v v':=by first | exact hq | exact ((ae.refl _ _).drew).q hq
 have Pp:W2.heap.size<=v.heap.size:=o.size;have VK:Hid (W2.heap.size<=Ru/\(Ru<l2\/h2<=Ru)):=lh (by have:=(Array.getElem?_eq_some_iff.1 Og).1;have:=Yy.out;exact ⟨Mf,.inl Mf⟩);have VO:Hid (W2.heap.size<=Rw/\(Rw<l2\/h2<=Rw)):=lh (by have:=(Array.getElem?_eq_some_iff.1 Pk).1;have:=YA.out;exact ⟨Mf,.inl Mf⟩);replace Og:=lh (q.row Og);replace Pk:=lh (q.row Pk);replace Qy:Hid (ah .i64 0 v'.heap.size v' (.slice (some ⟨gb,0,none⟩) 64 VV) (am 7).pix):=lh ((Qy.quiet q).mono (Lm _) q.size);have HK:=lh PE;have Nh:Hid (W2.heap.size<=l2/\h2<=v'.heap.size):=lh ⟨Mf,PF⟩;replace o:=lh (o.q q);clear hq q PE Ry PF Pp;obtain ⟨v,rfl⟩:∃ z,z=v':=⟨_,rfl⟩
 refine hK.out _ _ ?_ (fun hHeld=>?_)
 ·exact gq
 clear hK K;refine tkw 4 24 ⟨rfl,dr⟩ ?_;refine tkw 5 29 ⟨rfl,dr⟩ ?_;refine tkw 6 30 ⟨rfl,dr⟩ ?_;refine tkw 7 31 ⟨rfl,dr⟩ ?_;exact Im):p:=h
theorem vR {p:Prop} (h:p:=by
 clear hb hz;obtain ⟨v,rfl⟩:∃ z,z=v':=⟨_,rfl⟩
 refine hK.out _ _ ?_ (fun hHeld=>?_)
 ·exact fA
 clear hK K;exact Kl):p:=h
theorem Ip {p:Prop} (h:p:=by
 obtain ⟨v,rfl⟩:∃ z,z=v':=⟨_,rfl⟩
 refine hK.out _ _ ?_ (fun hHeld=>?_)
 ·exact fA
 clear hK K;refine rdy (rdc 3 36 (fun K hK=>?_) (rdc 9 10 (fun K hK=>?_) .nil))
 ·go_simp
  go_at_call 16;refine (RV.out _ _ _ (by first | exact OZ | exact OZ.quiet (ae.refl _ _).drew) (by first | exact QP | exact QP.quiet (ae.refl _ _).drew)).mono ?_;rintro e v' ⟨da3,dn3,dc3,UL,UO,rfl,RM,hq⟩;obtain ⟨l3,Pf⟩:∃ z,z=v.heap.size:=⟨_,rfl⟩
  obtain ⟨h3,Rb⟩:∃ z,z=v'.heap.size:=⟨_,rfl⟩
  have PE:ah .i64 l3 h3 v' (.slice UL 64 UO) (am 200).pix:=by rw [Pf,Rb];exact RM
  have Ry:v.heap.size<=l3:=Mf;have PF:h3<=v'.heap.size:=Mf;clear RM Pf Rb;have q:ae [] v v':=by first | exact hq | exact ((ae.refl _ _).drew).q hq
  have Pp:W3.heap.size<=v.heap.size:=o.size;have VL:Hid (W3.heap.size<=QA/\(QA<l3\/h3<=QA)):=lh (by have:=(Array.getElem?_eq_some_iff.1 OM).1;have:=VR.out;exact ⟨Mf,.inl Mf⟩);replace OM:=lh (q.row OM);replace OZ:Hid (ah .i64 0 v'.heap.size v' (.slice (some ⟨gc,0,none⟩) 64 Tf) (am 7).pix):=lh ((OZ.quiet q).mono (Lm _) q.size);replace QP:Hid (ah .i64 0 v'.heap.size v' (.slice (some ⟨gd,0,none⟩) 64 VW) (am 200).pix):=lh ((QP.quiet q).mono (Lm _) q.size);have HK:=lh PE;have Nh:Hid (W3.heap.size<=l3/\h3<=v'.heap.size):=lh ⟨Mf,PF⟩;replace o:=lh (o.q q);clear hq q PE Ry PF Pp;obtain ⟨v,rfl⟩:∃ z,z=v':=⟨_,rfl⟩
  refine hK.out _ _ ?_ (fun hHeld=>?_)
  ·exact fA
  clear hK K;refine tkw 4 32 ⟨rfl,dE⟩ ?_;refine tkw 5 37 ⟨rfl,dE⟩ ?_;refine tkw 6 38 ⟨rfl,dE⟩ ?_;refine tkw 7 39 ⟨rfl,dE⟩ ?_;refine rdy (rdc 9 10 (fun K hK=>?_) .nil);go_simp;generalize hW:World.alloc _ _=v';have q:ae [] v v':=by rw [<- hW];first | exact ae.new _ _ | exact ((ae.refl _ _).drew).q (ae.new _ _)
  have OG:Hid (v'.heap[v.heap.size]?=some (.cells #[(),(),JEu] 24 (0,0))):=lh (by rw [<- hW];exact heap_alloc_new _ _);have hz:W3.heap.size<=v.heap.size:=o.size;have VP:Hid (W3.heap.size<=v.heap.size/\(v.heap.size<l3\/h3<=v.heap.size)):=lh ⟨hz,.inr Nh.2⟩;have NZ:Hid (QA≠v.heap.size):=lh (by have:=(Array.getElem?_eq_some_iff.1 OM).1;omega);replace OM:=lh (q.row OM);replace HK:Hid (ah .i64 l3 h3 v' (.slice UL 64 UO) (am 200).pix):=lh (HK.only q Mg);replace Nh:Hid (W3.heap.size<=l3/\h3<=v'.heap.size):=lh ⟨Nh.1,Lz Nh.2 q.size⟩;replace OZ:Hid (ah .i64 0 v'.heap.size v' (.slice (some ⟨gc,0,none⟩) 64 Tf) (am 7).pix):=lh ((OZ.quiet q).mono (Lm _) q.size);replace QP:Hid (ah .i64 0 v'.heap.size v' (.slice (some ⟨gd,0,none⟩) 64 VW) (am 200).pix):=lh ((QP.quiet q).mono (Lm _) q.size);replace o:=lh (o.q q);clear hW q;generalize hb:v.heap.size=QB at OG VP NZ |-
  have VS:Hid (W3.heap.size<=QB):=lh (by rw [<- hb];exact hz);exact vR
 ·go_simp
  generalize hW:World.alloc _ _=v';have q:ae [] v v':=by rw [<- hW];first | exact ae.new _ _ | exact ((ae.refl _ _).drew).q (ae.new _ _)
  have OG:Hid (v'.heap[v.heap.size]?=some (.cells #[(),(),JEu] 24 (0,0))):=lh (by rw [<- hW];exact heap_alloc_new _ _);have hz:W3.heap.size<=v.heap.size:=o.size;have NZ:Hid (QA≠v.heap.size):=lh (by have:=(Array.getElem?_eq_some_iff.1 OM).1;omega);replace OM:=lh (q.row OM);replace OZ:Hid (ah .i64 0 v'.heap.size v' (.slice (some ⟨gc,0,none⟩) 64 Tf) (am 7).pix):=lh ((OZ.quiet q).mono (Lm _) q.size);replace QP:Hid (ah .i64 0 v'.heap.size v' (.slice (some ⟨gd,0,none⟩) 64 VW) (am 200).pix):=lh ((QP.quiet q).mono (Lm _) q.size);replace o:=lh (o.q q);clear hW q;generalize hb:v.heap.size=QB at OG NZ |-
  have VS:Hid (W3.heap.size<=QB):=lh (by rw [<- hb];exact hz);clear hb hz;exact Ar):p:=h
theorem Cf {p:Prop} (h:p:=by
 obtain ⟨v,rfl⟩:∃ z,z=v':=⟨_,rfl⟩
 refine hK.out _ _ ?_ (fun hHeld=>?_)
 ·exact fA
 clear hK K;refine rdy (rdc 3 36 (fun K hK=>?_) (rdc 8 9 (fun K hK=>?_) .nil))
 ·go_simp
  go_at_call 16;refine (RV.out _ _ _ (by first | exact OZ | exact OZ.quiet (ae.refl _ _).drew) (by first | exact QP | exact QP.quiet (ae.refl _ _).drew)).mono ?_;rintro e v' ⟨da3,dn3,dc3,UL,UO,rfl,RM,hq⟩;obtain ⟨l3,Pf⟩:∃ z,z=v.heap.size:=⟨_,rfl⟩
  obtain ⟨h3,Rb⟩:∃ z,z=v'.heap.size:=⟨_,rfl⟩
  have PE:ah .i64 l3 h3 v' (.slice UL 64 UO) (am 200).pix:=by rw [Pf,Rb];exact RM
  have Ry:v.heap.size<=l3:=Mf;have PF:h3<=v'.heap.size:=Mf;clear RM Pf Rb;have q:ae [] v v':=by first | exact hq | exact ((ae.refl _ _).drew).q hq
  have Pp:W3.heap.size<=v.heap.size:=o.size;have VP:Hid (W3.heap.size<=QB/\(QB<l3\/h3<=QB)):=lh (by have:=(Array.getElem?_eq_some_iff.1 OG).1;have:=VS.out;exact ⟨Mf,.inl Mf⟩);replace OG:=lh (q.row OG);replace OZ:Hid (ah .i64 0 v'.heap.size v' (.slice (some ⟨gc,0,none⟩) 64 Tf) (am 7).pix):=lh ((OZ.quiet q).mono (Lm _) q.size);replace QP:Hid (ah .i64 0 v'.heap.size v' (.slice (some ⟨gd,0,none⟩) 64 VW) (am 200).pix):=lh ((QP.quiet q).mono (Lm _) q.size);have HK:=lh PE;have Nh:Hid (W3.heap.size<=l3/\h3<=v'.heap.size):=lh ⟨Mf,PF⟩;replace o:=lh (o.q q);clear hq q PE Ry PF Pp;obtain ⟨v,rfl⟩:∃ z,z=v':=⟨_,rfl⟩
  refine hK.out _ _ ?_ (fun hHeld=>?_)
  ·exact fA
  clear hK K;refine tkw 4 32 ⟨rfl,dE⟩ ?_;refine tkw 5 37 ⟨rfl,dE⟩ ?_;refine tkw 6 38 ⟨rfl,dE⟩ ?_;refine tkw 7 39 ⟨rfl,dE⟩ ?_;refine rdy (rdc 8 9 (fun K hK=>?_) .nil);go_simp;generalize hW:World.alloc _ _=v';have q:ae [] v v':=by rw [<- hW];first | exact ae.new _ _ | exact ((ae.refl _ _).drew).q (ae.new _ _)
  have OM:Hid (v'.heap[v.heap.size]?=some (.cells #[(),JEu] 31 (0,0))):=lh (by rw [<- hW];exact heap_alloc_new _ _);have hz:W3.heap.size<=v.heap.size:=o.size;have VL:Hid (W3.heap.size<=v.heap.size/\(v.heap.size<l3\/h3<=v.heap.size)):=lh ⟨hz,.inr Nh.2⟩;have NZ:Hid (v.heap.size≠QB):=lh (by have:=(Array.getElem?_eq_some_iff.1 OG).1;omega);replace OG:=lh (q.row OG);replace HK:Hid (ah .i64 l3 h3 v' (.slice UL 64 UO) (am 200).pix):=lh (HK.only q Mg);replace Nh:Hid (W3.heap.size<=l3/\h3<=v'.heap.size):=lh ⟨Nh.1,Lz Nh.2 q.size⟩;replace OZ:Hid (ah .i64 0 v'.heap.size v' (.slice (some ⟨gc,0,none⟩) 64 Tf) (am 7).pix):=lh ((OZ.quiet q).mono (Lm _) q.size);replace QP:Hid (ah .i64 0 v'.heap.size v' (.slice (some ⟨gd,0,none⟩) 64 VW) (am 200).pix):=lh ((QP.quiet q).mono (Lm _) q.size);replace o:=lh (o.q q);clear hW q;generalize hb:v.heap.size=QA at OM VL NZ |-
  have VR:Hid (W3.heap.size<=QA):=lh (by rw [<- hb];exact hz);exact vR
 ·go_simp
  generalize hW:World.alloc _ _=v';have q:ae [] v v':=by rw [<- hW];first | exact ae.new _ _ | exact ((ae.refl _ _).drew).q (ae.new _ _)
  have OM:Hid (v'.heap[v.heap.size]?=some (.cells #[(),JEu] 31 (0,0))):=lh (by rw [<- hW];exact heap_alloc_new _ _);have hz:W3.heap.size<=v.heap.size:=o.size;have NZ:Hid (v.heap.size≠QB):=lh (by have:=(Array.getElem?_eq_some_iff.1 OG).1;omega);replace OG:=lh (q.row OG);replace OZ:Hid (ah .i64 0 v'.heap.size v' (.slice (some ⟨gc,0,none⟩) 64 Tf) (am 7).pix):=lh ((OZ.quiet q).mono (Lm _) q.size);replace QP:Hid (ah .i64 0 v'.heap.size v' (.slice (some ⟨gd,0,none⟩) 64 VW) (am 200).pix):=lh ((QP.quiet q).mono (Lm _) q.size);replace o:=lh (o.q q);clear hW q;generalize hb:v.heap.size=QA at OM NZ |-
  have VR:Hid (W3.heap.size<=QA):=lh (by rw [<- hb];exact hz);clear hb hz;exact Ar):p:=h
theorem vQ {p:Prop} (h:p:=by
 obtain ⟨v,rfl⟩:∃ z,z=v':=⟨_,rfl⟩
 refine hK.out _ _ ?_ (fun hHeld=>?_)
 ·exact fA
 clear hK K;refine rdy (rdc 1 34 (fun K hK=>?_) .nil);go_simp;go_at_call 25;refine (UD.out _).mono ?_;rintro e v' ⟨gd,VW,rfl,Oc,hq⟩;have hP:ah .i64 0 v'.heap.size v' (.slice (some ⟨gd,0,none⟩) 64 VW) (am 200).pix:=Oc.ints.mono (Mc _) (Lm _);clear Oc;have q:ae [] v v':=by first | exact hq | exact ((ae.refl _ _).drew).q hq
 replace OM:=lh (q.row OM);replace OG:=lh (q.row OG);replace OZ:Hid (ah .i64 0 v'.heap.size v' (.slice (some ⟨gc,0,none⟩) 64 Tf) (am 7).pix):=lh ((OZ.quiet q).mono (Lm _) q.size);have QP:=lh hP;replace o:=lh (o.q q);clear hq q hP;exact Ar):p:=h
theorem vS {p:Prop} (h:p:=by
 clear hb hz;obtain ⟨v,rfl⟩:∃ z,z=v':=⟨_,rfl⟩
 refine hK.out _ _ ?_ (fun hHeld=>?_)
 ·exact gj
 clear hK K;exact Io):p:=h
theorem Jt {p:Prop} (h:p:=by
 go_simp;go_at_call 9;refine (Tq.out _ _ (by first | exact Qp | exact Qp.quiet (ae.refl _ _).drew)).mono ?_;rintro e v' ⟨da1,dn1,dc1,UJ,UM,rfl,RM,hq⟩;obtain ⟨l1,Pf⟩:∃ z,z=v.heap.size:=⟨_,rfl⟩
 obtain ⟨h1,Rb⟩:∃ z,z=v'.heap.size:=⟨_,rfl⟩
 have PE:ah .i64 l1 h1 v' (.slice UJ 64 UM) (am 128).pix:=by rw [Pf,Rb];exact RM
 have Ry:v.heap.size<=l1:=Mf;have PF:h1<=v'.heap.size:=Mf;clear RM Pf Rb;have q:ae [] v v':=by first | exact hq | exact ((ae.refl _ _).drew).q hq
 have Pp:W1.heap.size<=v.heap.size:=o.size;have VJ:Hid (W1.heap.size<=Rt/\(Rt<l1\/h1<=Rt)):=lh (by have:=(Array.getElem?_eq_some_iff.1 PV).1;have:=Yx.out;exact ⟨Mf,.inl Mf⟩);replace PV:=lh (q.row PV);replace Qp:Hid (ah .i64 0 v'.heap.size v' (.slice (some ⟨ga,0,none⟩) 64 VU) (am 128).pix):=lh ((Qp.quiet q).mono (Lm _) q.size);have HK:=lh PE;have Nh:Hid (W1.heap.size<=l1/\h1<=v'.heap.size):=lh ⟨Mf,PF⟩;replace o:=lh (o.q q);clear hq q PE Ry PF Pp;obtain ⟨v,rfl⟩:∃ z,z=v':=⟨_,rfl⟩
 refine hK.out _ _ ?_ (fun hHeld=>?_)
 ·exact gj
 clear hK K;refine tkw 3 16 ⟨rfl,dD⟩ ?_;refine tkw 4 20 ⟨rfl,dD⟩ ?_;refine tkw 5 21 ⟨rfl,dD⟩ ?_;refine tkw 6 22 ⟨rfl,dD⟩ ?_;refine rdy (rdc 8 3 (fun K hK=>?_) .nil);go_simp;generalize hW:World.alloc _ _=v';have q:ae [] v v':=by rw [<- hW];first | exact ae.new _ _ | exact ((ae.refl _ _).drew).q (ae.new _ _)
 have Pg:Hid (v'.heap[v.heap.size]?=some (.cells #[(),(),JEu] 24 (0,0))):=lh (by rw [<- hW];exact heap_alloc_new _ _);have hz:W1.heap.size<=v.heap.size:=o.size;have VN:Hid (W1.heap.size<=v.heap.size/\(v.heap.size<l1\/h1<=v.heap.size)):=lh ⟨hz,.inr Nh.2⟩;have Oz:Hid (Rt≠v.heap.size):=lh (by have:=(Array.getElem?_eq_some_iff.1 PV).1;omega);replace PV:=lh (q.row PV);replace HK:Hid (ah .i64 l1 h1 v' (.slice UJ 64 UM) (am 128).pix):=lh (HK.only q Mg);replace Nh:Hid (W1.heap.size<=l1/\h1<=v'.heap.size):=lh ⟨Nh.1,Lz Nh.2 q.size⟩;replace Qp:Hid (ah .i64 0 v'.heap.size v' (.slice (some ⟨ga,0,none⟩) 64 VU) (am 128).pix):=lh ((Qp.quiet q).mono (Lm _) q.size);replace o:=lh (o.q q);clear hW q;generalize hb:v.heap.size=Rv at Pg VN Oz |-
 have Yz:Hid (W1.heap.size<=Rv):=lh (by rw [<- hb];exact hz);exact vS):p:=h
theorem vT {p:Prop} (h:p:=by
 clear hb hz;obtain ⟨v,rfl⟩:∃ z,z=v':=⟨_,rfl⟩
 refine hK.out _ _ ?_ (fun hHeld=>?_)
 ·exact gq
 clear hK K;exact Im):p:=h
theorem Ju {p:Prop} (h:p:=by
 go_simp;go_at_call 16;refine (Qu.out _ _ (by first | exact Qy | exact Qy.quiet (ae.refl _ _).drew)).mono ?_;rintro e v' ⟨da2,dn2,dc2,UK,UN,rfl,RM,hq⟩;obtain ⟨l2,Pf⟩:∃ z,z=v.heap.size:=⟨_,rfl⟩
 obtain ⟨h2,Rb⟩:∃ z,z=v'.heap.size:=⟨_,rfl⟩
 have PE:ah .i64 l2 h2 v' (.slice UK 64 UN) (am 128).pix:=by rw [Pf,Rb];exact RM
 have Ry:v.heap.size<=l2:=Mf;have PF:h2<=v'.heap.size:=Mf;clear RM Pf Rb;have q:ae [] v v':=by first | exact hq | exact ((ae.refl _ _).drew).q hq
 have Pp:W2.heap.size<=v.heap.size:=o.size;have VK:Hid (W2.heap.size<=Ru/\(Ru<l2\/h2<=Ru)):=lh (by have:=(Array.getElem?_eq_some_iff.1 Og).1;have:=Yy.out;exact ⟨Mf,.inl Mf⟩);replace Og:=lh (q.row Og);replace Qy:Hid (ah .i64 0 v'.heap.size v' (.slice (some ⟨gb,0,none⟩) 64 VV) (am 7).pix):=lh ((Qy.quiet q).mono (Lm _) q.size);have HK:=lh PE;have Nh:Hid (W2.heap.size<=l2/\h2<=v'.heap.size):=lh ⟨Mf,PF⟩;replace o:=lh (o.q q);clear hq q PE Ry PF Pp;obtain ⟨v,rfl⟩:∃ z,z=v':=⟨_,rfl⟩
 refine hK.out _ _ ?_ (fun hHeld=>?_)
 ·exact gq
 clear hK K;refine tkw 4 24 ⟨rfl,dr⟩ ?_;refine tkw 5 29 ⟨rfl,dr⟩ ?_;refine tkw 6 30 ⟨rfl,dr⟩ ?_;refine tkw 7 31 ⟨rfl,dr⟩ ?_;refine rdy (rdc 9 7 (fun K hK=>?_) .nil);go_simp;generalize hW:World.alloc _ _=v';have q:ae [] v v':=by rw [<- hW];first | exact ae.new _ _ | exact ((ae.refl _ _).drew).q (ae.new _ _)
 have Pk:Hid (v'.heap[v.heap.size]?=some (.cells #[(),(),JEu] 24 (0,0))):=lh (by rw [<- hW];exact heap_alloc_new _ _);have hz:W2.heap.size<=v.heap.size:=o.size;have VO:Hid (W2.heap.size<=v.heap.size/\(v.heap.size<l2\/h2<=v.heap.size)):=lh ⟨hz,.inr Nh.2⟩;have OA:Hid (Ru≠v.heap.size):=lh (by have:=(Array.getElem?_eq_some_iff.1 Og).1;omega);replace Og:=lh (q.row Og);replace HK:Hid (ah .i64 l2 h2 v' (.slice UK 64 UN) (am 128).pix):=lh (HK.only q Mg);replace Nh:Hid (W2.heap.size<=l2/\h2<=v'.heap.size):=lh ⟨Nh.1,Lz Nh.2 q.size⟩;replace Qy:Hid (ah .i64 0 v'.heap.size v' (.slice (some ⟨gb,0,none⟩) 64 VV) (am 7).pix):=lh ((Qy.quiet q).mono (Lm _) q.size);replace o:=lh (o.q q);clear hW q;generalize hb:v.heap.size=Rw at Pk VO OA |-
 have YA:Hid (W2.heap.size<=Rw):=lh (by rw [<- hb];exact hz);exact vT):p:=h
theorem Jv {p:Prop} (h:p:=by
 go_simp;go_at_call 9;refine (Tq.out _ _ (by first | exact Qp | exact Qp.quiet (ae.refl _ _).drew)).mono ?_;rintro e v' ⟨da1,dn1,dc1,UJ,UM,rfl,RM,hq⟩;obtain ⟨l1,Pf⟩:∃ z,z=v.heap.size:=⟨_,rfl⟩
 obtain ⟨h1,Rb⟩:∃ z,z=v'.heap.size:=⟨_,rfl⟩
 have PE:ah .i64 l1 h1 v' (.slice UJ 64 UM) (am 128).pix:=by rw [Pf,Rb];exact RM
 have Ry:v.heap.size<=l1:=Mf;have PF:h1<=v'.heap.size:=Mf;clear RM Pf Rb;have q:ae [] v v':=by first | exact hq | exact ((ae.refl _ _).drew).q hq
 have Pp:W1.heap.size<=v.heap.size:=o.size;have VN:Hid (W1.heap.size<=Rv/\(Rv<l1\/h1<=Rv)):=lh (by have:=(Array.getElem?_eq_some_iff.1 Pg).1;have:=Yz.out;exact ⟨Mf,.inl Mf⟩);replace Pg:=lh (q.row Pg);replace Qp:Hid (ah .i64 0 v'.heap.size v' (.slice (some ⟨ga,0,none⟩) 64 VU) (am 128).pix):=lh ((Qp.quiet q).mono (Lm _) q.size);have HK:=lh PE;have Nh:Hid (W1.heap.size<=l1/\h1<=v'.heap.size):=lh ⟨Mf,PF⟩;replace o:=lh (o.q q);clear hq q PE Ry PF Pp;obtain ⟨v,rfl⟩:∃ z,z=v':=⟨_,rfl⟩
 refine hK.out _ _ ?_ (fun hHeld=>?_)
 ·exact gj
 clear hK K;refine tkw 3 16 ⟨rfl,dD⟩ ?_;refine tkw 4 20 ⟨rfl,dD⟩ ?_;refine tkw 5 21 ⟨rfl,dD⟩ ?_;refine tkw 6 22 ⟨rfl,dD⟩ ?_;refine rdy (rdc 7 2 (fun K hK=>?_) .nil);go_simp;generalize hW:World.alloc _ _=v';have q:ae [] v v':=by rw [<- hW];first | exact ae.new _ _ | exact ((ae.refl _ _).drew).q (ae.new _ _)
 have PV:Hid (v'.heap[v.heap.size]?=some (.cells #[(),JEu] 31 (0,0))):=lh (by rw [<- hW];exact heap_alloc_new _ _);have hz:W1.heap.size<=v.heap.size:=o.size;have VJ:Hid (W1.heap.size<=v.heap.size/\(v.heap.size<l1\/h1<=v.heap.size)):=lh ⟨hz,.inr Nh.2⟩;have Oz:Hid (v.heap.size≠Rv):=lh (by have:=(Array.getElem?_eq_some_iff.1 Pg).1;omega);replace Pg:=lh (q.row Pg);replace HK:Hid (ah .i64 l1 h1 v' (.slice UJ 64 UM) (am 128).pix):=lh (HK.only q Mg);replace Nh:Hid (W1.heap.size<=l1/\h1<=v'.heap.size):=lh ⟨Nh.1,Lz Nh.2 q.size⟩;replace Qp:Hid (ah .i64 0 v'.heap.size v' (.slice (some ⟨ga,0,none⟩) 64 VU) (am 128).pix):=lh ((Qp.quiet q).mono (Lm _) q.size);replace o:=lh (o.q q);clear hW q;generalize hb:v.heap.size=Rt at PV VJ Oz |-
 have Yx:Hid (W1.heap.size<=Rt):=lh (by rw [<- hb];exact hz);exact vS):p:=h
theorem Jw {p:Prop} (h:p:=by
 go_simp;go_at_call 16;refine (Qu.out _ _ (by first | exact Qy | exact Qy.quiet (ae.refl _ _).drew)).mono ?_;rintro e v' ⟨da2,dn2,dc2,UK,UN,rfl,RM,hq⟩;obtain ⟨l2,Pf⟩:∃ z,z=v.heap.size:=⟨_,rfl⟩
 obtain ⟨h2,Rb⟩:∃ z,z=v'.heap.size:=⟨_,rfl⟩
 have PE:ah .i64 l2 h2 v' (.slice UK 64 UN) (am 128).pix:=by rw [Pf,Rb];exact RM
 have Ry:v.heap.size<=l2:=Mf;have PF:h2<=v'.heap.size:=Mf;clear RM Pf Rb;have q:ae [] v v':=by first | exact hq | exact ((ae.refl _ _).drew).q hq
 have Pp:W2.heap.size<=v.heap.size:=o.size;have VO:Hid (W2.heap.size<=Rw/\(Rw<l2\/h2<=Rw)):=lh (by have:=(Array.getElem?_eq_some_iff.1 Pk).1;have:=YA.out;exact ⟨Mf,.inl Mf⟩);replace Pk:=lh (q.row Pk);replace Qy:Hid (ah .i64 0 v'.heap.size v' (.slice (some ⟨gb,0,none⟩) 64 VV) (am 7).pix):=lh ((Qy.quiet q).mono (Lm _) q.size);have HK:=lh PE;have Nh:Hid (W2.heap.size<=l2/\h2<=v'.heap.size):=lh ⟨Mf,PF⟩;replace o:=lh (o.q q);clear hq q PE Ry PF Pp;obtain ⟨v,rfl⟩:∃ z,z=v':=⟨_,rfl⟩
 refine hK.out _ _ ?_ (fun hHeld=>?_)
 ·exact gq
 clear hK K;refine tkw 4 24 ⟨rfl,dr⟩ ?_;refine tkw 5 29 ⟨rfl,dr⟩ ?_;refine tkw 6 30 ⟨rfl,dr⟩ ?_;refine tkw 7 31 ⟨rfl,dr⟩ ?_;refine rdy (rdc 8 6 (fun K hK=>?_) .nil);go_simp;generalize hW:World.alloc _ _=v';have q:ae [] v v':=by rw [<- hW];first | exact ae.new _ _ | exact ((ae.refl _ _).drew).q (ae.new _ _)
 have Og:Hid (v'.heap[v.heap.size]?=some (.cells #[(),JEu] 31 (0,0))):=lh (by rw [<- hW];exact heap_alloc_new _ _);have hz:W2.heap.size<=v.heap.size:=o.size;have VK:Hid (W2.heap.size<=v.heap.size/\(v.heap.size<l2\/h2<=v.heap.size)):=lh ⟨hz,.inr Nh.2⟩;have OA:Hid (v.heap.size≠Rw):=lh (by have:=(Array.getElem?_eq_some_iff.1 Pk).1;omega);replace Pk:=lh (q.row Pk);replace HK:Hid (ah .i64 l2 h2 v' (.slice UK 64 UN) (am 128).pix):=lh (HK.only q Mg);replace Nh:Hid (W2.heap.size<=l2/\h2<=v'.heap.size):=lh ⟨Nh.1,Lz Nh.2 q.size⟩;replace Qy:Hid (ah .i64 0 v'.heap.size v' (.slice (some ⟨gb,0,none⟩) 64 VV) (am 7).pix):=lh ((Qy.quiet q).mono (Lm _) q.size);replace o:=lh (o.q q);clear hW q;generalize hb:v.heap.size=Ru at Og VK OA |-
 have Yy:Hid (W2.heap.size<=Ru):=lh (by rw [<- hb];exact hz);exact vT):p:=h
theorem Ch {p:Prop} (h:p:=by
 exact vR):p:=h
theorem Ci {p:Prop} (h:p:=by
 exact vS):p:=h
theorem Cj {p:Prop} (h:p:=by
 exact vT):p:=h
theorem Ck {p:Prop} (h:p:=by
 obtain ⟨v,rfl⟩:∃ z,z=v':=⟨_,rfl⟩
 refine hK.out _ _ ?_ (fun hHeld=>?_)
 ·exact fA
 clear hK K;refine rdy (rdc 1 34 (fun K hK=>?_) (rdc 9 10 (fun K hK=>?_) .nil))
 ·go_simp
  go_at_call 25;refine (UD.out _).mono ?_;rintro e v' ⟨gd,VW,rfl,Oc,hq⟩;have hP:ah .i64 0 v'.heap.size v' (.slice (some ⟨gd,0,none⟩) 64 VW) (am 200).pix:=Oc.ints.mono (Mc _) (Lm _);clear Oc;have q:ae [] v v':=by first | exact hq | exact ((ae.refl _ _).drew).q hq
  replace OM:=lh (q.row OM);replace OZ:Hid (ah .i64 0 v'.heap.size v' (.slice (some ⟨gc,0,none⟩) 64 Tf) (am 7).pix):=lh ((OZ.quiet q).mono (Lm _) q.size);have QP:=lh hP;replace o:=lh (o.q q);clear hq q hP;exact Ip
 ·go_simp
  generalize hW:World.alloc _ _=v';have q:ae [] v v':=by rw [<- hW];first | exact ae.new _ _ | exact ((ae.refl _ _).drew).q (ae.new _ _)
  have OG:Hid (v'.heap[v.heap.size]?=some (.cells #[(),(),JEu] 24 (0,0))):=lh (by rw [<- hW];exact heap_alloc_new _ _);have hz:W3.heap.size<=v.heap.size:=o.size;have NZ:Hid (QA≠v.heap.size):=lh (by have:=(Array.getElem?_eq_some_iff.1 OM).1;omega);replace OM:=lh (q.row OM);replace OZ:Hid (ah .i64 0 v'.heap.size v' (.slice (some ⟨gc,0,none⟩) 64 Tf) (am 7).pix):=lh ((OZ.quiet q).mono (Lm _) q.size);replace o:=lh (o.q q);clear hW q;generalize hb:v.heap.size=QB at OG NZ |-
  have VS:Hid (W3.heap.size<=QB):=lh (by rw [<- hb];exact hz);clear hb hz;exact vQ):p:=h
theorem Cl {p:Prop} (h:p:=by
 obtain ⟨v,rfl⟩:∃ z,z=v':=⟨_,rfl⟩
 refine hK.out _ _ ?_ (fun hHeld=>?_)
 ·exact fA
 clear hK K;refine rdy (rdc 1 34 (fun K hK=>?_) (rdc 8 9 (fun K hK=>?_) .nil))
 ·go_simp
  go_at_call 25;refine (UD.out _).mono ?_;rintro e v' ⟨gd,VW,rfl,Oc,hq⟩;have hP:ah .i64 0 v'.heap.size v' (.slice (some ⟨gd,0,none⟩) 64 VW) (am 200).pix:=Oc.ints.mono (Mc _) (Lm _);clear Oc;have q:ae [] v v':=by first | exact hq | exact ((ae.refl _ _).drew).q hq
  replace OG:=lh (q.row OG);replace OZ:Hid (ah .i64 0 v'.heap.size v' (.slice (some ⟨gc,0,none⟩) 64 Tf) (am 7).pix):=lh ((OZ.quiet q).mono (Lm _) q.size);have QP:=lh hP;replace o:=lh (o.q q);clear hq q hP;exact Cf
 ·go_simp
  generalize hW:World.alloc _ _=v';have q:ae [] v v':=by rw [<- hW];first | exact ae.new _ _ | exact ((ae.refl _ _).drew).q (ae.new _ _)
  have OM:Hid (v'.heap[v.heap.size]?=some (.cells #[(),JEu] 31 (0,0))):=lh (by rw [<- hW];exact heap_alloc_new _ _);have hz:W3.heap.size<=v.heap.size:=o.size;have NZ:Hid (v.heap.size≠QB):=lh (by have:=(Array.getElem?_eq_some_iff.1 OG).1;omega);replace OG:=lh (q.row OG);replace OZ:Hid (ah .i64 0 v'.heap.size v' (.slice (some ⟨gc,0,none⟩) 64 Tf) (am 7).pix):=lh ((OZ.quiet q).mono (Lm _) q.size);replace o:=lh (o.q q);clear hW q;generalize hb:v.heap.size=QA at OM NZ |-
  have VR:Hid (W3.heap.size<=QA):=lh (by rw [<- hb];exact hz);clear hb hz;exact vQ):p:=h
theorem Cm {p:Prop} (h:p:=by
 obtain ⟨v,rfl⟩:∃ z,z=v':=⟨_,rfl⟩
 refine hK.out _ _ ?_ (fun hHeld=>?_)
 ·exact gj
 clear hK K;refine rdy (rdc 2 19 (fun K hK=>?_) (rdc 8 3 (fun K hK=>?_) .nil))
 ·exact Jt
 ·go_simp
  generalize hW:World.alloc _ _=v';have q:ae [] v v':=by rw [<- hW];first | exact ae.new _ _ | exact ((ae.refl _ _).drew).q (ae.new _ _)
  have Pg:Hid (v'.heap[v.heap.size]?=some (.cells #[(),(),JEu] 24 (0,0))):=lh (by rw [<- hW];exact heap_alloc_new _ _);have hz:W1.heap.size<=v.heap.size:=o.size;have Oz:Hid (Rt≠v.heap.size):=lh (by have:=(Array.getElem?_eq_some_iff.1 PV).1;omega);replace PV:=lh (q.row PV);replace Qp:Hid (ah .i64 0 v'.heap.size v' (.slice (some ⟨ga,0,none⟩) 64 VU) (am 128).pix):=lh ((Qp.quiet q).mono (Lm _) q.size);replace o:=lh (o.q q);clear hW q;generalize hb:v.heap.size=Rv at Pg Oz |-
  have Yz:Hid (W1.heap.size<=Rv):=lh (by rw [<- hb];exact hz);clear hb hz;exact Au):p:=h
theorem Cn {p:Prop} (h:p:=by
 obtain ⟨v,rfl⟩:∃ z,z=v':=⟨_,rfl⟩
 refine hK.out _ _ ?_ (fun hHeld=>?_)
 ·exact gq
 clear hK K;refine rdy (rdc 3 28 (fun K hK=>?_) (rdc 9 7 (fun K hK=>?_) .nil))
 ·exact Ju
 ·go_simp
  generalize hW:World.alloc _ _=v';have q:ae [] v v':=by rw [<- hW];first | exact ae.new _ _ | exact ((ae.refl _ _).drew).q (ae.new _ _)
  have Pk:Hid (v'.heap[v.heap.size]?=some (.cells #[(),(),JEu] 24 (0,0))):=lh (by rw [<- hW];exact heap_alloc_new _ _);have hz:W2.heap.size<=v.heap.size:=o.size;have OA:Hid (Ru≠v.heap.size):=lh (by have:=(Array.getElem?_eq_some_iff.1 Og).1;omega);replace Og:=lh (q.row Og);replace Qy:Hid (ah .i64 0 v'.heap.size v' (.slice (some ⟨gb,0,none⟩) 64 VV) (am 7).pix):=lh ((Qy.quiet q).mono (Lm _) q.size);replace o:=lh (o.q q);clear hW q;generalize hb:v.heap.size=Rw at Pk OA |-
  have YA:Hid (W2.heap.size<=Rw):=lh (by rw [<- hb];exact hz);clear hb hz;exact Av):p:=h
theorem Co {p:Prop} (h:p:=by
 obtain ⟨v,rfl⟩:∃ z,z=v':=⟨_,rfl⟩
 refine hK.out _ _ ?_ (fun hHeld=>?_)
 ·exact gj
 clear hK K;refine rdy (rdc 2 19 (fun K hK=>?_) (rdc 7 2 (fun K hK=>?_) .nil))
 ·exact Jv
 ·go_simp
  generalize hW:World.alloc _ _=v';have q:ae [] v v':=by rw [<- hW];first | exact ae.new _ _ | exact ((ae.refl _ _).drew).q (ae.new _ _)
  have PV:Hid (v'.heap[v.heap.size]?=some (.cells #[(),JEu] 31 (0,0))):=lh (by rw [<- hW];exact heap_alloc_new _ _);have hz:W1.heap.size<=v.heap.size:=o.size;have Oz:Hid (v.heap.size≠Rv):=lh (by have:=(Array.getElem?_eq_some_iff.1 Pg).1;omega);replace Pg:=lh (q.row Pg);replace Qp:Hid (ah .i64 0 v'.heap.size v' (.slice (some ⟨ga,0,none⟩) 64 VU) (am 128).pix):=lh ((Qp.quiet q).mono (Lm _) q.size);replace o:=lh (o.q q);clear hW q;generalize hb:v.heap.size=Rt at PV Oz |-
  have Yx:Hid (W1.heap.size<=Rt):=lh (by rw [<- hb];exact hz);clear hb hz;exact Au):p:=h
theorem Cp {p:Prop} (h:p:=by
 obtain ⟨v,rfl⟩:∃ z,z=v':=⟨_,rfl⟩
 refine hK.out _ _ ?_ (fun hHeld=>?_)
 ·exact gq
 clear hK K;refine rdy (rdc 3 28 (fun K hK=>?_) (rdc 8 6 (fun K hK=>?_) .nil))
 ·exact Jw
 ·go_simp
  generalize hW:World.alloc _ _=v';have q:ae [] v v':=by rw [<- hW];first | exact ae.new _ _ | exact ((ae.refl _ _).drew).q (ae.new _ _)
  have Og:Hid (v'.heap[v.heap.size]?=some (.cells #[(),JEu] 31 (0,0))):=lh (by rw [<- hW];exact heap_alloc_new _ _);have hz:W2.heap.size<=v.heap.size:=o.size;have OA:Hid (v.heap.size≠Rw):=lh (by have:=(Array.getElem?_eq_some_iff.1 Pk).1;omega);replace Pk:=lh (q.row Pk);replace Qy:Hid (ah .i64 0 v'.heap.size v' (.slice (some ⟨gb,0,none⟩) 64 VV) (am 7).pix):=lh ((Qy.quiet q).mono (Lm _) q.size);replace o:=lh (o.q q);clear hW q;generalize hb:v.heap.size=Ru at Og OA |-
  have Yy:Hid (W2.heap.size<=Ru):=lh (by rw [<- hb];exact hz);clear hb hz;exact Av):p:=h
theorem Cq {p:Prop} (h:p:=by
 clear hb hz;obtain ⟨v,rfl⟩:∃ z,z=v':=⟨_,rfl⟩
 refine hK.out _ _ ?_ (fun hHeld=>?_)
 ·exact gj
 clear hK K;refine rdy (rdc 0 17 (fun K hK=>?_) .nil);go_simp;go_at_call 25;refine (Tz.out _).mono ?_;rintro e v' ⟨ga,VU,rfl,Oc,hq⟩;have hP:ah .i64 0 v'.heap.size v' (.slice (some ⟨ga,0,none⟩) 64 VU) (am 128).pix:=Oc.ints.mono (Mc _) (Lm _);clear Oc;have q:ae [] v v':=by first | exact hq | exact ((ae.refl _ _).drew).q hq
 replace PV:=lh (q.row PV);replace Pg:=lh (q.row Pg);have Qp:=lh hP;replace o:=lh (o.q q);clear hq q hP;exact Au):p:=h
theorem Cr {p:Prop} (h:p:=by
 clear hb hz;obtain ⟨v,rfl⟩:∃ z,z=v':=⟨_,rfl⟩
 refine hK.out _ _ ?_ (fun hHeld=>?_)
 ·exact fA
 clear hK K;refine rdy (rdc 0 33 (fun K hK=>?_) .nil);go_simp;go_at_call 25;refine (Yf.out _).mono ?_;rintro e v' ⟨gc,Tf,rfl,Oc,hq⟩;have hP:ah .i64 0 v'.heap.size v' (.slice (some ⟨gc,0,none⟩) 64 Tf) (am 7).pix:=Oc.ints.mono (Mc _) (Lm _);clear Oc;have q:ae [] v v':=by first | exact hq | exact ((ae.refl _ _).drew).q hq
 replace OM:=lh (q.row OM);replace OG:=lh (q.row OG);have OZ:=lh hP;replace o:=lh (o.q q);clear hq q hP;exact vQ):p:=h
theorem Cs {p:Prop} (h:p:=by
 clear hb hz;obtain ⟨v,rfl⟩:∃ z,z=v':=⟨_,rfl⟩
 refine hK.out _ _ ?_ (fun hHeld=>?_)
 ·exact gq
 clear hK K;refine rdy (rdc 0 25 (fun K hK=>?_) .nil);go_simp;go_at_call 25;refine (Yf.out _).mono ?_;rintro e v' ⟨gb,VV,rfl,Oc,hq⟩;have hP:ah .i64 0 v'.heap.size v' (.slice (some ⟨gb,0,none⟩) 64 VV) (am 7).pix:=Oc.ints.mono (Mc _) (Lm _);clear Oc;have q:ae [] v v':=by first | exact hq | exact ((ae.refl _ _).drew).q hq
 replace Og:=lh (q.row Og);replace Pk:=lh (q.row Pk);have Qy:=lh hP;replace o:=lh (o.q q);clear hq q hP;exact Av):p:=h
theorem tC (w:World) (hE:kJ w) :
  Calls Tryz.prog 6 #[] w fun e w'=>e=.returned (.bool true)/\ae [] w w':=by
 refine aN fun Q MM=>?_
 have HE:=lh hE;clear hE;have WN:=lh (fun (v:Int) (W:World) (l h l' h':Nat) (pv pu:Value) (h1:ah .i64 l h W pv (am v).pix) (h2:ah .i64 l' h' W pu (am v).pix)=>iN (A:=am v) (B:=am v) h1 h2);have HEq:Hid (∀ v:Int,oX (am v) (am v)=true):=lh (fun v=>by unfold oX;simp [eqB]);have Tz:=lh (fun W:World=>pg 128 W (show (-9223372036854775808:Int)<=128/\(128:Int)<=9223372036854775807 by decide));have Yf:=lh (fun W:World=>pg 7 W (show (-9223372036854775808:Int)<=7/\(7:Int)<=9223372036854775807 by decide));have UD:=lh (fun W:World=>pg 200 W (show (-9223372036854775808:Int)<=200/\(200:Int)<=9223372036854775807 by decide));have Tq:=lh (fun (W:World) (sv:Value) (h:ah .i64 0 W.heap.size W sv (am 128).pix)=>Dh h (Lm _));have Qu:=lh (fun (W:World) (sv:Value) (h:ah .i64 0 W.heap.size W sv (am 7).pix)=>Ff h (Lm _));have RV:=lh (fun (W:World) (sv pv:Value) (h:ah .i64 0 W.heap.size W sv (am 7).pix) (g:ah .i64 0 W.heap.size W pv (am 200).pix)=>Fh h g (Lm _) (Lm _));unfold uS Cfg.v at Qu RV;have MT:=lh (ae.new w (.cells #[(),(),JEu] 24));have Nq:=lh (heap_alloc_new w (.cells #[(),(),JEu] 24));go_enter Tryz.func6,Tryz.ntmps6;go_upto_region 2 with (fail)
 generalize NB:World.alloc w _=W1 at *
 clear NB;have NT:Hid (∀ wx:World,ae [] W1 wx->wx.heap[w.heap.size]?=some (.cells #[(),(),JEu] 24 (0,0))):=lh (fun wx o=>o.row Nq);go_cut [2,3,4] (fun sC1 sE1 s4 wx=>∃ (Rt:Nat) (Rv:Nat) (l1:Nat) (h1:Nat) (da1:Option Addr) (dn1:Nat) (dc1:Nat) (UJ:Option Addr) (UM:Nat),sC1=.pointer (some ⟨Rt,0,none⟩)/\sE1=.pointer (some ⟨Rv,0,none⟩)/\s4=.nilIface/\Hid (ae [] W1 wx)/\Hid (wx.heap[Rt]?=some (.cells #[.int .i64 1,.slice da1 dn1 dc1] 31 (0,0)))/\Hid (wx.heap[Rv]?=some (.cells #[.int .i64 8,.int .i64 8,.slice UJ 64 UM] 24 (0,0)))/\Hid (W1.heap.size<=l1/\h1<=wx.heap.size)/\Hid (ah .i64 l1 h1 wx (.slice UJ 64 UM) (am 128).pix)/\Hid (W1.heap.size<=Rt/\(Rt<l1\/h1<=Rt))/\Hid (W1.heap.size<=Rv/\(Rv<l1\/h1<=Rv)))
 case first =>
  have o:=lh (ae.refl [] W1);refine wp_region_held_drew (S:=(fun wz=>wz.heap[w.heap.size]?=some (.cells #[(),(),JEu] 24 (0,0)))) Mh ?_ (fun hHeld=>?_)
  ·first | exact NT.out _ (ae.refl _ _) | exact NT.out _ (ae.refl _ _).drew
  refine tkw 1 18 ⟨rfl,dD⟩ ?_;refine rdy (rdc 0 17 (fun K hK=>?_) (rdc 7 2 (fun K hK=>?_) (rdc 8 3 (fun K hK=>?_) .nil)))
  ·go_simp
   go_at_call 25;refine (Tz.out _).mono ?_;rintro e v' ⟨ga,VU,rfl,Oc,hq⟩;have hP:ah .i64 0 v'.heap.size v' (.slice (some ⟨ga,0,none⟩) 64 VU) (am 128).pix:=Oc.ints.mono (Mc _) (Lm _);clear Oc;have q:ae [] W1 v':=by first | exact hq | exact ((ae.refl _ _).drew).q hq
   have Qp:=lh hP;replace o:=lh (o.q q);clear hq q hP;obtain ⟨v,rfl⟩:∃ z,z=v':=⟨_,rfl⟩
   refine hK.out _ _ ?_ (fun hHeld=>?_)
   ·exact gj
   clear hK K;refine rdy (rdc 2 19 (fun K hK=>?_) (rdc 7 2 (fun K hK=>?_) (rdc 8 3 (fun K hK=>?_) .nil)))
   ·go_simp
    go_at_call 9;refine (Tq.out _ _ (by first | exact Qp | exact Qp.quiet (ae.refl _ _).drew)).mono ?_;rintro e v' ⟨da1,dn1,dc1,UJ,UM,rfl,RM,hq⟩;obtain ⟨l1,Pf⟩:∃ z,z=v.heap.size:=⟨_,rfl⟩
    obtain ⟨h1,Rb⟩:∃ z,z=v'.heap.size:=⟨_,rfl⟩
    have PE:ah .i64 l1 h1 v' (.slice UJ 64 UM) (am 128).pix:=by rw [Pf,Rb];exact RM
    have Ry:v.heap.size<=l1:=Mf;have PF:h1<=v'.heap.size:=Mf;clear RM Pf Rb;have q:ae [] v v':=by first | exact hq | exact ((ae.refl _ _).drew).q hq
    have Pp:W1.heap.size<=v.heap.size:=o.size;replace Qp:Hid (ah .i64 0 v'.heap.size v' (.slice (some ⟨ga,0,none⟩) 64 VU) (am 128).pix):=lh ((Qp.quiet q).mono (Lm _) q.size);have HK:=lh PE;have Nh:Hid (W1.heap.size<=l1/\h1<=v'.heap.size):=lh ⟨Mf,PF⟩;replace o:=lh (o.q q);clear hq q PE Ry PF Pp;obtain ⟨v,rfl⟩:∃ z,z=v':=⟨_,rfl⟩
    refine hK.out _ _ ?_ (fun hHeld=>?_)
    ·exact gj
    clear hK K;refine tkw 3 16 ⟨rfl,dD⟩ ?_;refine tkw 4 20 ⟨rfl,dD⟩ ?_;refine tkw 5 21 ⟨rfl,dD⟩ ?_;refine tkw 6 22 ⟨rfl,dD⟩ ?_;refine rdy (rdc 7 2 (fun K hK=>?_) (rdc 8 3 (fun K hK=>?_) .nil))
    ·go_simp
     generalize hW:World.alloc _ _=v';have q:ae [] v v':=by rw [<- hW];first | exact ae.new _ _ | exact ((ae.refl _ _).drew).q (ae.new _ _)
     have PV:Hid (v'.heap[v.heap.size]?=some (.cells #[(),JEu] 31 (0,0))):=lh (by rw [<- hW];exact heap_alloc_new _ _);have hz:W1.heap.size<=v.heap.size:=o.size;have VJ:Hid (W1.heap.size<=v.heap.size/\(v.heap.size<l1\/h1<=v.heap.size)):=lh ⟨hz,.inr Nh.2⟩;replace HK:Hid (ah .i64 l1 h1 v' (.slice UJ 64 UM) (am 128).pix):=lh (HK.only q Mg);replace Nh:Hid (W1.heap.size<=l1/\h1<=v'.heap.size):=lh ⟨Nh.1,Lz Nh.2 q.size⟩;replace Qp:Hid (ah .i64 0 v'.heap.size v' (.slice (some ⟨ga,0,none⟩) 64 VU) (am 128).pix):=lh ((Qp.quiet q).mono (Lm _) q.size);replace o:=lh (o.q q);clear hW q;generalize hb:v.heap.size=Rt at PV VJ |-
     have Yx:Hid (W1.heap.size<=Rt):=lh (by rw [<- hb];exact hz);clear hb hz;obtain ⟨v,rfl⟩:∃ z,z=v':=⟨_,rfl⟩
     refine hK.out _ _ ?_ (fun hHeld=>?_)
     ·exact gj
     clear hK K;refine rdy (rdc 8 3 (fun K hK=>?_) .nil);go_simp;generalize hW:World.alloc _ _=v';have q:ae [] v v':=by rw [<- hW];first | exact ae.new _ _ | exact ((ae.refl _ _).drew).q (ae.new _ _)
     have Pg:Hid (v'.heap[v.heap.size]?=some (.cells #[(),(),JEu] 24 (0,0))):=lh (by rw [<- hW];exact heap_alloc_new _ _);have hz:W1.heap.size<=v.heap.size:=o.size;have VN:Hid (W1.heap.size<=v.heap.size/\(v.heap.size<l1\/h1<=v.heap.size)):=lh ⟨hz,.inr Nh.2⟩;have Oz:Hid (Rt≠v.heap.size):=lh (by have:=(Array.getElem?_eq_some_iff.1 PV).1;omega);replace PV:=lh (q.row PV);replace HK:Hid (ah .i64 l1 h1 v' (.slice UJ 64 UM) (am 128).pix):=lh (HK.only q Mg);replace Nh:Hid (W1.heap.size<=l1/\h1<=v'.heap.size):=lh ⟨Nh.1,Lz Nh.2 q.size⟩;replace Qp:Hid (ah .i64 0 v'.heap.size v' (.slice (some ⟨ga,0,none⟩) 64 VU) (am 128).pix):=lh ((Qp.quiet q).mono (Lm _) q.size);replace o:=lh (o.q q);clear hW q;generalize hb:v.heap.size=Rv at Pg VN Oz |-
     have Yz:Hid (W1.heap.size<=Rv):=lh (by rw [<- hb];exact hz);exact Ci
    ·go_simp
     generalize hW:World.alloc _ _=v';have q:ae [] v v':=by rw [<- hW];first | exact ae.new _ _ | exact ((ae.refl _ _).drew).q (ae.new _ _)
     have Pg:Hid (v'.heap[v.heap.size]?=some (.cells #[(),(),JEu] 24 (0,0))):=lh (by rw [<- hW];exact heap_alloc_new _ _);have hz:W1.heap.size<=v.heap.size:=o.size;have VN:Hid (W1.heap.size<=v.heap.size/\(v.heap.size<l1\/h1<=v.heap.size)):=lh ⟨hz,.inr Nh.2⟩;replace HK:Hid (ah .i64 l1 h1 v' (.slice UJ 64 UM) (am 128).pix):=lh (HK.only q Mg);replace Nh:Hid (W1.heap.size<=l1/\h1<=v'.heap.size):=lh ⟨Nh.1,Lz Nh.2 q.size⟩;replace Qp:Hid (ah .i64 0 v'.heap.size v' (.slice (some ⟨ga,0,none⟩) 64 VU) (am 128).pix):=lh ((Qp.quiet q).mono (Lm _) q.size);replace o:=lh (o.q q);clear hW q;generalize hb:v.heap.size=Rv at Pg VN |-
     have Yz:Hid (W1.heap.size<=Rv):=lh (by rw [<- hb];exact hz);clear hb hz;obtain ⟨v,rfl⟩:∃ z,z=v':=⟨_,rfl⟩
     refine hK.out _ _ ?_ (fun hHeld=>?_)
     ·exact gj
     clear hK K;refine rdy (rdc 7 2 (fun K hK=>?_) .nil);go_simp;generalize hW:World.alloc _ _=v';have q:ae [] v v':=by rw [<- hW];first | exact ae.new _ _ | exact ((ae.refl _ _).drew).q (ae.new _ _)
     have PV:Hid (v'.heap[v.heap.size]?=some (.cells #[(),JEu] 31 (0,0))):=lh (by rw [<- hW];exact heap_alloc_new _ _);have hz:W1.heap.size<=v.heap.size:=o.size;have VJ:Hid (W1.heap.size<=v.heap.size/\(v.heap.size<l1\/h1<=v.heap.size)):=lh ⟨hz,.inr Nh.2⟩;have Oz:Hid (v.heap.size≠Rv):=lh (by have:=(Array.getElem?_eq_some_iff.1 Pg).1;omega);replace Pg:=lh (q.row Pg);replace HK:Hid (ah .i64 l1 h1 v' (.slice UJ 64 UM) (am 128).pix):=lh (HK.only q Mg);replace Nh:Hid (W1.heap.size<=l1/\h1<=v'.heap.size):=lh ⟨Nh.1,Lz Nh.2 q.size⟩;replace Qp:Hid (ah .i64 0 v'.heap.size v' (.slice (some ⟨ga,0,none⟩) 64 VU) (am 128).pix):=lh ((Qp.quiet q).mono (Lm _) q.size);replace o:=lh (o.q q);clear hW q;generalize hb:v.heap.size=Rt at PV VJ Oz |-
     have Yx:Hid (W1.heap.size<=Rt):=lh (by rw [<- hb];exact hz);exact Ci
   ·go_simp
    generalize hW:World.alloc _ _=v';have q:ae [] v v':=by rw [<- hW];first | exact ae.new _ _ | exact ((ae.refl _ _).drew).q (ae.new _ _)
    have PV:Hid (v'.heap[v.heap.size]?=some (.cells #[(),JEu] 31 (0,0))):=lh (by rw [<- hW];exact heap_alloc_new _ _);have hz:W1.heap.size<=v.heap.size:=o.size;replace Qp:Hid (ah .i64 0 v'.heap.size v' (.slice (some ⟨ga,0,none⟩) 64 VU) (am 128).pix):=lh ((Qp.quiet q).mono (Lm _) q.size);replace o:=lh (o.q q);clear hW q;generalize hb:v.heap.size=Rt at PV |-
    have Yx:Hid (W1.heap.size<=Rt):=lh (by rw [<- hb];exact hz);clear hb hz;exact Cm
   ·go_simp
    generalize hW:World.alloc _ _=v';have q:ae [] v v':=by rw [<- hW];first | exact ae.new _ _ | exact ((ae.refl _ _).drew).q (ae.new _ _)
    have Pg:Hid (v'.heap[v.heap.size]?=some (.cells #[(),(),JEu] 24 (0,0))):=lh (by rw [<- hW];exact heap_alloc_new _ _);have hz:W1.heap.size<=v.heap.size:=o.size;replace Qp:Hid (ah .i64 0 v'.heap.size v' (.slice (some ⟨ga,0,none⟩) 64 VU) (am 128).pix):=lh ((Qp.quiet q).mono (Lm _) q.size);replace o:=lh (o.q q);clear hW q;generalize hb:v.heap.size=Rv at Pg |-
    have Yz:Hid (W1.heap.size<=Rv):=lh (by rw [<- hb];exact hz);clear hb hz;exact Co
  ·go_simp
   generalize hW:World.alloc _ _=v';have q:ae [] W1 v':=by rw [<- hW];first | exact ae.new _ _ | exact ((ae.refl _ _).drew).q (ae.new _ _)
   have PV:Hid (v'.heap[W1.heap.size]?=some (.cells #[(),JEu] 31 (0,0))):=lh (by rw [<- hW];exact heap_alloc_new _ _);have hz:W1.heap.size<=W1.heap.size:=o.size;replace o:=lh (o.q q);clear hW q;generalize hb:W1.heap.size=Rt at PV |-
   have Yx:Hid (W1.heap.size<=Rt):=lh (by rw [<- hb];exact hz);clear hb hz;obtain ⟨v,rfl⟩:∃ z,z=v':=⟨_,rfl⟩
   refine hK.out _ _ ?_ (fun hHeld=>?_)
   ·exact gj
   clear hK K;refine rdy (rdc 0 17 (fun K hK=>?_) (rdc 8 3 (fun K hK=>?_) .nil))
   ·go_simp
    go_at_call 25;refine (Tz.out _).mono ?_;rintro e v' ⟨ga,VU,rfl,Oc,hq⟩;have hP:ah .i64 0 v'.heap.size v' (.slice (some ⟨ga,0,none⟩) 64 VU) (am 128).pix:=Oc.ints.mono (Mc _) (Lm _);clear Oc;have q:ae [] v v':=by first | exact hq | exact ((ae.refl _ _).drew).q hq
    replace PV:=lh (q.row PV);have Qp:=lh hP;replace o:=lh (o.q q);clear hq q hP;exact Cm
   ·go_simp
    generalize hW:World.alloc _ _=v';have q:ae [] v v':=by rw [<- hW];first | exact ae.new _ _ | exact ((ae.refl _ _).drew).q (ae.new _ _)
    have Pg:Hid (v'.heap[v.heap.size]?=some (.cells #[(),(),JEu] 24 (0,0))):=lh (by rw [<- hW];exact heap_alloc_new _ _);have hz:W1.heap.size<=v.heap.size:=o.size;have Oz:Hid (Rt≠v.heap.size):=lh (by have:=(Array.getElem?_eq_some_iff.1 PV).1;omega);replace PV:=lh (q.row PV);replace o:=lh (o.q q);clear hW q;generalize hb:v.heap.size=Rv at Pg Oz |-
    have Yz:Hid (W1.heap.size<=Rv):=lh (by rw [<- hb];exact hz);exact Cq
  ·go_simp
   generalize hW:World.alloc _ _=v';have q:ae [] W1 v':=by rw [<- hW];first | exact ae.new _ _ | exact ((ae.refl _ _).drew).q (ae.new _ _)
   have Pg:Hid (v'.heap[W1.heap.size]?=some (.cells #[(),(),JEu] 24 (0,0))):=lh (by rw [<- hW];exact heap_alloc_new _ _);have hz:W1.heap.size<=W1.heap.size:=o.size;replace o:=lh (o.q q);clear hW q;generalize hb:W1.heap.size=Rv at Pg |-
   have Yz:Hid (W1.heap.size<=Rv):=lh (by rw [<- hb];exact hz);clear hb hz;obtain ⟨v,rfl⟩:∃ z,z=v':=⟨_,rfl⟩
   refine hK.out _ _ ?_ (fun hHeld=>?_)
   ·exact gj
   clear hK K;refine rdy (rdc 0 17 (fun K hK=>?_) (rdc 7 2 (fun K hK=>?_) .nil))
   ·go_simp
    go_at_call 25;refine (Tz.out _).mono ?_;rintro e v' ⟨ga,VU,rfl,Oc,hq⟩;have hP:ah .i64 0 v'.heap.size v' (.slice (some ⟨ga,0,none⟩) 64 VU) (am 128).pix:=Oc.ints.mono (Mc _) (Lm _);clear Oc;have q:ae [] v v':=by first | exact hq | exact ((ae.refl _ _).drew).q hq
    replace Pg:=lh (q.row Pg);have Qp:=lh hP;replace o:=lh (o.q q);clear hq q hP;exact Co
   ·go_simp
    generalize hW:World.alloc _ _=v';have q:ae [] v v':=by rw [<- hW];first | exact ae.new _ _ | exact ((ae.refl _ _).drew).q (ae.new _ _)
    have PV:Hid (v'.heap[v.heap.size]?=some (.cells #[(),JEu] 31 (0,0))):=lh (by rw [<- hW];exact heap_alloc_new _ _);have hz:W1.heap.size<=v.heap.size:=o.size;have Oz:Hid (v.heap.size≠Rv):=lh (by have:=(Array.getElem?_eq_some_iff.1 Pg).1;omega);replace Pg:=lh (q.row Pg);replace o:=lh (o.q q);clear hW q;generalize hb:v.heap.size=Rt at PV Oz |-
    have Yx:Hid (W1.heap.size<=Rt):=lh (by rw [<- hb];exact hz);exact Cq
 case rest =>
  obtain ⟨Rt,Rv,l1,h1,da1,dn1,dc1,UJ,UM,rfl,rfl,rfl,Oy,PV,Xu,PU,HK1,-,-⟩:=hcut;have SJ:=lh (Oy.row Nq);have Nf:=lh (MT.q Oy);have MW:=lh (ae.new wc (.cells #[(),.int .i64 3,(),(),.int .i64 1,.int .i64 8,.int .i64 8,.int .i64 8] 47));have Rp:=lh (heap_alloc_new wc (.cells #[(),.int .i64 3,(),(),.int .i64 1,.int .i64 8,.int .i64 8,.int .i64 8] 47));go_upto_region 4 with (fail)
  generalize Tg:World.alloc wc _=W2 at *
  clear Tg;obtain ⟨bk,hbk⟩:∃ z,z=wc.heap.size:=⟨_,rfl⟩
  rw [<- hbk] at Rp |-
  have JyL:=lh (MW.out);have OH:Hid (∀ wx:World,ae [] W2 wx->wx.heap[w.heap.size]?=some (.cells #[(),(),JEu] 24 (0,0))/\wx.heap[bk]?=some (.cells #[(),.int .i64 3,(),(),.int .i64 1,.int .i64 8,.int .i64 8,.int .i64 8] 47 (0,0))):=lh (fun wx o=>⟨o.row (MW.row SJ),o.row Rp.out⟩);clear hbk;go_cut [6,7,8] (fun sC2 sE2 s8 wx=>∃ (Ru:Nat) (Rw:Nat) (l2:Nat) (h2:Nat) (da2:Option Addr) (dn2:Nat) (dc2:Nat) (UK:Option Addr) (UN:Nat),sC2=.pointer (some ⟨Ru,0,none⟩)/\sE2=.pointer (some ⟨Rw,0,none⟩)/\s8=.nilIface/\Hid (ae [] W2 wx)/\Hid (wx.heap[Ru]?=some (.cells #[.int .i64 4,.slice da2 dn2 dc2] 31 (0,0)))/\Hid (wx.heap[Rw]?=some (.cells #[.int .i64 8,.int .i64 8,.slice UK 64 UN] 24 (0,0)))/\Hid (W2.heap.size<=l2/\h2<=wx.heap.size)/\Hid (ah .i64 l2 h2 wx (.slice UK 64 UN) (am 128).pix)/\Hid (W2.heap.size<=Ru/\(Ru<l2\/h2<=Ru))/\Hid (W2.heap.size<=Rw/\(Rw<l2\/h2<=Rw)))
  case first =>
   have o:=lh (ae.refl [] W2);refine wp_region_held_drew (S:=(fun wz=>wz.heap[w.heap.size]?=some (.cells #[(),(),JEu] 24 (0,0))/\wz.heap[bk]?=some (.cells #[(),.int .i64 3,(),(),.int .i64 1,.int .i64 8,.int .i64 8,.int .i64 8] 47 (0,0)))) Mh ?_ (fun hHeld=>?_)
   ·first | exact OH.out _ (ae.refl _ _) | exact OH.out _ (ae.refl _ _).drew
   refine tkw 1 26 ⟨rfl,dr⟩ ?_;refine tkw 2 27 ⟨rfl,dr⟩ ?_;refine rdy (rdc 0 25 (fun K hK=>?_) (rdc 8 6 (fun K hK=>?_) (rdc 9 7 (fun K hK=>?_) .nil)))
   ·go_simp
    go_at_call 25;refine (Yf.out _).mono ?_;rintro e v' ⟨gb,VV,rfl,Oc,hq⟩;have hP:ah .i64 0 v'.heap.size v' (.slice (some ⟨gb,0,none⟩) 64 VV) (am 7).pix:=Oc.ints.mono (Mc _) (Lm _);clear Oc;have q:ae [] W2 v':=by first | exact hq | exact ((ae.refl _ _).drew).q hq
    have Qy:=lh hP;replace o:=lh (o.q q);clear hq q hP;obtain ⟨v,rfl⟩:∃ z,z=v':=⟨_,rfl⟩
    refine hK.out _ _ ?_ (fun hHeld=>?_)
    ·exact gq
    clear hK K;refine rdy (rdc 3 28 (fun K hK=>?_) (rdc 8 6 (fun K hK=>?_) (rdc 9 7 (fun K hK=>?_) .nil)))
    ·go_simp
     go_at_call 16;refine (Qu.out _ _ (by first | exact Qy | exact Qy.quiet (ae.refl _ _).drew)).mono ?_;rintro e v' ⟨da2,dn2,dc2,UK,UN,rfl,RM,hq⟩;obtain ⟨l2,Pf⟩:∃ z,z=v.heap.size:=⟨_,rfl⟩
     obtain ⟨h2,Rb⟩:∃ z,z=v'.heap.size:=⟨_,rfl⟩
     have PE:ah .i64 l2 h2 v' (.slice UK 64 UN) (am 128).pix:=by rw [Pf,Rb];exact RM
     have Ry:v.heap.size<=l2:=Mf;have PF:h2<=v'.heap.size:=Mf;clear RM Pf Rb;have q:ae [] v v':=by first | exact hq | exact ((ae.refl _ _).drew).q hq
     have Pp:W2.heap.size<=v.heap.size:=o.size;replace Qy:Hid (ah .i64 0 v'.heap.size v' (.slice (some ⟨gb,0,none⟩) 64 VV) (am 7).pix):=lh ((Qy.quiet q).mono (Lm _) q.size);have HK:=lh PE;have Nh:Hid (W2.heap.size<=l2/\h2<=v'.heap.size):=lh ⟨Mf,PF⟩;replace o:=lh (o.q q);clear hq q PE Ry PF Pp;obtain ⟨v,rfl⟩:∃ z,z=v':=⟨_,rfl⟩
     refine hK.out _ _ ?_ (fun hHeld=>?_)
     ·exact gq
     clear hK K;refine tkw 4 24 ⟨rfl,dr⟩ ?_;refine tkw 5 29 ⟨rfl,dr⟩ ?_;refine tkw 6 30 ⟨rfl,dr⟩ ?_;refine tkw 7 31 ⟨rfl,dr⟩ ?_;refine rdy (rdc 8 6 (fun K hK=>?_) (rdc 9 7 (fun K hK=>?_) .nil))
     ·go_simp
      generalize hW:World.alloc _ _=v';have q:ae [] v v':=by rw [<- hW];first | exact ae.new _ _ | exact ((ae.refl _ _).drew).q (ae.new _ _)
      have Og:Hid (v'.heap[v.heap.size]?=some (.cells #[(),JEu] 31 (0,0))):=lh (by rw [<- hW];exact heap_alloc_new _ _);have hz:W2.heap.size<=v.heap.size:=o.size;have VK:Hid (W2.heap.size<=v.heap.size/\(v.heap.size<l2\/h2<=v.heap.size)):=lh ⟨hz,.inr Nh.2⟩;replace HK:Hid (ah .i64 l2 h2 v' (.slice UK 64 UN) (am 128).pix):=lh (HK.only q Mg);replace Nh:Hid (W2.heap.size<=l2/\h2<=v'.heap.size):=lh ⟨Nh.1,Lz Nh.2 q.size⟩;replace Qy:Hid (ah .i64 0 v'.heap.size v' (.slice (some ⟨gb,0,none⟩) 64 VV) (am 7).pix):=lh ((Qy.quiet q).mono (Lm _) q.size);replace o:=lh (o.q q);clear hW q;generalize hb:v.heap.size=Ru at Og VK |-
      have Yy:Hid (W2.heap.size<=Ru):=lh (by rw [<- hb];exact hz);clear hb hz;obtain ⟨v,rfl⟩:∃ z,z=v':=⟨_,rfl⟩
      refine hK.out _ _ ?_ (fun hHeld=>?_)
      ·exact gq
      clear hK K;refine rdy (rdc 9 7 (fun K hK=>?_) .nil);go_simp;generalize hW:World.alloc _ _=v';have q:ae [] v v':=by rw [<- hW];first | exact ae.new _ _ | exact ((ae.refl _ _).drew).q (ae.new _ _)
      have Pk:Hid (v'.heap[v.heap.size]?=some (.cells #[(),(),JEu] 24 (0,0))):=lh (by rw [<- hW];exact heap_alloc_new _ _);have hz:W2.heap.size<=v.heap.size:=o.size;have VO:Hid (W2.heap.size<=v.heap.size/\(v.heap.size<l2\/h2<=v.heap.size)):=lh ⟨hz,.inr Nh.2⟩;have OA:Hid (Ru≠v.heap.size):=lh (by have:=(Array.getElem?_eq_some_iff.1 Og).1;omega);replace Og:=lh (q.row Og);replace HK:Hid (ah .i64 l2 h2 v' (.slice UK 64 UN) (am 128).pix):=lh (HK.only q Mg);replace Nh:Hid (W2.heap.size<=l2/\h2<=v'.heap.size):=lh ⟨Nh.1,Lz Nh.2 q.size⟩;replace Qy:Hid (ah .i64 0 v'.heap.size v' (.slice (some ⟨gb,0,none⟩) 64 VV) (am 7).pix):=lh ((Qy.quiet q).mono (Lm _) q.size);replace o:=lh (o.q q);clear hW q;generalize hb:v.heap.size=Rw at Pk VO OA |-
      have YA:Hid (W2.heap.size<=Rw):=lh (by rw [<- hb];exact hz);exact Cj
     ·go_simp
      generalize hW:World.alloc _ _=v';have q:ae [] v v':=by rw [<- hW];first | exact ae.new _ _ | exact ((ae.refl _ _).drew).q (ae.new _ _)
      have Pk:Hid (v'.heap[v.heap.size]?=some (.cells #[(),(),JEu] 24 (0,0))):=lh (by rw [<- hW];exact heap_alloc_new _ _);have hz:W2.heap.size<=v.heap.size:=o.size;have VO:Hid (W2.heap.size<=v.heap.size/\(v.heap.size<l2\/h2<=v.heap.size)):=lh ⟨hz,.inr Nh.2⟩;replace HK:Hid (ah .i64 l2 h2 v' (.slice UK 64 UN) (am 128).pix):=lh (HK.only q Mg);replace Nh:Hid (W2.heap.size<=l2/\h2<=v'.heap.size):=lh ⟨Nh.1,Lz Nh.2 q.size⟩;replace Qy:Hid (ah .i64 0 v'.heap.size v' (.slice (some ⟨gb,0,none⟩) 64 VV) (am 7).pix):=lh ((Qy.quiet q).mono (Lm _) q.size);replace o:=lh (o.q q);clear hW q;generalize hb:v.heap.size=Rw at Pk VO |-
      have YA:Hid (W2.heap.size<=Rw):=lh (by rw [<- hb];exact hz);clear hb hz;obtain ⟨v,rfl⟩:∃ z,z=v':=⟨_,rfl⟩
      refine hK.out _ _ ?_ (fun hHeld=>?_)
      ·exact gq
      clear hK K;refine rdy (rdc 8 6 (fun K hK=>?_) .nil);go_simp;generalize hW:World.alloc _ _=v';have q:ae [] v v':=by rw [<- hW];first | exact ae.new _ _ | exact ((ae.refl _ _).drew).q (ae.new _ _)
      have Og:Hid (v'.heap[v.heap.size]?=some (.cells #[(),JEu] 31 (0,0))):=lh (by rw [<- hW];exact heap_alloc_new _ _);have hz:W2.heap.size<=v.heap.size:=o.size;have VK:Hid (W2.heap.size<=v.heap.size/\(v.heap.size<l2\/h2<=v.heap.size)):=lh ⟨hz,.inr Nh.2⟩;have OA:Hid (v.heap.size≠Rw):=lh (by have:=(Array.getElem?_eq_some_iff.1 Pk).1;omega);replace Pk:=lh (q.row Pk);replace HK:Hid (ah .i64 l2 h2 v' (.slice UK 64 UN) (am 128).pix):=lh (HK.only q Mg);replace Nh:Hid (W2.heap.size<=l2/\h2<=v'.heap.size):=lh ⟨Nh.1,Lz Nh.2 q.size⟩;replace Qy:Hid (ah .i64 0 v'.heap.size v' (.slice (some ⟨gb,0,none⟩) 64 VV) (am 7).pix):=lh ((Qy.quiet q).mono (Lm _) q.size);replace o:=lh (o.q q);clear hW q;generalize hb:v.heap.size=Ru at Og VK OA |-
      have Yy:Hid (W2.heap.size<=Ru):=lh (by rw [<- hb];exact hz);exact Cj
    ·go_simp
     generalize hW:World.alloc _ _=v';have q:ae [] v v':=by rw [<- hW];first | exact ae.new _ _ | exact ((ae.refl _ _).drew).q (ae.new _ _)
     have Og:Hid (v'.heap[v.heap.size]?=some (.cells #[(),JEu] 31 (0,0))):=lh (by rw [<- hW];exact heap_alloc_new _ _);have hz:W2.heap.size<=v.heap.size:=o.size;replace Qy:Hid (ah .i64 0 v'.heap.size v' (.slice (some ⟨gb,0,none⟩) 64 VV) (am 7).pix):=lh ((Qy.quiet q).mono (Lm _) q.size);replace o:=lh (o.q q);clear hW q;generalize hb:v.heap.size=Ru at Og |-
     have Yy:Hid (W2.heap.size<=Ru):=lh (by rw [<- hb];exact hz);clear hb hz;exact Cn
    ·go_simp
     generalize hW:World.alloc _ _=v';have q:ae [] v v':=by rw [<- hW];first | exact ae.new _ _ | exact ((ae.refl _ _).drew).q (ae.new _ _)
     have Pk:Hid (v'.heap[v.heap.size]?=some (.cells #[(),(),JEu] 24 (0,0))):=lh (by rw [<- hW];exact heap_alloc_new _ _);have hz:W2.heap.size<=v.heap.size:=o.size;replace Qy:Hid (ah .i64 0 v'.heap.size v' (.slice (some ⟨gb,0,none⟩) 64 VV) (am 7).pix):=lh ((Qy.quiet q).mono (Lm _) q.size);replace o:=lh (o.q q);clear hW q;generalize hb:v.heap.size=Rw at Pk |-
     have YA:Hid (W2.heap.size<=Rw):=lh (by rw [<- hb];exact hz);clear hb hz;exact Cp
   ·go_simp
    generalize hW:World.alloc _ _=v';have q:ae [] W2 v':=by rw [<- hW];first | exact ae.new _ _ | exact ((ae.refl _ _).drew).q (ae.new _ _)
    have Og:Hid (v'.heap[W2.heap.size]?=some (.cells #[(),JEu] 31 (0,0))):=lh (by rw [<- hW];exact heap_alloc_new _ _);have hz:W2.heap.size<=W2.heap.size:=o.size;replace o:=lh (o.q q);clear hW q;generalize hb:W2.heap.size=Ru at Og |-
    have Yy:Hid (W2.heap.size<=Ru):=lh (by rw [<- hb];exact hz);clear hb hz;obtain ⟨v,rfl⟩:∃ z,z=v':=⟨_,rfl⟩
    refine hK.out _ _ ?_ (fun hHeld=>?_)
    ·exact gq
    clear hK K;refine rdy (rdc 0 25 (fun K hK=>?_) (rdc 9 7 (fun K hK=>?_) .nil))
    ·go_simp
     go_at_call 25;refine (Yf.out _).mono ?_;rintro e v' ⟨gb,VV,rfl,Oc,hq⟩;have hP:ah .i64 0 v'.heap.size v' (.slice (some ⟨gb,0,none⟩) 64 VV) (am 7).pix:=Oc.ints.mono (Mc _) (Lm _);clear Oc;have q:ae [] v v':=by first | exact hq | exact ((ae.refl _ _).drew).q hq
     replace Og:=lh (q.row Og);have Qy:=lh hP;replace o:=lh (o.q q);clear hq q hP;exact Cn
    ·go_simp
     generalize hW:World.alloc _ _=v';have q:ae [] v v':=by rw [<- hW];first | exact ae.new _ _ | exact ((ae.refl _ _).drew).q (ae.new _ _)
     have Pk:Hid (v'.heap[v.heap.size]?=some (.cells #[(),(),JEu] 24 (0,0))):=lh (by rw [<- hW];exact heap_alloc_new _ _);have hz:W2.heap.size<=v.heap.size:=o.size;have OA:Hid (Ru≠v.heap.size):=lh (by have:=(Array.getElem?_eq_some_iff.1 Og).1;omega);replace Og:=lh (q.row Og);replace o:=lh (o.q q);clear hW q;generalize hb:v.heap.size=Rw at Pk OA |-
     have YA:Hid (W2.heap.size<=Rw):=lh (by rw [<- hb];exact hz);exact Cs
   ·go_simp
    generalize hW:World.alloc _ _=v';have q:ae [] W2 v':=by rw [<- hW];first | exact ae.new _ _ | exact ((ae.refl _ _).drew).q (ae.new _ _)
    have Pk:Hid (v'.heap[W2.heap.size]?=some (.cells #[(),(),JEu] 24 (0,0))):=lh (by rw [<- hW];exact heap_alloc_new _ _);have hz:W2.heap.size<=W2.heap.size:=o.size;replace o:=lh (o.q q);clear hW q;generalize hb:W2.heap.size=Rw at Pk |-
    have YA:Hid (W2.heap.size<=Rw):=lh (by rw [<- hb];exact hz);clear hb hz;obtain ⟨v,rfl⟩:∃ z,z=v':=⟨_,rfl⟩
    refine hK.out _ _ ?_ (fun hHeld=>?_)
    ·exact gq
    clear hK K;refine rdy (rdc 0 25 (fun K hK=>?_) (rdc 8 6 (fun K hK=>?_) .nil))
    ·go_simp
     go_at_call 25;refine (Yf.out _).mono ?_;rintro e v' ⟨gb,VV,rfl,Oc,hq⟩;have hP:ah .i64 0 v'.heap.size v' (.slice (some ⟨gb,0,none⟩) 64 VV) (am 7).pix:=Oc.ints.mono (Mc _) (Lm _);clear Oc;have q:ae [] v v':=by first | exact hq | exact ((ae.refl _ _).drew).q hq
     replace Pk:=lh (q.row Pk);have Qy:=lh hP;replace o:=lh (o.q q);clear hq q hP;exact Cp
    ·go_simp
     generalize hW:World.alloc _ _=v';have q:ae [] v v':=by rw [<- hW];first | exact ae.new _ _ | exact ((ae.refl _ _).drew).q (ae.new _ _)
     have Og:Hid (v'.heap[v.heap.size]?=some (.cells #[(),JEu] 31 (0,0))):=lh (by rw [<- hW];exact heap_alloc_new _ _);have hz:W2.heap.size<=v.heap.size:=o.size;have OA:Hid (v.heap.size≠Rw):=lh (by have:=(Array.getElem?_eq_some_iff.1 Pk).1;omega);replace Pk:=lh (q.row Pk);replace o:=lh (o.q q);clear hW q;generalize hb:v.heap.size=Ru at Og OA |-
     have Yy:Hid (W2.heap.size<=Ru):=lh (by rw [<- hb];exact hz);exact Cs
  case rest =>
   obtain ⟨Ru,Rw,l2,h2,da2,dn2,dc2,UK,UN,rfl,rfl,rfl,Sb,Og,HF2,Oj,HK2,-,-⟩:=hcut;obtain ⟨W3,PZ⟩:∃ z,z=wc:=⟨_,rfl⟩
   subst PZ;have Yo:Hid (∀ wx:World,ae [] W3 wx->wx.heap[bk]?=some (.cells #[(),.int .i64 3,(),(),.int .i64 1,.int .i64 8,.int .i64 8,.int .i64 8] 47 (0,0))):=lh (fun wx o=>(Sb.q o).row Rp);go_upto_region 5 with (fail)
   go_cut [9,10,11] (fun sC3 sE3 Za wx=>∃ (QA:Nat) (QB:Nat) (l3:Nat) (h3:Nat) (da3:Option Addr) (dn3:Nat) (dc3:Nat) (UL:Option Addr) (UO:Nat),sC3=.pointer (some ⟨QA,0,none⟩)/\sE3=.pointer (some ⟨QB,0,none⟩)/\Za=.nilIface/\Hid (ae [] W3 wx)/\Hid (wx.heap[QA]?=some (.cells #[.int .i64 3,.slice da3 dn3 dc3] 31 (0,0)))/\Hid (wx.heap[QB]?=some (.cells #[.int .i64 8,.int .i64 8,.slice UL 64 UO] 24 (0,0)))/\Hid (W3.heap.size<=l3/\h3<=wx.heap.size)/\Hid (ah .i64 l3 h3 wx (.slice UL 64 UO) (am 200).pix)/\Hid (W3.heap.size<=QA/\(QA<l3\/h3<=QA))/\Hid (W3.heap.size<=QB/\(QB<l3\/h3<=QB)))
   case first =>
    have o:=lh (ae.refl [] W3);refine wp_region_held_drew (S:=(fun wz=>wz.heap[bk]?=some (.cells #[(),.int .i64 3,(),(),.int .i64 1,.int .i64 8,.int .i64 8,.int .i64 8] 47 (0,0)))) Mh ?_ (fun hHeld=>?_)
    ·first | exact Yo.out _ (ae.refl _ _) | exact Yo.out _ (ae.refl _ _).drew
    refine tkw 2 35 ⟨rfl,dE⟩ ?_;refine rdy (rdc 0 33 (fun K hK=>?_) (rdc 8 9 (fun K hK=>?_) (rdc 9 10 (fun K hK=>?_) .nil)))
    ·go_simp
     go_at_call 25;refine (Yf.out _).mono ?_;rintro e v' ⟨gc,Tf,rfl,Oc,hq⟩;have hP:ah .i64 0 v'.heap.size v' (.slice (some ⟨gc,0,none⟩) 64 Tf) (am 7).pix:=Oc.ints.mono (Mc _) (Lm _);clear Oc;have q:ae [] W3 v':=by first | exact hq | exact ((ae.refl _ _).drew).q hq
     have OZ:=lh hP;replace o:=lh (o.q q);clear hq q hP;obtain ⟨v,rfl⟩:∃ z,z=v':=⟨_,rfl⟩
     refine hK.out _ _ ?_ (fun hHeld=>?_)
     ·exact fA
     clear hK K;refine rdy (rdc 1 34 (fun K hK=>?_) (rdc 8 9 (fun K hK=>?_) (rdc 9 10 (fun K hK=>?_) .nil)))
     ·go_simp
      go_at_call 25;refine (UD.out _).mono ?_;rintro e v' ⟨gd,VW,rfl,Oc,hq⟩;have hP:ah .i64 0 v'.heap.size v' (.slice (some ⟨gd,0,none⟩) 64 VW) (am 200).pix:=Oc.ints.mono (Mc _) (Lm _);clear Oc;have q:ae [] v v':=by first | exact hq | exact ((ae.refl _ _).drew).q hq
      replace OZ:Hid (ah .i64 0 v'.heap.size v' (.slice (some ⟨gc,0,none⟩) 64 Tf) (am 7).pix):=lh ((OZ.quiet q).mono (Lm _) q.size);have QP:=lh hP;replace o:=lh (o.q q);clear hq q hP;obtain ⟨v,rfl⟩:∃ z,z=v':=⟨_,rfl⟩
      refine hK.out _ _ ?_ (fun hHeld=>?_)
      ·exact fA
      clear hK K;refine rdy (rdc 3 36 (fun K hK=>?_) (rdc 8 9 (fun K hK=>?_) (rdc 9 10 (fun K hK=>?_) .nil)))
      ·go_simp
       go_at_call 16;refine (RV.out _ _ _ (by first | exact OZ | exact OZ.quiet (ae.refl _ _).drew) (by first | exact QP | exact QP.quiet (ae.refl _ _).drew)).mono ?_;rintro e v' ⟨da3,dn3,dc3,UL,UO,rfl,RM,hq⟩;obtain ⟨l3,Pf⟩:∃ z,z=v.heap.size:=⟨_,rfl⟩
       obtain ⟨h3,Rb⟩:∃ z,z=v'.heap.size:=⟨_,rfl⟩
       have PE:ah .i64 l3 h3 v' (.slice UL 64 UO) (am 200).pix:=by rw [Pf,Rb];exact RM
       have Ry:v.heap.size<=l3:=Mf;have PF:h3<=v'.heap.size:=Mf;clear RM Pf Rb;have q:ae [] v v':=by first | exact hq | exact ((ae.refl _ _).drew).q hq
       have Pp:W3.heap.size<=v.heap.size:=o.size;replace OZ:Hid (ah .i64 0 v'.heap.size v' (.slice (some ⟨gc,0,none⟩) 64 Tf) (am 7).pix):=lh ((OZ.quiet q).mono (Lm _) q.size);replace QP:Hid (ah .i64 0 v'.heap.size v' (.slice (some ⟨gd,0,none⟩) 64 VW) (am 200).pix):=lh ((QP.quiet q).mono (Lm _) q.size);have HK:=lh PE;have Nh:Hid (W3.heap.size<=l3/\h3<=v'.heap.size):=lh ⟨Mf,PF⟩;replace o:=lh (o.q q);clear hq q PE Ry PF Pp;obtain ⟨v,rfl⟩:∃ z,z=v':=⟨_,rfl⟩
       refine hK.out _ _ ?_ (fun hHeld=>?_)
       ·exact fA
       clear hK K;refine tkw 4 32 ⟨rfl,dE⟩ ?_;refine tkw 5 37 ⟨rfl,dE⟩ ?_;refine tkw 6 38 ⟨rfl,dE⟩ ?_;refine tkw 7 39 ⟨rfl,dE⟩ ?_;refine rdy (rdc 8 9 (fun K hK=>?_) (rdc 9 10 (fun K hK=>?_) .nil))
       ·go_simp
        generalize hW:World.alloc _ _=v';have q:ae [] v v':=by rw [<- hW];first | exact ae.new _ _ | exact ((ae.refl _ _).drew).q (ae.new _ _)
        have OM:Hid (v'.heap[v.heap.size]?=some (.cells #[(),JEu] 31 (0,0))):=lh (by rw [<- hW];exact heap_alloc_new _ _);have hz:W3.heap.size<=v.heap.size:=o.size;have VL:Hid (W3.heap.size<=v.heap.size/\(v.heap.size<l3\/h3<=v.heap.size)):=lh ⟨hz,.inr Nh.2⟩;replace HK:Hid (ah .i64 l3 h3 v' (.slice UL 64 UO) (am 200).pix):=lh (HK.only q Mg);replace Nh:Hid (W3.heap.size<=l3/\h3<=v'.heap.size):=lh ⟨Nh.1,Lz Nh.2 q.size⟩;replace OZ:Hid (ah .i64 0 v'.heap.size v' (.slice (some ⟨gc,0,none⟩) 64 Tf) (am 7).pix):=lh ((OZ.quiet q).mono (Lm _) q.size);replace QP:Hid (ah .i64 0 v'.heap.size v' (.slice (some ⟨gd,0,none⟩) 64 VW) (am 200).pix):=lh ((QP.quiet q).mono (Lm _) q.size);replace o:=lh (o.q q);clear hW q;generalize hb:v.heap.size=QA at OM VL |-
        have VR:Hid (W3.heap.size<=QA):=lh (by rw [<- hb];exact hz);clear hb hz;obtain ⟨v,rfl⟩:∃ z,z=v':=⟨_,rfl⟩
        refine hK.out _ _ ?_ (fun hHeld=>?_)
        ·exact fA
        clear hK K;refine rdy (rdc 9 10 (fun K hK=>?_) .nil);go_simp;generalize hW:World.alloc _ _=v';have q:ae [] v v':=by rw [<- hW];first | exact ae.new _ _ | exact ((ae.refl _ _).drew).q (ae.new _ _)
        have OG:Hid (v'.heap[v.heap.size]?=some (.cells #[(),(),JEu] 24 (0,0))):=lh (by rw [<- hW];exact heap_alloc_new _ _);have hz:W3.heap.size<=v.heap.size:=o.size;have VP:Hid (W3.heap.size<=v.heap.size/\(v.heap.size<l3\/h3<=v.heap.size)):=lh ⟨hz,.inr Nh.2⟩;have NZ:Hid (QA≠v.heap.size):=lh (by have:=(Array.getElem?_eq_some_iff.1 OM).1;omega);replace OM:=lh (q.row OM);replace HK:Hid (ah .i64 l3 h3 v' (.slice UL 64 UO) (am 200).pix):=lh (HK.only q Mg);replace Nh:Hid (W3.heap.size<=l3/\h3<=v'.heap.size):=lh ⟨Nh.1,Lz Nh.2 q.size⟩;replace OZ:Hid (ah .i64 0 v'.heap.size v' (.slice (some ⟨gc,0,none⟩) 64 Tf) (am 7).pix):=lh ((OZ.quiet q).mono (Lm _) q.size);replace QP:Hid (ah .i64 0 v'.heap.size v' (.slice (some ⟨gd,0,none⟩) 64 VW) (am 200).pix):=lh ((QP.quiet q).mono (Lm _) q.size);replace o:=lh (o.q q);clear hW q;generalize hb:v.heap.size=QB at OG VP NZ |-
        have VS:Hid (W3.heap.size<=QB):=lh (by rw [<- hb];exact hz);exact Ch
       ·go_simp
        generalize hW:World.alloc _ _=v';have q:ae [] v v':=by rw [<- hW];first | exact ae.new _ _ | exact ((ae.refl _ _).drew).q (ae.new _ _)
        have OG:Hid (v'.heap[v.heap.size]?=some (.cells #[(),(),JEu] 24 (0,0))):=lh (by rw [<- hW];exact heap_alloc_new _ _);have hz:W3.heap.size<=v.heap.size:=o.size;have VP:Hid (W3.heap.size<=v.heap.size/\(v.heap.size<l3\/h3<=v.heap.size)):=lh ⟨hz,.inr Nh.2⟩;replace HK:Hid (ah .i64 l3 h3 v' (.slice UL 64 UO) (am 200).pix):=lh (HK.only q Mg);replace Nh:Hid (W3.heap.size<=l3/\h3<=v'.heap.size):=lh ⟨Nh.1,Lz Nh.2 q.size⟩;replace OZ:Hid (ah .i64 0 v'.heap.size v' (.slice (some ⟨gc,0,none⟩) 64 Tf) (am 7).pix):=lh ((OZ.quiet q).mono (Lm _) q.size);replace QP:Hid (ah .i64 0 v'.heap.size v' (.slice (some ⟨gd,0,none⟩) 64 VW) (am 200).pix):=lh ((QP.quiet q).mono (Lm _) q.size);replace o:=lh (o.q q);clear hW q;generalize hb:v.heap.size=QB at OG VP |-
        have VS:Hid (W3.heap.size<=QB):=lh (by rw [<- hb];exact hz);clear hb hz;obtain ⟨v,rfl⟩:∃ z,z=v':=⟨_,rfl⟩
        refine hK.out _ _ ?_ (fun hHeld=>?_)
        ·exact fA
        clear hK K;refine rdy (rdc 8 9 (fun K hK=>?_) .nil);go_simp;generalize hW:World.alloc _ _=v';have q:ae [] v v':=by rw [<- hW];first | exact ae.new _ _ | exact ((ae.refl _ _).drew).q (ae.new _ _)
        have OM:Hid (v'.heap[v.heap.size]?=some (.cells #[(),JEu] 31 (0,0))):=lh (by rw [<- hW];exact heap_alloc_new _ _);have hz:W3.heap.size<=v.heap.size:=o.size;have VL:Hid (W3.heap.size<=v.heap.size/\(v.heap.size<l3\/h3<=v.heap.size)):=lh ⟨hz,.inr Nh.2⟩;have NZ:Hid (v.heap.size≠QB):=lh (by have:=(Array.getElem?_eq_some_iff.1 OG).1;omega);replace OG:=lh (q.row OG);replace HK:Hid (ah .i64 l3 h3 v' (.slice UL 64 UO) (am 200).pix):=lh (HK.only q Mg);replace Nh:Hid (W3.heap.size<=l3/\h3<=v'.heap.size):=lh ⟨Nh.1,Lz Nh.2 q.size⟩;replace OZ:Hid (ah .i64 0 v'.heap.size v' (.slice (some ⟨gc,0,none⟩) 64 Tf) (am 7).pix):=lh ((OZ.quiet q).mono (Lm _) q.size);replace QP:Hid (ah .i64 0 v'.heap.size v' (.slice (some ⟨gd,0,none⟩) 64 VW) (am 200).pix):=lh ((QP.quiet q).mono (Lm _) q.size);replace o:=lh (o.q q);clear hW q;generalize hb:v.heap.size=QA at OM VL NZ |-
        have VR:Hid (W3.heap.size<=QA):=lh (by rw [<- hb];exact hz);exact Ch
      ·go_simp
       generalize hW:World.alloc _ _=v';have q:ae [] v v':=by rw [<- hW];first | exact ae.new _ _ | exact ((ae.refl _ _).drew).q (ae.new _ _)
       have OM:Hid (v'.heap[v.heap.size]?=some (.cells #[(),JEu] 31 (0,0))):=lh (by rw [<- hW];exact heap_alloc_new _ _);have hz:W3.heap.size<=v.heap.size:=o.size;replace OZ:Hid (ah .i64 0 v'.heap.size v' (.slice (some ⟨gc,0,none⟩) 64 Tf) (am 7).pix):=lh ((OZ.quiet q).mono (Lm _) q.size);replace QP:Hid (ah .i64 0 v'.heap.size v' (.slice (some ⟨gd,0,none⟩) 64 VW) (am 200).pix):=lh ((QP.quiet q).mono (Lm _) q.size);replace o:=lh (o.q q);clear hW q;generalize hb:v.heap.size=QA at OM |-
       have VR:Hid (W3.heap.size<=QA):=lh (by rw [<- hb];exact hz);clear hb hz;exact Ip
      ·go_simp
       generalize hW:World.alloc _ _=v';have q:ae [] v v':=by rw [<- hW];first | exact ae.new _ _ | exact ((ae.refl _ _).drew).q (ae.new _ _)
       have OG:Hid (v'.heap[v.heap.size]?=some (.cells #[(),(),JEu] 24 (0,0))):=lh (by rw [<- hW];exact heap_alloc_new _ _);have hz:W3.heap.size<=v.heap.size:=o.size;replace OZ:Hid (ah .i64 0 v'.heap.size v' (.slice (some ⟨gc,0,none⟩) 64 Tf) (am 7).pix):=lh ((OZ.quiet q).mono (Lm _) q.size);replace QP:Hid (ah .i64 0 v'.heap.size v' (.slice (some ⟨gd,0,none⟩) 64 VW) (am 200).pix):=lh ((QP.quiet q).mono (Lm _) q.size);replace o:=lh (o.q q);clear hW q;generalize hb:v.heap.size=QB at OG |-
       have VS:Hid (W3.heap.size<=QB):=lh (by rw [<- hb];exact hz);clear hb hz;exact Cf
     ·go_simp
      generalize hW:World.alloc _ _=v';have q:ae [] v v':=by rw [<- hW];first | exact ae.new _ _ | exact ((ae.refl _ _).drew).q (ae.new _ _)
      have OM:Hid (v'.heap[v.heap.size]?=some (.cells #[(),JEu] 31 (0,0))):=lh (by rw [<- hW];exact heap_alloc_new _ _);have hz:W3.heap.size<=v.heap.size:=o.size;replace OZ:Hid (ah .i64 0 v'.heap.size v' (.slice (some ⟨gc,0,none⟩) 64 Tf) (am 7).pix):=lh ((OZ.quiet q).mono (Lm _) q.size);replace o:=lh (o.q q);clear hW q;generalize hb:v.heap.size=QA at OM |-
      have VR:Hid (W3.heap.size<=QA):=lh (by rw [<- hb];exact hz);clear hb hz;exact Ck
     ·go_simp
      generalize hW:World.alloc _ _=v';have q:ae [] v v':=by rw [<- hW];first | exact ae.new _ _ | exact ((ae.refl _ _).drew).q (ae.new _ _)
      have OG:Hid (v'.heap[v.heap.size]?=some (.cells #[(),(),JEu] 24 (0,0))):=lh (by rw [<- hW];exact heap_alloc_new _ _);have hz:W3.heap.size<=v.heap.size:=o.size;replace OZ:Hid (ah .i64 0 v'.heap.size v' (.slice (some ⟨gc,0,none⟩) 64 Tf) (am 7).pix):=lh ((OZ.quiet q).mono (Lm _) q.size);replace o:=lh (o.q q);clear hW q;generalize hb:v.heap.size=QB at OG |-
      have VS:Hid (W3.heap.size<=QB):=lh (by rw [<- hb];exact hz);clear hb hz;exact Cl
    ·go_simp
     generalize hW:World.alloc _ _=v';have q:ae [] W3 v':=by rw [<- hW];first | exact ae.new _ _ | exact ((ae.refl _ _).drew).q (ae.new _ _)
     have OM:Hid (v'.heap[W3.heap.size]?=some (.cells #[(),JEu] 31 (0,0))):=lh (by rw [<- hW];exact heap_alloc_new _ _);have hz:W3.heap.size<=W3.heap.size:=o.size;replace o:=lh (o.q q);clear hW q;generalize hb:W3.heap.size=QA at OM |-
     have VR:Hid (W3.heap.size<=QA):=lh (by rw [<- hb];exact hz);clear hb hz;obtain ⟨v,rfl⟩:∃ z,z=v':=⟨_,rfl⟩
     refine hK.out _ _ ?_ (fun hHeld=>?_)
     ·exact fA
     clear hK K;refine rdy (rdc 0 33 (fun K hK=>?_) (rdc 9 10 (fun K hK=>?_) .nil))
     ·go_simp
      go_at_call 25;refine (Yf.out _).mono ?_;rintro e v' ⟨gc,Tf,rfl,Oc,hq⟩;have hP:ah .i64 0 v'.heap.size v' (.slice (some ⟨gc,0,none⟩) 64 Tf) (am 7).pix:=Oc.ints.mono (Mc _) (Lm _);clear Oc;have q:ae [] v v':=by first | exact hq | exact ((ae.refl _ _).drew).q hq
      replace OM:=lh (q.row OM);have OZ:=lh hP;replace o:=lh (o.q q);clear hq q hP;exact Ck
     ·go_simp
      generalize hW:World.alloc _ _=v';have q:ae [] v v':=by rw [<- hW];first | exact ae.new _ _ | exact ((ae.refl _ _).drew).q (ae.new _ _)
      have OG:Hid (v'.heap[v.heap.size]?=some (.cells #[(),(),JEu] 24 (0,0))):=lh (by rw [<- hW];exact heap_alloc_new _ _);have hz:W3.heap.size<=v.heap.size:=o.size;have NZ:Hid (QA≠v.heap.size):=lh (by have:=(Array.getElem?_eq_some_iff.1 OM).1;omega);replace OM:=lh (q.row OM);replace o:=lh (o.q q);clear hW q;generalize hb:v.heap.size=QB at OG NZ |-
      have VS:Hid (W3.heap.size<=QB):=lh (by rw [<- hb];exact hz);exact Cr
    ·go_simp
     generalize hW:World.alloc _ _=v';have q:ae [] W3 v':=by rw [<- hW];first | exact ae.new _ _ | exact ((ae.refl _ _).drew).q (ae.new _ _)
     have OG:Hid (v'.heap[W3.heap.size]?=some (.cells #[(),(),JEu] 24 (0,0))):=lh (by rw [<- hW];exact heap_alloc_new _ _);have hz:W3.heap.size<=W3.heap.size:=o.size;replace o:=lh (o.q q);clear hW q;generalize hb:W3.heap.size=QB at OG |-
     have VS:Hid (W3.heap.size<=QB):=lh (by rw [<- hb];exact hz);clear hb hz;obtain ⟨v,rfl⟩:∃ z,z=v':=⟨_,rfl⟩
     refine hK.out _ _ ?_ (fun hHeld=>?_)
     ·exact fA
     clear hK K;refine rdy (rdc 0 33 (fun K hK=>?_) (rdc 8 9 (fun K hK=>?_) .nil))
     ·go_simp
      go_at_call 25;refine (Yf.out _).mono ?_;rintro e v' ⟨gc,Tf,rfl,Oc,hq⟩;have hP:ah .i64 0 v'.heap.size v' (.slice (some ⟨gc,0,none⟩) 64 Tf) (am 7).pix:=Oc.ints.mono (Mc _) (Lm _);clear Oc;have q:ae [] v v':=by first | exact hq | exact ((ae.refl _ _).drew).q hq
      replace OG:=lh (q.row OG);have OZ:=lh hP;replace o:=lh (o.q q);clear hq q hP;exact Cl
     ·go_simp
      generalize hW:World.alloc _ _=v';have q:ae [] v v':=by rw [<- hW];first | exact ae.new _ _ | exact ((ae.refl _ _).drew).q (ae.new _ _)
      have OM:Hid (v'.heap[v.heap.size]?=some (.cells #[(),JEu] 31 (0,0))):=lh (by rw [<- hW];exact heap_alloc_new _ _);have hz:W3.heap.size<=v.heap.size:=o.size;have NZ:Hid (v.heap.size≠QB):=lh (by have:=(Array.getElem?_eq_some_iff.1 OG).1;omega);replace OG:=lh (q.row OG);replace o:=lh (o.q q);clear hW q;generalize hb:v.heap.size=QA at OM NZ |-
      have VR:Hid (W3.heap.size<=QA):=lh (by rw [<- hb];exact hz);exact Cr
   case rest =>
    obtain ⟨QA,QB,l3,h3,da3,dn3,dc3,UL,UO,rfl,rfl,rfl,Ql,OM,HF3,Ss,HK3,-,-⟩:=hcut;have HA:=lh (Sb.q Ql);have HAA:=lh (MW.q HA);obtain ⟨p0,p1,p2⟩:=ag (HAA.row SJ);go_wp2_with fail;clear p0 p1 p2;go_at_call 9;refine (Fg).mono ?_;rintro e w6 ⟨rfl,Ob⟩;have OI:=lh Ob;have Oh:=lh ((ae.new w6 (.cells #[(),JEu] 31)).alloc (.cells #[(),(),JEu] 24));clear Ob;go_upto_region 7 with (fail)
    generalize hW7:World.alloc (World.alloc w6 _) _=W7 at *
    clear hW7;have HB7:=lh (OI.q Oh);have HA7:=lh (HA.q HB7);have SP:=lh (Ql.q HB7);have Jfe:=lh (HAA.q HB7);have Vn:=lh (Nf.q Jfe);have HS7:Hid (∀ wx:World,ae [] W7 wx->wx.heap[Rt]?=some (.cells #[.int .i64 1,.slice da1 dn1 dc1] 31 (0,0))/\wx.heap[Rv]?=some (.cells #[.int .i64 8,.int .i64 8,.slice UJ 64 UM] 24 (0,0))/\wx.heap[Ru]?=some (.cells #[.int .i64 4,.slice da2 dn2 dc2] 31 (0,0))/\wx.heap[Rw]?=some (.cells #[.int .i64 8,.int .i64 8,.slice UK 64 UN] 24 (0,0))/\wx.heap[QA]?=some (.cells #[.int .i64 3,.slice da3 dn3 dc3] 31 (0,0))/\wx.heap[QB]?=some (.cells #[.int .i64 8,.int .i64 8,.slice UL 64 UO] 24 (0,0))):=lh (fun wx o=>⟨(Jfe.q o).row PV,(Jfe.q o).row Xu.out,(SP.q o).row Og.out,(SP.q o).row HF2.out,(HB7.q o).row OM.out,(HB7.q o).row HF3.out⟩);have HI1:=lh (fun (W:World) (o:ae [] W7 W)=>HK1.quiet (Jfe.q o));have HI2:=lh (fun (W:World) (o:ae [] W7 W)=>HK2.quiet (SP.q o));have HI3:=lh (fun (W:World) (o:ae [] W7 W)=>HK3.quiet (HB7.q o));have HSm:=lh (fun (W:World) (o:ae [] W7 W)=>rY (v:=.iface 36 (.int .i64 2)) (sv:=.slice none 0 0) (o:=some ⟨[],2⟩) (c:=2) (p:=[]) (w:=W) (lo:=0) (hi:=0) (lo':=0) (hi':=0) (gN.code 0 0 W 2) (Mc _) (HE.quiet (Vn.q o)) Mg (cT.nil _ _ _ _) rfl rfl rfl);have x0:=lh (ae.refl [] W7);refine wp_region_held_drew (S:=(fun wz=>wz.heap[Rt]?=some (.cells #[.int .i64 1,.slice da1 dn1 dc1] 31 (0,0))/\wz.heap[Rv]?=some (.cells #[.int .i64 8,.int .i64 8,.slice UJ 64 UM] 24 (0,0))/\wz.heap[Ru]?=some (.cells #[.int .i64 4,.slice da2 dn2 dc2] 31 (0,0))/\wz.heap[Rw]?=some (.cells #[.int .i64 8,.int .i64 8,.slice UK 64 UN] 24 (0,0))/\wz.heap[QA]?=some (.cells #[.int .i64 3,.slice da3 dn3 dc3] 31 (0,0))/\wz.heap[QB]?=some (.cells #[.int .i64 8,.int .i64 8,.slice UL 64 UO] 24 (0,0)))) Mh ?_ (fun hHeld=>?_)
    ·exact HS7 _ (by first | exact x0 | exact x0.drew)
    refine tkw 0 47 ⟨rfl,bz⟩ ?_;refine tkw 1 48 ⟨rfl,bz⟩ ?_;refine tkw 2 49 ⟨rfl,bz⟩ ?_;refine tkw 3 50 ⟨rfl,bz⟩ ?_;refine tkw 4 51 ⟨rfl,bz⟩ ?_;refine tkw 5 52 ⟨rfl,bz⟩ ?_;refine tkw 6 53 ⟨rfl,bz⟩ ?_;refine tkw 7 54 ⟨rfl,bz⟩ ?_;refine tkw 8 55 ⟨rfl,bz⟩ ?_;refine tkw 9 56 ⟨rfl,bz⟩ ?_;refine tkw 10 57 ⟨rfl,bz⟩ ?_;refine tkw 11 58 ⟨rfl,bz⟩ ?_;refine tkw 12 59 ⟨rfl,bz⟩ ?_;refine tkw 13 60 ⟨rfl,bz⟩ ?_;refine tkw 14 61 ⟨rfl,bz⟩ ?_;refine tkw 15 62 ⟨rfl,bz⟩ ?_;refine tkw 16 63 ⟨rfl,bz⟩ ?_;refine rdy (rdc 17 64 (fun K hK=>?_) .nil);go_simp;go_at_call 25;refine (Tz.out _).mono ?_;rintro e y1 ⟨g1,c1x,rfl,ho,hq⟩;have HP1:=lh ho.ints;clear ho;have x1:Hid (ae [] W7 y1):=lh (by first | exact x0.q hq | exact x0.drew.q hq);clear hq;refine hK.out _ _ ?_ (fun hHeld=>?_)
    ·exact HS7 _ (by first | exact x1 | exact x1.drew)
    clear hK K
    try simp only [Act.put,Lg,Lj,Lk]
    refine rdy (rdc 18 65 (fun K hK=>?_) .nil);go_simp;go_at_call 12;refine (WN.out 128 _ _ _ _ _ _ _ (HI1.out _ (by first | exact x1 | exact x1.drew)) (by first | exact HP1 | exact HP1.quiet (ae.refl _ _).drew)).mono ?_;rintro e y2 ⟨rfl,hq⟩;rw [HEq.out 128];have x2:Hid (ae [] W7 y2):=lh (by first | exact x1.q hq | exact x1.drew.q hq);clear hq;refine hK.out _ _ ?_ (fun hHeld=>?_)
    ·exact HS7 _ (by first | exact x2 | exact x2.drew)
    clear hK K
    try simp only [Act.put,Lg,Lj,Lk]
    refine tkw 19 66 ⟨rfl,bz⟩ ?_;refine tkw 20 67 ⟨rfl,bz⟩ ?_;refine tkw 21 68 ⟨rfl,bz⟩ ?_;refine tkw 22 69 ⟨rfl,bz⟩ ?_;refine tkw 23 70 ⟨rfl,bz⟩ ?_;refine tkw 24 71 ⟨rfl,bz⟩ ?_;refine tkw 25 72 ⟨rfl,bz⟩ ?_;refine tkw 26 73 ⟨rfl,bz⟩ ?_;refine rdy (rdc 27 74 (fun K hK=>?_) .nil);go_simp;go_at_call 25;refine (Tz.out _).mono ?_;rintro e y3 ⟨g3,c3x,rfl,ho,hq⟩;have Us:=lh ho.ints;clear ho;have x3:Hid (ae [] W7 y3):=lh (by first | exact x2.q hq | exact x2.drew.q hq);clear hq;refine hK.out _ _ ?_ (fun hHeld=>?_)
    ·exact HS7 _ (by first | exact x3 | exact x3.drew)
    clear hK K
    try simp only [Act.put,Lg,Lj,Lk]
    refine rdy (rdc 28 75 (fun K hK=>?_) .nil);go_simp;go_at_call 12;refine (WN.out 128 _ _ _ _ _ _ _ (HI2.out _ (by first | exact x3 | exact x3.drew)) (by first | exact Us | exact Us.quiet (ae.refl _ _).drew)).mono ?_;rintro e y4 ⟨rfl,hq⟩;rw [HEq.out 128];have x4:Hid (ae [] W7 y4):=lh (by first | exact x3.q hq | exact x3.drew.q hq);clear hq;refine hK.out _ _ ?_ (fun hHeld=>?_)
    ·exact HS7 _ (by first | exact x4 | exact x4.drew)
    clear hK K
    try simp only [Act.put,Lg,Lj,Lk]
    refine tkw 29 76 ⟨rfl,bz⟩ ?_;refine tkw 30 77 ⟨rfl,bz⟩ ?_;refine tkw 31 78 ⟨rfl,bz⟩ ?_;refine tkw 32 79 ⟨rfl,bz⟩ ?_;refine tkw 33 80 ⟨rfl,bz⟩ ?_;refine tkw 34 81 ⟨rfl,bz⟩ ?_;refine tkw 35 82 ⟨rfl,bz⟩ ?_;refine tkw 36 83 ⟨rfl,bz⟩ ?_;refine rdy (rdc 37 84 (fun K hK=>?_) .nil);go_simp;go_at_call 25;refine (UD.out _).mono ?_;rintro e y5 ⟨g5,c5x,rfl,ho,hq⟩;have Xw:=lh ho.ints;clear ho;have x5:Hid (ae [] W7 y5):=lh (by first | exact x4.q hq | exact x4.drew.q hq);clear hq;refine hK.out _ _ ?_ (fun hHeld=>?_)
    ·exact HS7 _ (by first | exact x5 | exact x5.drew)
    clear hK K
    try simp only [Act.put,Lg,Lj,Lk]
    refine rdy (rdc 38 85 (fun K hK=>?_) .nil);go_simp;go_at_call 12;refine (WN.out 200 _ _ _ _ _ _ _ (HI3.out _ (by first | exact x5 | exact x5.drew)) (by first | exact Xw | exact Xw.quiet (ae.refl _ _).drew)).mono ?_;rintro e y6 ⟨rfl,hq⟩;rw [HEq.out 200];have x6:Hid (ae [] W7 y6):=lh (by first | exact x5.q hq | exact x5.drew.q hq);clear hq;refine hK.out _ _ ?_ (fun hHeld=>?_)
    ·exact HS7 _ (by first | exact x6 | exact x6.drew)
    clear hK K
    try simp only [Act.put,Lg,Lj,Lk]
    refine tkw 39 86 ⟨rfl,bz⟩ ?_;refine tkw 40 87 ⟨rfl,bz⟩ ?_;refine tkw 41 88 ⟨rfl,bz⟩ ?_;refine rdy (rdc 42 89 (fun K hK=>?_) .nil);go_simp;go_at_call 26;refine (gT 2 _).mono ?_;rintro e y7 ⟨rfl,hq⟩;have x7:Hid (ae [] W7 y7):=lh (by first | exact x6.q hq | exact x6.drew.q hq);clear hq;refine hK.out _ _ ?_ (fun hHeld=>?_)
    ·exact HS7 _ (by first | exact x7 | exact x7.drew)
    clear hK K
    try simp only [Act.put,Lg,Lj,Lk]
    refine rdy (rdc 43 90 (fun K hK=>?_) .nil);go_simp;go_at_call 13;refine (HSm.out _ (by first | exact x7 | exact x7.drew)).mono ?_;rintro e y8 ⟨rfl,hq⟩;have x8:Hid (ae [] W7 y8):=lh (by first | exact x7.q hq | exact x7.drew.q hq);clear hq;refine hK.out _ _ ?_ (fun hHeld=>?_)
    ·exact HS7 _ (by first | exact x8 | exact x8.drew)
    clear hK K
    try simp only [Act.put,Lg,Lj,Lk]
    refine tkw 44 91 ⟨rfl,bz⟩ ?_;refine tkw 45 0 ⟨rfl,bz⟩ ?_;refine wpAnyH_done Mh ?_ _;go_wp2_with fail;exact MM.out _ _ ⟨rfl,by first | exact Vn.q x8 | exact Vn.q x8.drew⟩
end
end Go.Proofs.YthcafdfdglfabaaGreatDoor
