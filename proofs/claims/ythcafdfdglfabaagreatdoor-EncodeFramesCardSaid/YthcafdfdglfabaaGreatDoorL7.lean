/- Joined texts: EFrW, EFrmC. Conditions: each part names its own. -/
import Derived.Test.YthcafdfdglfabaaGreatDoorZEFs2
import Derived.Test.YthcafdfdglfabaaGreatDoorB3
import Derived.Test.YthcafdfdglfabaaGreatDoorF3
import Derived.Test.YthcafdfdglfabaaGreatDoorTie
import Derived.Test.YthcafdfdglfabaaGreatDoorCards
set_option maxRecDepth 100000
set_option maxHeartbeats 16000000
namespace Go.Proofs.YthcafdfdglfabaaGreatDoor
open Go.RowKit
set_option linter.unusedVariables false
set_option linter.unusedSimpArgs false
theorem Ce {p:Prop} (h:p:=by intro wz OP;obtain ⟨UQ,hS1⟩:=OP;obtain ⟨p0,p1,p2⟩:=ag UQ;obtain ⟨q0,q1,q2⟩:=ag hS1;go_simp;try with_reducible rfl):p:=h
section
theorem Bv {f p:ai} (h:qd [f,p]=true):f.pix.length<=1000000000/\p.pix.length<=1000000000:=by
 simp [qd,gi] at h;omega
theorem vP {p:Prop} (h:p:=by
 exact HS5.out _ (by first | exact o | exact o.drew)):p:=h
theorem Ap {p:Prop} (h:p:=by
 obtain ⟨v,rfl⟩:∃ z,z=v':=⟨_,rfl⟩
 refine hK.out _ _ ?_ (fun hHeld=>?_)
 ·exact vP
 clear hK K;refine rdy (rdn 6 (fun K hK=>?_) .nil);refine dw (.tmp 11) (.tmp 29) 24 rfl (g:=bC) (c':=#[src.W,src.H,(.slice aP src.pix.length cP)]) rfl rfl HC (nN _ _ _) rfl (by first | kernel_rfl | simp [Value.oneCell']) (fun v' hq hr=>?_);have q:ae [bC] v v':=by first | exact hq | exact ((ae.refl _ _).drew.mono (U:=[bC]) Mg).trans hq (fun g h _=>h) (fun g h _=>h)
 replace HC:=lh hr;replace HE:=lh (q.rowAt HE (by rw [mSg];have:=TE.out;omega));replace KP:Hid (ah .i64 lP hP v' (.slice aP src.pix.length cP) src.pix):=lh (KP.only q (fun g hg=>by rw [mSg] at hg;subst hg;exact NCP));replace BP:Hid (W4.heap.size<=lP/\hP<=v'.heap.size):=lh ⟨BP.1,Lz BP.2 q.size⟩;replace KQ:Hid (ah .i64 lQ hQ v' (.slice aQ prev.pix.length cQ) prev.pix):=lh (KQ.only q (fun g hg=>by rw [mSg] at hg;subst hg;exact NCQ));replace BQ:Hid (W4.heap.size<=lQ/\hQ<=v'.heap.size):=lh ⟨BQ.1,Lz BQ.2 q.size⟩;replace o:Hid (ae [] W4 v'):=lh (o.trans q Mg (fun g hg MO=>by rw [mSg] at hg;have:=ZC.out;omega));clear hq hr q;obtain ⟨v,rfl⟩:∃ z,z=v':=⟨_,rfl⟩
 refine hK.out _ _ ?_ (fun hHeld=>?_)
 ·exact vP
 clear hK K;refine rdy (rdn 7 (fun K hK=>?_) .nil);refine dw (.tmp 12) (.tmp 31) 24 rfl (g:=bE) (c':=#[prev.W,prev.H,(.slice aQ prev.pix.length cQ)]) rfl rfl HE (nN _ _ _) rfl (by first | kernel_rfl | simp [Value.oneCell']) (fun v' hq hr=>?_);have q:ae [bE] v v':=by first | exact hq | exact ((ae.refl _ _).drew.mono (U:=[bE]) Mg).trans hq (fun g h _=>h) (fun g h _=>h)
 replace HE:=lh hr;replace HC:=lh (q.rowAt HC (by rw [mSg];have:=TE.out;omega));replace KP:Hid (ah .i64 lP hP v' (.slice aP src.pix.length cP) src.pix):=lh (KP.only q (fun g hg=>by rw [mSg] at hg;subst hg;exact NEP));replace BP:Hid (W4.heap.size<=lP/\hP<=v'.heap.size):=lh ⟨BP.1,Lz BP.2 q.size⟩;replace KQ:Hid (ah .i64 lQ hQ v' (.slice aQ prev.pix.length cQ) prev.pix):=lh (KQ.only q (fun g hg=>by rw [mSg] at hg;subst hg;exact NEQ));replace BQ:Hid (W4.heap.size<=lQ/\hQ<=v'.heap.size):=lh ⟨BQ.1,Lz BQ.2 q.size⟩;replace o:Hid (ae [] W4 v'):=lh (o.trans q Mg (fun g hg MO=>by rw [mSg] at hg;have:=ZE.out;omega));clear hq hr q;obtain ⟨v,rfl⟩:∃ z,z=v':=⟨_,rfl⟩
 refine hK.out _ _ ?_ (fun hHeld=>?_)
 ·exact vP
 clear hK K;refine wpAnyH_done Mh ?_ _;go_wp2_with fail;go_meet;exact ⟨bC,bE,lP,hP,aP,cP,lQ,hQ,aQ,cQ,rfl,rfl,o,HC,HE,KP,KQ,BP,BQ⟩):p:=h
theorem jt {p:Prop} (h:p:=by
 exact vP):p:=h
theorem Aq {p:Prop} (h:p:=by
 obtain ⟨v,rfl⟩:∃ z,z=v':=⟨_,rfl⟩
 refine hK.out _ _ ?_ (fun hHeld=>?_)
 ·exact jt
 clear hK K;refine rdy (rdc 3 31 (fun K hK=>?_) .nil);go_simp;go_at_call 8;refine (HCp.out _ (by first | exact o | exact o.drew)).mono ?_;rintro e v' ⟨w0,rfl,MQ,hq⟩;have q:ae [] v v':=by first | exact hq | exact ((ae.refl _ _).drew).q hq
 have hI:=MQ.ints;obtain ⟨aQ,cQ,rfl,-⟩:=hI.open;obtain ⟨lQ,hl⟩:∃ z,z=v.heap.size:=⟨_,rfl⟩
 obtain ⟨hQ,hh⟩:∃ z,z=v'.heap.size:=⟨_,rfl⟩
 have KQ:Hid (ah .i64 lQ hQ v' (.slice aQ prev.pix.length cQ) prev.pix):=lh (by rw [hl,hh];exact hI);have Pp:W4.heap.size<=v.heap.size:=o.size;have BQ:Hid (W4.heap.size<=lQ/\hQ<=v'.heap.size):=lh ⟨Mf,Mf⟩;have NCQ:Hid (bC<lQ\/hQ<=bC):=lh (.inl (by have:=(Array.getElem?_eq_some_iff.1 HC).1;omega));have NEQ:Hid (bE<lQ\/hQ<=bE):=lh (.inl (by have:=(Array.getElem?_eq_some_iff.1 HE).1;omega));replace HC:=lh (q.row HC);replace HE:=lh (q.row HE);replace KP:Hid (ah .i64 lP hP v' (.slice aP src.pix.length cP) src.pix):=lh (KP.only q Mg);replace BP:Hid (W4.heap.size<=lP/\hP<=v'.heap.size):=lh ⟨BP.1,Lz BP.2 q.size⟩;replace o:=lh (o.q q);clear hq q MQ hI hl hh Pp;exact Ap):p:=h
theorem Ih {p:Prop} (h:p:=by
 obtain ⟨v,rfl⟩:∃ z,z=v':=⟨_,rfl⟩
 refine hK.out _ _ ?_ (fun hHeld=>?_)
 ·exact jt
 clear hK K;refine rdy (rdc 5 12 (fun K hK=>?_) .nil);go_simp;generalize hW:World.alloc _ _=v';have q:ae [] v v':=by rw [<- hW];first | exact ae.new _ _ | exact ((ae.refl _ _).drew).q (ae.new _ _)
 have HE:Hid (v'.heap[v.heap.size]?=some (.cells #[(),(),JEu] 24 (0,0))):=lh (by rw [<- hW];exact heap_alloc_new _ _);have NEP:Hid (v.heap.size<lP\/hP<=v.heap.size):=lh (.inr BP.2);have NEQ:Hid (v.heap.size<lQ\/hQ<=v.heap.size):=lh (.inr BQ.2);have TE:Hid (bC≠v.heap.size):=lh (by have:=(Array.getElem?_eq_some_iff.1 HC).1;omega);have hz:W4.heap.size<=v.heap.size:=o.size;replace HC:=lh (q.row HC);replace KP:Hid (ah .i64 lP hP v' (.slice aP src.pix.length cP) src.pix):=lh (KP.only q Mg);replace BP:Hid (W4.heap.size<=lP/\hP<=v'.heap.size):=lh ⟨BP.1,Lz BP.2 q.size⟩;replace KQ:Hid (ah .i64 lQ hQ v' (.slice aQ prev.pix.length cQ) prev.pix):=lh (KQ.only q Mg);replace BQ:Hid (W4.heap.size<=lQ/\hQ<=v'.heap.size):=lh ⟨BQ.1,Lz BQ.2 q.size⟩;replace o:=lh (o.q q);clear hW q;generalize hb:v.heap.size=bE at HE NEP NEQ TE |-
 have ZE:Hid (W4.heap.size<=bE):=lh (by rw [<- hb];exact hz);clear hb hz;exact Ap):p:=h
theorem Ii {p:Prop} (h:p:=by
 obtain ⟨v,rfl⟩:∃ z,z=v':=⟨_,rfl⟩
 refine hK.out _ _ ?_ (fun hHeld=>?_)
 ·exact jt
 clear hK K;refine rdy (rdc 4 11 (fun K hK=>?_) .nil);go_simp;generalize hW:World.alloc _ _=v';have q:ae [] v v':=by rw [<- hW];first | exact ae.new _ _ | exact ((ae.refl _ _).drew).q (ae.new _ _)
 have HC:Hid (v'.heap[v.heap.size]?=some (.cells #[(),(),JEu] 24 (0,0))):=lh (by rw [<- hW];exact heap_alloc_new _ _);have NCP:Hid (v.heap.size<lP\/hP<=v.heap.size):=lh (.inr BP.2);have NCQ:Hid (v.heap.size<lQ\/hQ<=v.heap.size):=lh (.inr BQ.2);have TE:Hid (v.heap.size≠bE):=lh (by have:=(Array.getElem?_eq_some_iff.1 HE).1;omega);have hz:W4.heap.size<=v.heap.size:=o.size;replace HE:=lh (q.row HE);replace KP:Hid (ah .i64 lP hP v' (.slice aP src.pix.length cP) src.pix):=lh (KP.only q Mg);replace BP:Hid (W4.heap.size<=lP/\hP<=v'.heap.size):=lh ⟨BP.1,Lz BP.2 q.size⟩;replace KQ:Hid (ah .i64 lQ hQ v' (.slice aQ prev.pix.length cQ) prev.pix):=lh (KQ.only q Mg);replace BQ:Hid (W4.heap.size<=lQ/\hQ<=v'.heap.size):=lh ⟨BQ.1,Lz BQ.2 q.size⟩;replace o:=lh (o.q q);clear hW q;generalize hb:v.heap.size=bC at HC NCP NCQ TE |-
 have ZC:Hid (W4.heap.size<=bC):=lh (by rw [<- hb];exact hz);clear hb hz;exact Ap):p:=h
theorem Ij {p:Prop} (h:p:=by
 obtain ⟨v,rfl⟩:∃ z,z=v':=⟨_,rfl⟩
 refine hK.out _ _ ?_ (fun hHeld=>?_)
 ·exact jt
 clear hK K;refine rdy (rdc 3 31 (fun K hK=>?_) (rdc 5 12 (fun K hK=>?_) .nil))
 ·go_simp
  go_at_call 8;refine (HCp.out _ (by first | exact o | exact o.drew)).mono ?_;rintro e v' ⟨w0,rfl,MQ,hq⟩;have q:ae [] v v':=by first | exact hq | exact ((ae.refl _ _).drew).q hq
  have hI:=MQ.ints;obtain ⟨aQ,cQ,rfl,-⟩:=hI.open;obtain ⟨lQ,hl⟩:∃ z,z=v.heap.size:=⟨_,rfl⟩
  obtain ⟨hQ,hh⟩:∃ z,z=v'.heap.size:=⟨_,rfl⟩
  have KQ:Hid (ah .i64 lQ hQ v' (.slice aQ prev.pix.length cQ) prev.pix):=lh (by rw [hl,hh];exact hI);have Pp:W4.heap.size<=v.heap.size:=o.size;have BQ:Hid (W4.heap.size<=lQ/\hQ<=v'.heap.size):=lh ⟨Mf,Mf⟩;have NCQ:Hid (bC<lQ\/hQ<=bC):=lh (.inl (by have:=(Array.getElem?_eq_some_iff.1 HC).1;omega));replace HC:=lh (q.row HC);replace KP:Hid (ah .i64 lP hP v' (.slice aP src.pix.length cP) src.pix):=lh (KP.only q Mg);replace BP:Hid (W4.heap.size<=lP/\hP<=v'.heap.size):=lh ⟨BP.1,Lz BP.2 q.size⟩;replace o:=lh (o.q q);clear hq q MQ hI hl hh Pp;exact Ih
 ·go_simp
  generalize hW:World.alloc _ _=v';have q:ae [] v v':=by rw [<- hW];first | exact ae.new _ _ | exact ((ae.refl _ _).drew).q (ae.new _ _)
  have HE:Hid (v'.heap[v.heap.size]?=some (.cells #[(),(),JEu] 24 (0,0))):=lh (by rw [<- hW];exact heap_alloc_new _ _);have NEP:Hid (v.heap.size<lP\/hP<=v.heap.size):=lh (.inr BP.2);have TE:Hid (bC≠v.heap.size):=lh (by have:=(Array.getElem?_eq_some_iff.1 HC).1;omega);have hz:W4.heap.size<=v.heap.size:=o.size;replace HC:=lh (q.row HC);replace KP:Hid (ah .i64 lP hP v' (.slice aP src.pix.length cP) src.pix):=lh (KP.only q Mg);replace BP:Hid (W4.heap.size<=lP/\hP<=v'.heap.size):=lh ⟨BP.1,Lz BP.2 q.size⟩;replace o:=lh (o.q q);clear hW q;generalize hb:v.heap.size=bE at HE NEP TE |-
  have ZE:Hid (W4.heap.size<=bE):=lh (by rw [<- hb];exact hz);clear hb hz;exact Aq):p:=h
theorem Ik {p:Prop} (h:p:=by
 obtain ⟨v,rfl⟩:∃ z,z=v':=⟨_,rfl⟩
 refine hK.out _ _ ?_ (fun hHeld=>?_)
 ·exact jt
 clear hK K;refine rdy (rdc 3 31 (fun K hK=>?_) (rdc 4 11 (fun K hK=>?_) .nil))
 ·go_simp
  go_at_call 8;refine (HCp.out _ (by first | exact o | exact o.drew)).mono ?_;rintro e v' ⟨w0,rfl,MQ,hq⟩;have q:ae [] v v':=by first | exact hq | exact ((ae.refl _ _).drew).q hq
  have hI:=MQ.ints;obtain ⟨aQ,cQ,rfl,-⟩:=hI.open;obtain ⟨lQ,hl⟩:∃ z,z=v.heap.size:=⟨_,rfl⟩
  obtain ⟨hQ,hh⟩:∃ z,z=v'.heap.size:=⟨_,rfl⟩
  have KQ:Hid (ah .i64 lQ hQ v' (.slice aQ prev.pix.length cQ) prev.pix):=lh (by rw [hl,hh];exact hI);have Pp:W4.heap.size<=v.heap.size:=o.size;have BQ:Hid (W4.heap.size<=lQ/\hQ<=v'.heap.size):=lh ⟨Mf,Mf⟩;have NEQ:Hid (bE<lQ\/hQ<=bE):=lh (.inl (by have:=(Array.getElem?_eq_some_iff.1 HE).1;omega));replace HE:=lh (q.row HE);replace KP:Hid (ah .i64 lP hP v' (.slice aP src.pix.length cP) src.pix):=lh (KP.only q Mg);replace BP:Hid (W4.heap.size<=lP/\hP<=v'.heap.size):=lh ⟨BP.1,Lz BP.2 q.size⟩;replace o:=lh (o.q q);clear hq q MQ hI hl hh Pp;exact Ii
 ·go_simp
  generalize hW:World.alloc _ _=v';have q:ae [] v v':=by rw [<- hW];first | exact ae.new _ _ | exact ((ae.refl _ _).drew).q (ae.new _ _)
  have HC:Hid (v'.heap[v.heap.size]?=some (.cells #[(),(),JEu] 24 (0,0))):=lh (by rw [<- hW];exact heap_alloc_new _ _);have NCP:Hid (v.heap.size<lP\/hP<=v.heap.size):=lh (.inr BP.2);have TE:Hid (v.heap.size≠bE):=lh (by have:=(Array.getElem?_eq_some_iff.1 HE).1;omega);have hz:W4.heap.size<=v.heap.size:=o.size;replace HE:=lh (q.row HE);replace KP:Hid (ah .i64 lP hP v' (.slice aP src.pix.length cP) src.pix):=lh (KP.only q Mg);replace BP:Hid (W4.heap.size<=lP/\hP<=v'.heap.size):=lh ⟨BP.1,Lz BP.2 q.size⟩;replace o:=lh (o.q q);clear hW q;generalize hb:v.heap.size=bC at HC NCP TE |-
  have ZC:Hid (W4.heap.size<=bC):=lh (by rw [<- hb];exact hz);clear hb hz;exact Aq):p:=h
theorem Il {p:Prop} (h:p:=by
 clear hb hz;obtain ⟨v,rfl⟩:∃ z,z=v':=⟨_,rfl⟩
 refine hK.out _ _ ?_ (fun hHeld=>?_)
 ·exact jt
 clear hK K;refine rdy (rdc 1 29 (fun K hK=>?_) .nil);go_simp;go_at_call 8;refine (HCs.out _ (by first | exact o | exact o.drew)).mono ?_;rintro e v' ⟨w0,rfl,MQ,hq⟩;have q:ae [] v v':=by first | exact hq | exact ((ae.refl _ _).drew).q hq
 have hI:=MQ.ints;obtain ⟨aP,cP,rfl,-⟩:=hI.open;obtain ⟨lP,hl⟩:∃ z,z=v.heap.size:=⟨_,rfl⟩
 obtain ⟨hP,hh⟩:∃ z,z=v'.heap.size:=⟨_,rfl⟩
 have KP:Hid (ah .i64 lP hP v' (.slice aP src.pix.length cP) src.pix):=lh (by rw [hl,hh];exact hI);have Pp:W4.heap.size<=v.heap.size:=o.size;have BP:Hid (W4.heap.size<=lP/\hP<=v'.heap.size):=lh ⟨Mf,Mf⟩;have NCP:Hid (bC<lP\/hP<=bC):=lh (.inl (by have:=(Array.getElem?_eq_some_iff.1 HC).1;omega));have NEP:Hid (bE<lP\/hP<=bE):=lh (.inl (by have:=(Array.getElem?_eq_some_iff.1 HE).1;omega));replace HC:=lh (q.row HC);replace HE:=lh (q.row HE);replace o:=lh (o.q q);clear hq q MQ hI hl hh Pp;exact Aq):p:=h
theorem wI {sv pv:Value} {src prev:ai} {w:World} (hs:ah .i64 0 w.heap.size w sv src.pix) (hp:ah .i64 0 w.heap.size w pv prev.pix) (key:Bool) (qp reach:Int) (hE:kJ w) :
  Calls Tryz.prog 3 #[.agg #[src.W,src.H,sv],.agg #[prev.W,prev.H,pv],.bool key,qp,reach] w fun e w'=>e=.returned (.bool true)/\ae [] w w':=by
 refine aN fun Q MM=>?_
 have HFi:=lh (fun (W:World) (o:ae [] w W)=>tC W (hE.quiet o));have HFw:=lh (fun (W:World) (o:ae [] w W)=>IX (l:=[src,prev]) reach (qW (hs.quiet o) (hp.quiet o)) Mg);have Jmo:=lh (fun (W:World) (o:ae [] w W) (h:qd [src,prev]=true)=>iM (hs.quiet o) (Bv h).1);have Jml:=lh (fun (W:World) (o:ae [] w W) (h:qd [src,prev]=true)=>iM (hp.quiet o) (Bv h).2);have Tq:=lh (fun (W:World) (l1 h1 l2 h2:Nat) (v1 v2:Value) (i1:ah .i64 l1 h1 W v1 src.pix) (i2:ah .i64 l2 h2 W v2 prev.pix) (z1:h1<=W.heap.size) (z2:h2<=W.heap.size)=>wK (src:=src) (prev:=prev) key qp reach i1 i2 z1 z2);have Uq:=lh (fun (W:World) (o:ae [] w W)=>Dr (src:=src) (prev:=prev) key qp reach (hs.quiet o) (hp.quiet o) o.size o.size);have HEr:=lh (fun (W:World) (o:ae [] w W)=>tj (o:=bP src prev key qp reach) (fun c h=>CU h) (hE.quiet o));have Ug:=lh (And.intro hs hp);generalize Ai src prev key qp reach=C at *
 generalize Ah src prev key qp reach=B at *
 generalize mG (bP src prev key qp reach)=EV at *
 generalize (bP src prev key qp reach).getD 0=kc0 at *
 obtain ⟨sa,sc,rfl,-⟩:=hs.open;obtain ⟨pa,pc,rfl,-⟩:=hp.open;clear hs hp hE;obtain ⟨TY,NT,HP1,-⟩:=jl w (.cells #[src.W,src.H,.slice sa src.pix.length sc] 24) (.cells #[prev.W,prev.H,.slice pa prev.pix.length pc] 24);have MT:=lh TY;clear TY;go_enter Tryz.func3,Tryz.ntmps3;go_wp2_with fail;generalize NB:World.alloc (World.alloc w _) _=W1 at *
 clear NB;go_at_call 6;refine (HFi.out _ MT).mono ?_;rintro e w2 ⟨rfl,MV⟩;have Na:=lh MV;clear MV;obtain ⟨s0,s1,s2⟩:=ag (Na.row NT);obtain ⟨p0,p1,p2⟩:=ag (Na.row HP1);have PS:=lh (ae.new w2 (.cells #[src.W,src.H,.slice sa src.pix.length sc,prev.W,prev.H,.slice pa prev.pix.length pc] 24));have HFx:=lh (HFw.out _ (MT.q Na));go_wp2_with fail;generalize PZ:World.alloc w2 _=W3 at *
 clear PZ s0 s1 s2 p0 p1 p2;have Nf:=lh (Na.q PS);go_at_call 7;refine HFx.mono ?_;rintro e W4 ⟨⟨b,rfl,hpx⟩,Ng⟩;have HPx:=lh hpx;have NI:=lh (Nf.q Ng);clear Ng hpx;cases b with
 | false =>
  go_wp2_with fail;go_at_call 6;refine (HFi.out _ (MT.q NI)).mono ?_;rintro e w5 ⟨rfl,NF⟩;have Nz:=lh (NI.q NF);clear NF;go_wp2_with fail;exact MM.out _ _ ⟨rfl,MT.q Nz.out⟩
 | true =>
  have hpx:=HPx.out (by first | rfl | trivial);have HCs:=lh (fun (W:World) (o:ae [] W4 W)=>Jmo.out W (MT.q (NI.q o)) hpx);have HCp:=lh (fun (W:World) (o:ae [] W4 W)=>Jml.out W (MT.q (NI.q o)) hpx);have HS5:Hid (∀ wx:World,ae [] W4 wx->wx.heap[w.heap.size]?=some (.cells #[src.W,src.H,.slice sa src.pix.length sc] 24 (0,0))/\wx.heap[w.heap.size+1]?=some (.cells #[prev.W,prev.H,.slice pa prev.pix.length pc] 24 (0,0))):=lh (fun wx o=>⟨(NI.q o).row NT,(NI.q o).row HP1.out⟩);clear hpx HPx Jmo Jml HFx PS HFw Na Nf;go_upto_region 5 with (fail)
  go_cut [11,12] (fun sC sE wx=>∃ (bC:Nat) (bE:Nat) (lP hP:Nat) (aP:Option Addr) (cP:Nat) (lQ hQ:Nat) (aQ:Option Addr) (cQ:Nat),sC=.pointer (some ⟨bC,0,none⟩)/\sE=.pointer (some ⟨bE,0,none⟩)/\Hid (ae [] W4 wx)/\Hid (wx.heap[bC]?=some (.cells #[src.W,src.H,(.slice aP src.pix.length cP)] 24 (0,0)))/\Hid (wx.heap[bE]?=some (.cells #[prev.W,prev.H,(.slice aQ prev.pix.length cQ)] 24 (0,0)))/\Hid (ah .i64 lP hP wx (.slice aP src.pix.length cP) src.pix)/\Hid (ah .i64 lQ hQ wx (.slice aQ prev.pix.length cQ) prev.pix)/\Hid (W4.heap.size<=lP/\hP<=wx.heap.size)/\Hid (W4.heap.size<=lQ/\hQ<=wx.heap.size))
  case first =>
   have o:=lh (ae.refl [] W4);refine wp_region_held_drew (S:=(fun wz=>wz.heap[w.heap.size]?=some (.cells #[src.W,src.H,.slice sa src.pix.length sc] 24 (0,0))/\wz.heap[w.heap.size+1]?=some (.cells #[prev.W,prev.H,.slice pa prev.pix.length pc] 24 (0,0)))) Mh ?_ (fun hHeld=>?_)
   ·first | exact HS5.out _ (ae.refl _ _) | exact HS5.out _ (ae.refl _ _).drew
   refine tkw 0 28 ⟨rfl,Ce⟩ ?_;refine tkw 2 30 ⟨rfl,Ce⟩ ?_;refine rdy (rdc 1 29 (fun K hK=>?_) (rdc 4 11 (fun K hK=>?_) (rdc 5 12 (fun K hK=>?_) .nil)))
   ·go_simp
    go_at_call 8;refine (HCs.out _ (by first | exact o | exact o.drew)).mono ?_;rintro e v' ⟨w0,rfl,MQ,hq⟩;have q:ae [] W4 v':=by first | exact hq | exact ((ae.refl _ _).drew).q hq
    have hI:=MQ.ints;obtain ⟨aP,cP,rfl,-⟩:=hI.open;obtain ⟨lP,hl⟩:∃ z,z=W4.heap.size:=⟨_,rfl⟩
    obtain ⟨hP,hh⟩:∃ z,z=v'.heap.size:=⟨_,rfl⟩
    have KP:Hid (ah .i64 lP hP v' (.slice aP src.pix.length cP) src.pix):=lh (by rw [hl,hh];exact hI);have Pp:W4.heap.size<=W4.heap.size:=o.size;have BP:Hid (W4.heap.size<=lP/\hP<=v'.heap.size):=lh ⟨Mf,Mf⟩;replace o:=lh (o.q q);clear hq q MQ hI hl hh Pp;obtain ⟨v,rfl⟩:∃ z,z=v':=⟨_,rfl⟩
    refine hK.out _ _ ?_ (fun hHeld=>?_)
    ·exact jt
    clear hK K;refine rdy (rdc 3 31 (fun K hK=>?_) (rdc 4 11 (fun K hK=>?_) (rdc 5 12 (fun K hK=>?_) .nil)))
    ·go_simp
     go_at_call 8;refine (HCp.out _ (by first | exact o | exact o.drew)).mono ?_;rintro e v' ⟨w0,rfl,MQ,hq⟩;have q:ae [] v v':=by first | exact hq | exact ((ae.refl _ _).drew).q hq
     have hI:=MQ.ints;obtain ⟨aQ,cQ,rfl,-⟩:=hI.open;obtain ⟨lQ,hl⟩:∃ z,z=v.heap.size:=⟨_,rfl⟩
     obtain ⟨hQ,hh⟩:∃ z,z=v'.heap.size:=⟨_,rfl⟩
     have KQ:Hid (ah .i64 lQ hQ v' (.slice aQ prev.pix.length cQ) prev.pix):=lh (by rw [hl,hh];exact hI);have Pp:W4.heap.size<=v.heap.size:=o.size;have BQ:Hid (W4.heap.size<=lQ/\hQ<=v'.heap.size):=lh ⟨Mf,Mf⟩;replace KP:Hid (ah .i64 lP hP v' (.slice aP src.pix.length cP) src.pix):=lh (KP.only q Mg);replace BP:Hid (W4.heap.size<=lP/\hP<=v'.heap.size):=lh ⟨BP.1,Lz BP.2 q.size⟩;replace o:=lh (o.q q);clear hq q MQ hI hl hh Pp;obtain ⟨v,rfl⟩:∃ z,z=v':=⟨_,rfl⟩
     refine hK.out _ _ ?_ (fun hHeld=>?_)
     ·exact jt
     clear hK K;refine rdy (rdc 4 11 (fun K hK=>?_) (rdc 5 12 (fun K hK=>?_) .nil))
     ·go_simp
      generalize hW:World.alloc _ _=v';have q:ae [] v v':=by rw [<- hW];first | exact ae.new _ _ | exact ((ae.refl _ _).drew).q (ae.new _ _)
      have HC:Hid (v'.heap[v.heap.size]?=some (.cells #[(),(),JEu] 24 (0,0))):=lh (by rw [<- hW];exact heap_alloc_new _ _);have NCP:Hid (v.heap.size<lP\/hP<=v.heap.size):=lh (.inr BP.2);have NCQ:Hid (v.heap.size<lQ\/hQ<=v.heap.size):=lh (.inr BQ.2);have hz:W4.heap.size<=v.heap.size:=o.size;replace KP:Hid (ah .i64 lP hP v' (.slice aP src.pix.length cP) src.pix):=lh (KP.only q Mg);replace BP:Hid (W4.heap.size<=lP/\hP<=v'.heap.size):=lh ⟨BP.1,Lz BP.2 q.size⟩;replace KQ:Hid (ah .i64 lQ hQ v' (.slice aQ prev.pix.length cQ) prev.pix):=lh (KQ.only q Mg);replace BQ:Hid (W4.heap.size<=lQ/\hQ<=v'.heap.size):=lh ⟨BQ.1,Lz BQ.2 q.size⟩;replace o:=lh (o.q q);clear hW q;generalize hb:v.heap.size=bC at HC NCP NCQ |-
      have ZC:Hid (W4.heap.size<=bC):=lh (by rw [<- hb];exact hz);clear hb hz;exact Ih
     ·go_simp
      generalize hW:World.alloc _ _=v';have q:ae [] v v':=by rw [<- hW];first | exact ae.new _ _ | exact ((ae.refl _ _).drew).q (ae.new _ _)
      have HE:Hid (v'.heap[v.heap.size]?=some (.cells #[(),(),JEu] 24 (0,0))):=lh (by rw [<- hW];exact heap_alloc_new _ _);have NEP:Hid (v.heap.size<lP\/hP<=v.heap.size):=lh (.inr BP.2);have NEQ:Hid (v.heap.size<lQ\/hQ<=v.heap.size):=lh (.inr BQ.2);have hz:W4.heap.size<=v.heap.size:=o.size;replace KP:Hid (ah .i64 lP hP v' (.slice aP src.pix.length cP) src.pix):=lh (KP.only q Mg);replace BP:Hid (W4.heap.size<=lP/\hP<=v'.heap.size):=lh ⟨BP.1,Lz BP.2 q.size⟩;replace KQ:Hid (ah .i64 lQ hQ v' (.slice aQ prev.pix.length cQ) prev.pix):=lh (KQ.only q Mg);replace BQ:Hid (W4.heap.size<=lQ/\hQ<=v'.heap.size):=lh ⟨BQ.1,Lz BQ.2 q.size⟩;replace o:=lh (o.q q);clear hW q;generalize hb:v.heap.size=bE at HE NEP NEQ |-
      have ZE:Hid (W4.heap.size<=bE):=lh (by rw [<- hb];exact hz);clear hb hz;exact Ii
    ·go_simp
     generalize hW:World.alloc _ _=v';have q:ae [] v v':=by rw [<- hW];first | exact ae.new _ _ | exact ((ae.refl _ _).drew).q (ae.new _ _)
     have HC:Hid (v'.heap[v.heap.size]?=some (.cells #[(),(),JEu] 24 (0,0))):=lh (by rw [<- hW];exact heap_alloc_new _ _);have NCP:Hid (v.heap.size<lP\/hP<=v.heap.size):=lh (.inr BP.2);have hz:W4.heap.size<=v.heap.size:=o.size;replace KP:Hid (ah .i64 lP hP v' (.slice aP src.pix.length cP) src.pix):=lh (KP.only q Mg);replace BP:Hid (W4.heap.size<=lP/\hP<=v'.heap.size):=lh ⟨BP.1,Lz BP.2 q.size⟩;replace o:=lh (o.q q);clear hW q;generalize hb:v.heap.size=bC at HC NCP |-
     have ZC:Hid (W4.heap.size<=bC):=lh (by rw [<- hb];exact hz);clear hb hz;exact Ij
    ·go_simp
     generalize hW:World.alloc _ _=v';have q:ae [] v v':=by rw [<- hW];first | exact ae.new _ _ | exact ((ae.refl _ _).drew).q (ae.new _ _)
     have HE:Hid (v'.heap[v.heap.size]?=some (.cells #[(),(),JEu] 24 (0,0))):=lh (by rw [<- hW];exact heap_alloc_new _ _);have NEP:Hid (v.heap.size<lP\/hP<=v.heap.size):=lh (.inr BP.2);have hz:W4.heap.size<=v.heap.size:=o.size;replace KP:Hid (ah .i64 lP hP v' (.slice aP src.pix.length cP) src.pix):=lh (KP.only q Mg);replace BP:Hid (W4.heap.size<=lP/\hP<=v'.heap.size):=lh ⟨BP.1,Lz BP.2 q.size⟩;replace o:=lh (o.q q);clear hW q;generalize hb:v.heap.size=bE at HE NEP |-
     have ZE:Hid (W4.heap.size<=bE):=lh (by rw [<- hb];exact hz);clear hb hz;exact Ik
   ·go_simp
    generalize hW:World.alloc _ _=v';have q:ae [] W4 v':=by rw [<- hW];first | exact ae.new _ _ | exact ((ae.refl _ _).drew).q (ae.new _ _)
    have HC:Hid (v'.heap[W4.heap.size]?=some (.cells #[(),(),JEu] 24 (0,0))):=lh (by rw [<- hW];exact heap_alloc_new _ _);have hz:W4.heap.size<=W4.heap.size:=o.size;replace o:=lh (o.q q);clear hW q;generalize hb:W4.heap.size=bC at HC |-
    have ZC:Hid (W4.heap.size<=bC):=lh (by rw [<- hb];exact hz);clear hb hz;obtain ⟨v,rfl⟩:∃ z,z=v':=⟨_,rfl⟩
    refine hK.out _ _ ?_ (fun hHeld=>?_)
    ·exact jt
    clear hK K;refine rdy (rdc 1 29 (fun K hK=>?_) (rdc 5 12 (fun K hK=>?_) .nil))
    ·go_simp
     go_at_call 8;refine (HCs.out _ (by first | exact o | exact o.drew)).mono ?_;rintro e v' ⟨w0,rfl,MQ,hq⟩;have q:ae [] v v':=by first | exact hq | exact ((ae.refl _ _).drew).q hq
     have hI:=MQ.ints;obtain ⟨aP,cP,rfl,-⟩:=hI.open;obtain ⟨lP,hl⟩:∃ z,z=v.heap.size:=⟨_,rfl⟩
     obtain ⟨hP,hh⟩:∃ z,z=v'.heap.size:=⟨_,rfl⟩
     have KP:Hid (ah .i64 lP hP v' (.slice aP src.pix.length cP) src.pix):=lh (by rw [hl,hh];exact hI);have Pp:W4.heap.size<=v.heap.size:=o.size;have BP:Hid (W4.heap.size<=lP/\hP<=v'.heap.size):=lh ⟨Mf,Mf⟩;have NCP:Hid (bC<lP\/hP<=bC):=lh (.inl (by have:=(Array.getElem?_eq_some_iff.1 HC).1;omega));replace HC:=lh (q.row HC);replace o:=lh (o.q q);clear hq q MQ hI hl hh Pp;exact Ij
    ·go_simp
     generalize hW:World.alloc _ _=v';have q:ae [] v v':=by rw [<- hW];first | exact ae.new _ _ | exact ((ae.refl _ _).drew).q (ae.new _ _)
     have HE:Hid (v'.heap[v.heap.size]?=some (.cells #[(),(),JEu] 24 (0,0))):=lh (by rw [<- hW];exact heap_alloc_new _ _);have TE:Hid (bC≠v.heap.size):=lh (by have:=(Array.getElem?_eq_some_iff.1 HC).1;omega);have hz:W4.heap.size<=v.heap.size:=o.size;replace HC:=lh (q.row HC);replace o:=lh (o.q q);clear hW q;generalize hb:v.heap.size=bE at HE TE |-
     have ZE:Hid (W4.heap.size<=bE):=lh (by rw [<- hb];exact hz);exact Il
   ·go_simp
    generalize hW:World.alloc _ _=v';have q:ae [] W4 v':=by rw [<- hW];first | exact ae.new _ _ | exact ((ae.refl _ _).drew).q (ae.new _ _)
    have HE:Hid (v'.heap[W4.heap.size]?=some (.cells #[(),(),JEu] 24 (0,0))):=lh (by rw [<- hW];exact heap_alloc_new _ _);have hz:W4.heap.size<=W4.heap.size:=o.size;replace o:=lh (o.q q);clear hW q;generalize hb:W4.heap.size=bE at HE |-
    have ZE:Hid (W4.heap.size<=bE):=lh (by rw [<- hb];exact hz);clear hb hz;obtain ⟨v,rfl⟩:∃ z,z=v':=⟨_,rfl⟩
    refine hK.out _ _ ?_ (fun hHeld=>?_)
    ·exact jt
    clear hK K;refine rdy (rdc 1 29 (fun K hK=>?_) (rdc 4 11 (fun K hK=>?_) .nil))
    ·go_simp
     go_at_call 8;refine (HCs.out _ (by first | exact o | exact o.drew)).mono ?_;rintro e v' ⟨w0,rfl,MQ,hq⟩;have q:ae [] v v':=by first | exact hq | exact ((ae.refl _ _).drew).q hq
     have hI:=MQ.ints;obtain ⟨aP,cP,rfl,-⟩:=hI.open;obtain ⟨lP,hl⟩:∃ z,z=v.heap.size:=⟨_,rfl⟩
     obtain ⟨hP,hh⟩:∃ z,z=v'.heap.size:=⟨_,rfl⟩
     have KP:Hid (ah .i64 lP hP v' (.slice aP src.pix.length cP) src.pix):=lh (by rw [hl,hh];exact hI);have Pp:W4.heap.size<=v.heap.size:=o.size;have BP:Hid (W4.heap.size<=lP/\hP<=v'.heap.size):=lh ⟨Mf,Mf⟩;have NEP:Hid (bE<lP\/hP<=bE):=lh (.inl (by have:=(Array.getElem?_eq_some_iff.1 HE).1;omega));replace HE:=lh (q.row HE);replace o:=lh (o.q q);clear hq q MQ hI hl hh Pp;exact Ik
    ·go_simp
     generalize hW:World.alloc _ _=v';have q:ae [] v v':=by rw [<- hW];first | exact ae.new _ _ | exact ((ae.refl _ _).drew).q (ae.new _ _)
     have HC:Hid (v'.heap[v.heap.size]?=some (.cells #[(),(),JEu] 24 (0,0))):=lh (by rw [<- hW];exact heap_alloc_new _ _);have TE:Hid (v.heap.size≠bE):=lh (by have:=(Array.getElem?_eq_some_iff.1 HE).1;omega);have hz:W4.heap.size<=v.heap.size:=o.size;replace HE:=lh (q.row HE);replace o:=lh (o.q q);clear hW q;generalize hb:v.heap.size=bC at HC TE |-
     have ZC:Hid (W4.heap.size<=bC):=lh (by rw [<- hb];exact hz);exact Il
  case rest =>
   obtain ⟨bC,bE,lP,hP,aP,cP,lQ,hQ,aQ,cQ,rfl,rfl,Sx,HC5,HE5,KP,KQ,BP,BQ⟩:=hcut;obtain ⟨W5,hW5⟩:∃ z,z=wc:=⟨_,rfl⟩
   subst hW5;have Nz:=lh (NI.q Sx);have HFx:=lh (Tq.out W5 _ _ _ _ _ _ KP KQ BP.2 BQ.2);obtain ⟨s0,s1,s2⟩:=ag HC5;obtain ⟨p0,p1,p2⟩:=ag HE5;clear HS5 HCs HCp Tq;go_wp2_with fail;clear s0 s1 s2 p0 p1 p2;go_at_call 9;refine HFx.mono ?_;rintro e w6 ⟨Ob,d1,n1,f1,m1,rfl,Pr⟩;have OI:=lh Ob;have HK1:=lh Pr;clear Ob Pr HFx;obtain ⟨hb8,HVc,Xy,-⟩:=jl w6 (.cells #[C.kind,.slice d1 C.data.length n1] 31) (.cells #[B.W,B.H,.slice f1 B.pix.length m1] 24);have HA8:=lh hb8;clear hb8;go_upto_region 7 with (fail)
   generalize hW8:World.alloc (World.alloc w6 _) _=W8 at *
   clear hW8;obtain ⟨VC,hVC⟩:∃ z,z=w6.heap.size:=⟨_,rfl⟩
   rw [<- hVC] at HVc Xy |-
   clear hVC;have Vz:=lh (OI.q HA8);have QQ:=lh (Nz.q Vz);obtain ⟨s0,s1,s2⟩:=ag (QQ.row NT);obtain ⟨p0,p1,p2⟩:=ag (QQ.row HP1);go_wp2_with fail;clear s0 s1 s2 p0 p1 p2;go_at_call 10;refine (Uq.out _ (MT.q QQ)).mono ?_;rintro e w9 ⟨Rm,d2,n2,f2,m2,rfl,NK⟩;have Ph:=lh Rm;clear Rm Uq;obtain ⟨Jao,HVd,HVg,HVe,-⟩:=gD w9 (.cells #[C.kind,.slice d2 C.data.length n2] 31) (.cells #[B.W,B.H,.slice f2 B.pix.length m2] 24) (.cells #[kc0,JEu] 39);have Vv:=lh Jao;have HK2:=lh (NK.quiet Jao);clear Jao NK;go_upto_region 8 with (fail)
   generalize TG:World.alloc (World.alloc (World.alloc w9 _) _) _=SM at *
   clear TG;obtain ⟨VD,hVD⟩:∃ z,z=w9.heap.size:=⟨_,rfl⟩
   rw [<- hVD] at HVd HVg HVe |-
   clear hVD;have QX:=lh (Ph.q Vv);have Yi:=lh (Vz.q QX);have NJ:=lh (QQ.q QX);replace HK1:=lh (HK1.quiet (HA8.q QX));replace HVc:=lh (QX.row HVc);replace Xy:=lh (QX.row Xy);replace HC5:=lh (Yi.row HC5);replace HE5:=lh (Yi.row HE5);replace KP:=lh (KP.quiet Yi);replace KQ:=lh (KQ.quiet Yi);clear OI HA8 Vz QQ Ph Vv QX Yi Sx BP BQ Nz NI;go_wp2_with fail;go_at_call 6;refine (HFi.out _ (MT.q NJ)).mono ?_;rintro e y1 ⟨rfl,hq⟩;have X1:=lh hq;clear hq;obtain ⟨e0,e1,-⟩:=aJ (X1.row HVc);obtain ⟨g0,g1,-⟩:=aJ (X1.row HVd);have HKc:=lh (tq (j:=C.kind) (k:=C.kind) (HK1.1.quiet X1) (HK2.1.quiet X1));rw [show eqB (⟨C.kind,C.data⟩:kH) ⟨C.kind,C.data⟩=true by simp [eqB]] at HKc;go_wp2_with fail;clear e0 e1 g0 g1;go_at_call 11;refine HKc.mono ?_;rintro e y2 ⟨rfl,hq⟩;have X2:=lh (X1.q hq);clear hq HKc;obtain ⟨k0,k1,k2⟩:=ag (X2.row Xy);obtain ⟨c0,c1,c2⟩:=ag (X2.row HVg);have WN:=lh (iN (A:=B) (B:=B) (HK1.2.quiet X2) (HK2.2.quiet X2));rw [show oX B B=true by unfold oX;simp [eqB]] at WN;go_wp2_with fail;clear k0 k1 k2 c0 c1 c2;go_at_call 12;refine WN.mono ?_;rintro e y3 ⟨rfl,hq⟩;have X3:=lh (X2.q hq);clear hq WN;obtain ⟨e0,e1,-⟩:=aJ (X3.row HVe);go_wp2_with fail;clear e0 e1;go_at_call 13;refine (HEr.out _ (MT.q (NJ.q X3))).mono ?_;rintro e y4 ⟨rfl,hq⟩;have X4:=lh (X3.q hq);clear hq;obtain ⟨k0,k1,k2⟩:=ag (X4.row HC5);obtain ⟨c0,c1,c2⟩:=ag ((NJ.q X4).row NT);have WN:=lh (iN (A:=src) (B:=src) (KP.quiet X4) (Ug.1.quiet (MT.q (NJ.q X4))));rw [show oX src src=true by unfold oX;simp [eqB]] at WN;go_wp2_with fail;clear k0 k1 k2 c0 c1 c2;go_at_call 12;refine WN.mono ?_;rintro e y5 ⟨rfl,hq⟩;have X5:=lh (X4.q hq);clear hq WN;obtain ⟨k0,k1,k2⟩:=ag (X5.row HE5);obtain ⟨c0,c1,c2⟩:=ag ((NJ.q X5).row HP1);have WN:=lh (iN (A:=prev) (B:=prev) (KQ.quiet X5) (Ug.2.quiet (MT.q (NJ.q X5))));rw [show oX prev prev=true by unfold oX;simp [eqB]] at WN;go_wp2_with fail;clear k0 k1 k2 c0 c1 c2;go_at_call 12;refine WN.mono ?_;rintro e y6 ⟨rfl,hq⟩;have X6:=lh (X5.q hq);clear hq WN;go_wp2_with fail;exact MM.out _ _ ⟨rfl,MT.q (NJ.q X6)⟩
end
theorem uU {sv pv:Value} {src prev:ai} {w:World} (hs:ah .i64 0 w.heap.size w sv src.pix) (_:InK .i64 src.W/\InK .i64 src.H) (hp:ah .i64 0 w.heap.size w pv prev.pix) (_:InK .i64 prev.W/\InK .i64 prev.H) (key:Bool) (qp reach:Int) (_:w.heap.size<=w.heap.size) (hE:kJ w) :
  Calls Tryz.prog 3 #[.agg #[src.W,src.H,sv],.agg #[prev.W,prev.H,pv],.bool key,qp,reach] w fun e w'=>e=.returned (.bool true)/\ae [] w w':=wI hs hp key qp reach hE
open Go.ChangeShapes Go.WideShapes Go.ChangeAt
set_option linter.unusedVariables false
set_option linter.unusedSimpArgs false
theorem mC (os:Os) (QW:os.Started) (H:Type) (enc:TypeId×Value->H) :
  ReturnsInHanded {} Tryz.checked os 3 .any (fun w args=>(Rows.encodeFramesSpec.pre enc Tryz.prog Tryz.f3 [] false w args/\laidMetH Tryz.prog nX w)/\sizedMet enc Tryz.prog Tryz.f3 (OpenSpec.ofChange Rows.encodeFramesSpec) false w args)
   (Rows.encodeFramesSpec.post enc Tryz.prog Tryz.f3 false true false false):=by
 refine returnsInHanded_of_change_and (C:=Tryz.checked) (X:=fun w _=>laidMetH Tryz.prog nX w) (fun _ _ _ hh h=>h.of_heap hh) KN QW Mh Tryz.func3
  (ChangeSpec.witness_at (enc:=enc) (C:=Tryz.checked) (os:=os) (X:=fun w _=>laidMetH Tryz.prog nX w) false (laidWorld os) #[.agg #[(),(),JEu],.agg #[(),(),JEu],.bool false,(),()] 8 rfl Mh Mh Mh Mh Mh (mN os _)) ?_
 intro W base args ds gs Jjx YV hW _ _ hL _;have PJ:∀ (j:Nat) t v,Tryz.f3.params[j]?=some t->args[j]?=some v->Value.okWide Tryz.prog W .any base t v:=YV;have hW':=hW;obtain ⟨p,q,hA0,hV,rfl,hfz,hnd⟩:=hW;have hA:DataW.TrodAll enc Tryz.prog W 0 (fun _=>true) true Tryz.f3.params.toList args.toList ds p:=hA0;rw [Tryz.params3] at hA PJ;obtain ⟨v0,WJ,d0,ds0,p0,q0,JoA,rfl,rfl,h0,r0⟩:=trodAll_cons hA;obtain ⟨v1,vs1,d1,ds1,p1,q1,rfl,rfl,rfl,h1,r1⟩:=trodAll_cons r0;obtain ⟨v2,vs2,d2,ds2,p2,q2,rfl,rfl,rfl,h2,r2⟩:=trodAll_cons r1;obtain ⟨v3,vs3,d3,ds3,p3,q3,rfl,rfl,rfl,h3,r3⟩:=trodAll_cons r2;obtain ⟨v4,vs4,d4,ds4,p4,q4,rfl,rfl,rfl,h4,r4⟩:=trodAll_cons r3;obtain ⟨rfl,rfl,rfl⟩:=trodAll_nil r4;obtain rfl:args=#[v0,v1,v2,v3,v4]:=by cases args;simp_all
 obtain ⟨rfl,rfl⟩:=trodVars_none hV;have k0:=h0;have lt0:∀ x∈p0,x.block<W.heap.size:=by obtain ⟨m,hm⟩:=k0;exact DataW.trod_lt m _ _ _ hm
 obtain ⟨f0,pv0,rfl,NU,hd0⟩:=nO (PJ 0 24 v0 rfl rfl) h0;have k1:=h1;have lt1:∀ x∈p1,x.block<W.heap.size:=by obtain ⟨m,hm⟩:=k1;exact DataW.trod_lt m _ _ _ hm
 obtain ⟨f1,pv1,rfl,Pr,hd1⟩:=nO (PJ 1 24 v1 rfl rfl) h1;obtain ⟨n2,rfl,rfl,rfl⟩:=open_bool Tryz.underlying4 (PJ 2 4 v2 rfl rfl) h2;obtain ⟨n3,rfl,rfl,rfl,w3⟩:=open_int Tryz.underlying3 (PJ 3 3 v3 rfl rfl) h3;obtain ⟨n4,rfl,rfl,rfl,w4⟩:=open_int Tryz.underlying3 (PJ 4 3 v4 rfl rfl) h4;clear hA0 YV;simp only [LA] at hW';refine (uU hd0 NU hd1 Pr n2 n3 n4 (Lm _) (nJ hL)).mono fun e W' ⟨he,hq⟩=>?_
 subst he;have bel:=hq.quiet;exact ⟨_,rfl,_,_,_,[],_,[],hW',trodAll_mk1 (shut_bool Tryz.underlying4 _),(trodAll_cons_mk (Below.trod kR Mh (of_decide_eq_true Mh) k0 bel lt0) (trodAll_cons_mk (Below.trod kR Mh (of_decide_eq_true Mh) k1 bel lt1) (trodAll_cons_mk (shut_bool Tryz.underlying4 _) (trodAll_cons_mk (shut_int Tryz.underlying3 w3) (trodAll_cons_mk (shut_int Tryz.underlying3 w4) trodAll_mk0))))),rfl,bel.frame _,fun h=>Mv⟩
theorem oV:Rows.EncodeFramesSaid :=
 OpenClaim.holds_of_wide 3 Tryz.f3 rfl rfl rfl rfl rfl rfl rfl ⟨rfl,rfl,rfl,rfl,rfl⟩ rfl rfl rfl rfl rfl Mh Tryz.func3 Mh
  (of_decide_eq_true Mh) (by unfold Func.isWrapper;first | (rw [if_pos My];kernel_rfl) | (rw [if_neg My];exact ⟨rfl,rfl⟩))
  (fun os QW H enc _=>mC os QW H enc)
theorem encodeFrames_holds:Rows.EncodeFramesCardSaid :=
 Claim7.holds_tied_plain_at .later [] [.handle] true _ true
  oV (fun _ h=>Mv) Mh (fun _ h=>Mv) encodeFrames_row_tie rfl ⟨rfl,rfl⟩ Mh rfl
  (fun f fn hf hfn=>by
   obtain rfl:f=3:=Option.some.inj ((show Tryz.prog.funcNamed "kinescope/kinlaw22.EncodeFrames"=some 3 by kernel_rfl).symm.trans hf) |>.symm;obtain rfl:fn=Tryz.f3:=(Option.some.inj (Tryz.func3.symm.trans hfn)).symm;exact ⟨Mh,fun j t ht=>by
    rw [Tryz.params3] at ht;have hm:t∈[24,24,4,3,3]:=by simpa using Array.mem_of_getElem? ht
    have NQ:([24,24,4,3,3].all fun u=>!Tryz.prog.wantsStandIn u)=true:=Mh;exact (show Tryz.prog.wantsStandIn t=false by simpa using List.all_eq_true.1 NQ t hm)⟩)
  Mh
end Go.Proofs.YthcafdfdglfabaaGreatDoor
