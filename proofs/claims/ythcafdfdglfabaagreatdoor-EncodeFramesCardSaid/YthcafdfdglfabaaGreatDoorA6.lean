/- Joined texts: DSqJ, DRkSe. Conditions: each part names its own. -/
import Derived.Test.YthcafdfdglfabaaGreatDoorA5
namespace Go.Proofs.YthcafdfdglfabaaGreatDoor
open Go.RowKit
set_option linter.unusedVariables false
set_option linter.unusedSimpArgs false
set_option maxRecDepth 100000
set_option maxHeartbeats 16000000
theorem vZ {P:Program} {w:World} {o:Oper} {a:Act} {K:Act->World->Prop} {Q:Exit->Act->World->Prop} (x y:Operand) (t:TypeId) (ho:o.op=.store t x y)
  {g:Nat} {c c':Array Value} {ty:TypeId} (hx:a.eval x=.pointer (some ⟨g,0,none⟩)) (hy:a.eval y=.agg c') (hr:w.heap[g]?=some (.cells c ty (0,0))) (hi:(P.info? t).map (·.size)=some c'.size) (hs:c.size=c'.size) (h1:c'.all (·.oneCell')=true)
  (h:K (a.put o.dst undef) (w.setRow g c')):o.wp P a w K Q:=by
 unfold Oper.wp execOp;simp only [ho,hx,hy,Instr.storeAt,Instr.sureAddr,Sem.run_bind,Sem.run_pure,Result.andThen_ok,run_storeVar_row w g ty t c c' hr hi hs h1];exact h
theorem aS {p:Prop} (h:p:=by intro wz OP;obtain ⟨UQ,hS1⟩:=OP;obtain ⟨a0,a1,a2⟩:=ag UQ;obtain ⟨c0,c1,-⟩:=aJ hS1;go_simp;try with_reducible rfl):p:=h
def jk (_ _:Nat) (_:World):Prop:=True
theorem jk.only {l h:Nat} {w w':World} {S:List Nat} (_:jk l h w) (_:ae S w w') (_:∀ g∈S,g<l\/h<=g):jk l h w':=trivial
theorem jA (a b:Value):(Tryz.prog.info? 39).map (·.size)=some (#[a,b]:Array Value).size:=aR _ rfl
section
variable {P:Program}
theorem aL {w:World} {o:Oper} {a:Act} {K:Act->World->Prop} {Q:Exit->Act->World->Prop} (x y:Operand) (t:TypeId) (ho:o.op=.store t x y)
  {g:Nat} {c c':Array Value} {ty:TypeId} (hx:a.eval x=.pointer (some ⟨g,0,none⟩)) (hy:a.eval y=.agg c') (hr:w.heap[g]?=some (.cells c ty (0,0))) (hi:(P.info? t).map (·.size)=some c'.size) (hs:c.size=c'.size) (h1:c'.all (·.oneCell')=true)
  (h:∀ w',ae [g] w w'->w'.heap[g]?=some (.cells c' ty (0,0))->K (a.put o.dst undef) w'):o.wp P a w K Q :=
 vZ x y t ho hx hy hr hi hs h1 (h _ (ae.setRow (ae.refl _ _) (fun _=>Mg) _) (setRow_heap _ _ _ _ _ _ hr))
end
section
theorem BU {p:Prop} (h:p:=by
 go_enter Tryz.func152,Tryz.ntmps152;go_wp2_with fail;go_ret;exact ⟨aK (by rw [HM.out];simp [h1,h2,h3] <;> (intros;omega)),HQ.out⟩):p:=h
theorem Ji (vx vy:Int) (w:World):Calls Tryz.prog 152 #[.agg #[vx,vy]] w fun e w'=>e=.returned (.bool (kF (vx,vy)))/\ae [] w w':=by
 have HQ:=lh (ae.new w (.cells #[vx,vy] 73));have HM:Hid (kF (vx,vy)=(decide (-15<=vx) && decide (vx<=15) && decide (-15<=vy) && decide (vy<=15))):=lh rfl;by_cases h1:-15<=vx
 ·by_cases h2:vx<=15
  ·by_cases h3:-15<=vy
   ·exact BU
   ·exact BU
  ·go_enter Tryz.func152,Tryz.ntmps152
   go_wp2_with fail;go_ret;exact ⟨aK (by rw [HM.out];simp [h1,h2] <;> (intros;omega)),HQ.out⟩
 ·go_enter Tryz.func152,Tryz.ntmps152
  go_wp2_with fail;go_ret;exact ⟨aK (by rw [HM.out];simp [h1] <;> (intros;omega)),HQ.out⟩
theorem qx {p:Prop} (h:p:=by
 clear hK K;refine wpAnyH_done Mh ?_ _;go_wp2_with fail;go_meet;exact ⟨bE,l1,rfl,rfl,o,HE,Nh,HK,VM⟩):p:=h
theorem ou {p:Prop} (h:p:=by
 exact OH.out _ (by first | exact o | exact o.drew)):p:=h
theorem BM {p:Prop} (h:p:=by
 obtain ⟨v,rfl⟩:∃ z,z=v':=⟨_,rfl⟩
 refine hK.out _ _ ?_ (fun hHeld=>?_)
 ·exact ou
 clear hK K;refine rdy (rdc 7 136 (fun K hK=>?_) .nil);go_simp;go_at_call 96;refine (Jiq.out _ (by first | exact o | exact o.drew) _ (by first | exact TC | exact TC.quiet (ae.refl _ _).drew)).mono ?_;rintro e v' ⟨rfl,hq⟩;obtain ⟨l1,Pf⟩:∃ z,z=v.heap.size:=⟨_,rfl⟩
 have PE:jk l1 l1 v':=trivial;have Ry:v.heap.size<=l1:=Mf;have PF:l1<=v'.heap.size:=by rw [Pf];first | exact hq.size | exact ((ae.refl _ _).drew.q hq).size
 clear Pf;have q:ae [] v v':=by first | exact hq | exact ((ae.refl _ _).drew).q hq
 have Pp:Wm.heap.size<=v.heap.size:=o.size;have VM:Hid (Wm.heap.size<=bE/\(bE<l1\/l1<=bE)):=lh (by have:=(Array.getElem?_eq_some_iff.1 HE).1;have:=HzE.out;exact ⟨Mf,.inl Mf⟩);replace HE:=lh (q.row HE);replace TC:Hid (ah .i64 0 v'.heap.size v' (.slice (some ⟨g2,0,none⟩) (ar f x y 8 X Y).length c2) (ar f x y 8 X Y)):=lh ((TC.quiet q).mono (Lm _) q.size);have HK:=lh PE;have Nh:Hid (Wm.heap.size<=l1/\l1<=v'.heap.size):=lh ⟨Mf,PF⟩;replace o:=lh (o.q q);clear hq q PE Ry PF Pp;obtain ⟨v,rfl⟩:∃ z,z=v':=⟨_,rfl⟩
 refine hK.out _ _ ?_ (fun hHeld=>?_)
 ·exact ou
 clear hK K;refine tkw 8 128 ⟨rfl,aS⟩ ?_;refine tkw 9 137 ⟨rfl,aS⟩ ?_;refine tkw 10 138 ⟨rfl,aS⟩ ?_;refine tkw 12 24 ⟨rfl,aS⟩ ?_;refine rdy (rdn 13 (fun K hK=>?_) .nil);refine aL (.tmp 25) (.tmp 138) 39 rfl (g:=bE) (c':=#[(),JEu]) rfl rfl HE (jA _ _) rfl (by first | kernel_rfl | simp [Value.oneCell']) (fun v' hq hr=>?_);have q:ae [bE] v v':=by first | exact hq | exact ((ae.refl _ _).drew.mono (U:=[bE]) Mg).trans hq (fun g h _=>h) (fun g h _=>h)
 replace HE:=lh hr;replace HK:Hid (jk l1 l1 v'):=lh (HK.only q (fun g hg=>by rw [mSg] at hg;subst hg;exact VM.2));replace Nh:Hid (Wm.heap.size<=l1/\l1<=v'.heap.size):=lh ⟨Nh.1,Lz Nh.2 q.size⟩;replace o:Hid (ae [] Wm v'):=lh (o.trans q Mg (fun g hg MO=>by rw [mSg] at hg;have:=VM.1;omega));clear hq hr q;obtain ⟨v,rfl⟩:∃ z,z=v':=⟨_,rfl⟩
 refine hK.out _ _ ?_ (fun hHeld=>?_)
 ·exact ou
 exact qx):p:=h
theorem ow {p:Prop} (h:p:=by
 exact NT.out _ (by first | exact o | exact o.drew)):p:=h
theorem BN {p:Prop} (h:p:=by
 obtain ⟨v,rfl⟩:∃ z,z=v':=⟨_,rfl⟩
 refine hK.out _ _ ?_ (fun hHeld=>?_)
 ·exact ow
 clear hK K;refine rdy (rdc 7 99 (fun K hK=>?_) .nil);go_simp;go_at_call 96;refine (Jip.out _ (by first | exact o | exact o.drew) _ (by first | exact TB | exact TB.quiet (ae.refl _ _).drew)).mono ?_;rintro e v' ⟨rfl,hq⟩;obtain ⟨l1,Pf⟩:∃ z,z=v.heap.size:=⟨_,rfl⟩
 have PE:jk l1 l1 v':=trivial;have Ry:v.heap.size<=l1:=Mf;have PF:l1<=v'.heap.size:=by rw [Pf];first | exact hq.size | exact ((ae.refl _ _).drew.q hq).size
 clear Pf;have q:ae [] v v':=by first | exact hq | exact ((ae.refl _ _).drew).q hq
 have Pp:Wv.heap.size<=v.heap.size:=o.size;have VM:Hid (Wv.heap.size<=bE/\(bE<l1\/l1<=bE)):=lh (by have:=(Array.getElem?_eq_some_iff.1 HE).1;have:=HzE.out;exact ⟨Mf,.inl Mf⟩);replace HE:=lh (q.row HE);replace TB:Hid (ah .i64 0 v'.heap.size v' (.slice (some ⟨g1,0,none⟩) (ar f x y 8 X Y).length c1) (ar f x y 8 X Y)):=lh ((TB.quiet q).mono (Lm _) q.size);have HK:=lh PE;have Nh:Hid (Wv.heap.size<=l1/\l1<=v'.heap.size):=lh ⟨Mf,PF⟩;replace o:=lh (o.q q);clear hq q PE Ry PF Pp;obtain ⟨v,rfl⟩:∃ z,z=v':=⟨_,rfl⟩
 refine hK.out _ _ ?_ (fun hHeld=>?_)
 ·exact ow
 clear hK K;refine tkw 8 91 ⟨rfl,aS⟩ ?_;refine tkw 9 100 ⟨rfl,aS⟩ ?_;refine tkw 10 101 ⟨rfl,aS⟩ ?_;refine tkw 12 18 ⟨rfl,aS⟩ ?_;refine rdy (rdn 13 (fun K hK=>?_) .nil);refine aL (.tmp 19) (.tmp 101) 39 rfl (g:=bE) (c':=#[(),JEu]) rfl rfl HE (jA _ _) rfl (by first | kernel_rfl | simp [Value.oneCell']) (fun v' hq hr=>?_);have q:ae [bE] v v':=by first | exact hq | exact ((ae.refl _ _).drew.mono (U:=[bE]) Mg).trans hq (fun g h _=>h) (fun g h _=>h)
 replace HE:=lh hr;replace HK:Hid (jk l1 l1 v'):=lh (HK.only q (fun g hg=>by rw [mSg] at hg;subst hg;exact VM.2));replace Nh:Hid (Wv.heap.size<=l1/\l1<=v'.heap.size):=lh ⟨Nh.1,Lz Nh.2 q.size⟩;replace o:Hid (ae [] Wv v'):=lh (o.trans q Mg (fun g hg MO=>by rw [mSg] at hg;have:=VM.1;omega));clear hq hr q;obtain ⟨v,rfl⟩:∃ z,z=v':=⟨_,rfl⟩
 refine hK.out _ _ ?_ (fun hHeld=>?_)
 ·exact ow
 exact qx):p:=h
theorem ox {p:Prop} (h:p:=by
 exact Zi.out _ (by first | exact o | exact o.drew)):p:=h
theorem BO {p:Prop} (h:p:=by
 obtain ⟨v,rfl⟩:∃ z,z=v':=⟨_,rfl⟩
 refine hK.out _ _ ?_ (fun hHeld=>?_)
 ·exact ox
 clear hK K;refine rdy (rdc 7 69 (fun K hK=>?_) .nil);go_simp;go_at_call 96;refine (Jfn.out _ (by first | exact o | exact o.drew) _ (by first | exact TA | exact TA.quiet (ae.refl _ _).drew)).mono ?_;rintro e v' ⟨rfl,hq⟩;obtain ⟨l1,Pf⟩:∃ z,z=v.heap.size:=⟨_,rfl⟩
 have PE:jk l1 l1 v':=trivial;have Ry:v.heap.size<=l1:=Mf;have PF:l1<=v'.heap.size:=by rw [Pf];first | exact hq.size | exact ((ae.refl _ _).drew.q hq).size
 clear Pf;have q:ae [] v v':=by first | exact hq | exact ((ae.refl _ _).drew).q hq
 have Pp:W6.heap.size<=v.heap.size:=o.size;have VM:Hid (W6.heap.size<=bE/\(bE<l1\/l1<=bE)):=lh (by have:=(Array.getElem?_eq_some_iff.1 HE).1;have:=HzE.out;exact ⟨Mf,.inl Mf⟩);replace HE:=lh (q.row HE);replace TA:Hid (ah .i64 0 v'.heap.size v' (.slice (some ⟨g0,0,none⟩) (ar f x y 8 0 0).length c0) (ar f x y 8 0 0)):=lh ((TA.quiet q).mono (Lm _) q.size);have HK:=lh PE;have Nh:Hid (W6.heap.size<=l1/\l1<=v'.heap.size):=lh ⟨Mf,PF⟩;replace o:=lh (o.q q);clear hq q PE Ry PF Pp;obtain ⟨v,rfl⟩:∃ z,z=v':=⟨_,rfl⟩
 refine hK.out _ _ ?_ (fun hHeld=>?_)
 ·exact ox
 clear hK K;refine tkw 8 61 ⟨rfl,aS⟩ ?_;refine tkw 9 70 ⟨rfl,aS⟩ ?_;refine tkw 10 71 ⟨rfl,aS⟩ ?_;refine tkw 12 13 ⟨rfl,aS⟩ ?_;refine rdy (rdn 13 (fun K hK=>?_) .nil);refine aL (.tmp 14) (.tmp 71) 39 rfl (g:=bE) (c':=#[(),JEu]) rfl rfl HE (jA _ _) rfl (by first | kernel_rfl | simp [Value.oneCell']) (fun v' hq hr=>?_);have q:ae [bE] v v':=by first | exact hq | exact ((ae.refl _ _).drew.mono (U:=[bE]) Mg).trans hq (fun g h _=>h) (fun g h _=>h)
 replace HE:=lh hr;replace HK:Hid (jk l1 l1 v'):=lh (HK.only q (fun g hg=>by rw [mSg] at hg;subst hg;exact VM.2));replace Nh:Hid (W6.heap.size<=l1/\l1<=v'.heap.size):=lh ⟨Nh.1,Lz Nh.2 q.size⟩;replace o:Hid (ae [] W6 v'):=lh (o.trans q Mg (fun g hg MO=>by rw [mSg] at hg;have:=VM.1;omega));clear hq hr q;obtain ⟨v,rfl⟩:∃ z,z=v':=⟨_,rfl⟩
 refine hK.out _ _ ?_ (fun hHeld=>?_)
 ·exact ox
 exact qx):p:=h
theorem vN {p:Prop} (h:p:=by
 exact qx):p:=h
theorem oy {p:Prop} (h:p:=by
 exact ox):p:=h
theorem oz {p:Prop} (h:p:=by
 exact ow):p:=h
theorem oA {p:Prop} (h:p:=by
 exact ou):p:=h
theorem BR {p:Prop} (h:p:=by
 have Rq:=lh Tm;clear Tm;go_wp2_with fail;exact ⟨⟨n+1,s,Mf,Mm,rfl,lh (by rw [Ox.out,Rq.out]),HBn,RU⟩,Mk⟩):p:=h
theorem xw {lo hi lo' hi' r:Nat} {pv bv:Value} {w:World} {f:ai} {b:List Int} (MU:FrOk f) (h:ah .i64 lo hi w pv f.pix) (hb:ah .i64 lo' hi' w bv b) (lb:b.length=64) (sb:au b) (x y:Int) (hx:0<=x/\x+8<=f.W) (hy:0<=y/\y+8<=f.H) (hr:r<=7) (Ww:hi<=w.heap.size) (Jas:hi'<=w.heap.size) :
  Calls Tryz.prog 95 #[.agg #[f.W,f.H,pv],bv,x,y,r] w fun e w'=>(e=.returned (.tuple #[.agg #[.int .i64 (aZ f b x y r).vx,.int .i64 (aZ f b x y r).vy],.agg #[(),JEu]])/\ae [] w w'):=by
 refine aN fun Q MM=>?_
 have HF:=lh (And.intro MU (And.intro (show 0<=x/\x<=32 by have:=MU.w1;omega) (show 0<=y/\y<=32 by have:=MU.h1;omega)));have HB:=lh (And.intro lb (And.intro sb (fun vx vy:Int=>cD MU.sam x y 8 vx vy)));have HM:=lh (fun (W:World) (o:ae [] w W)=>by have:=gU f.W f.H (h.quiet o);rw [show dV ⟨f.W,f.H,f.pix⟩=true from dL.2 MU] at this;exact this);have PX:=lh (fun (W:World)=>by have:=lH f.W f.H x y 8 pv W ⟨MU.w0,MU.w1⟩ ⟨MU.h0,MU.h1⟩ Mf;rw [show gA f.W f.H x y 8=true by unfold gA;simp;omega] at this;exact this);have HSa:=lh (fun (W:World) (o:ae [] w W)=>by have:=bS 0 255 (hb.quiet o);rw [show aX b 0 255=true from ee.2 sb] at this;exact this);have HP:=lh (And.intro h hb);have HE:Hid (aZ f b x y r=(tY (il f b x y r).vx (il f b x y r).vy).foldl (dA f b x y) (il f b x y r)):=lh rfl;have H1:Hid (il f b x y r=(nU r).foldl (dA f b x y) (mO f b x y)):=lh rfl;have Jcq:Hid (kL (il f b x y r)):=lh (by
  rw [H1.out];refine Bl _ _ (fun v hv=>?_) (by simp [mO,kL]);unfold nU at hv;obtain ⟨j,hj,hv⟩:=List.mem_flatMap.1 hv;obtain ⟨i,hi,rfl⟩:=List.mem_map.1 hv;rw [Md] at hi hj;simp only;omega)
 have H0:Hid (mO f b x y=⟨0,0,dX (ar f x y 8 0 0) b 0 0⟩):=lh rfl;obtain ⟨pa,pc,rfl,-⟩:=h.open;obtain ⟨qa,qc,rfl,-⟩:=hb.open;rw [lb] at HP HSa |-
 obtain ⟨S0,UQ⟩:∃ z,z=mO f b x y:=⟨_,rfl⟩
 obtain ⟨S1,hS1⟩:∃ z,z=il f b x y r:=⟨_,rfl⟩
 obtain ⟨S2,hS2⟩:∃ z,z=aZ f b x y r:=⟨_,rfl⟩
 rw [<- UQ] at H0 H1;rw [<- hS1] at H1 Jcq HE;rw [<- hS2] at HE MM;have r0:(0:Int)<=(r:Int):=Mf;have r1:(r:Int)<=7:=Mf;have r2:¬ (r:Int)<0:=Mf;have r3:¬ (7:Int)<(r:Int):=Mf;have nr:IntKind.i64.wrap (-(r:Int))=-(r:Int):=Mi;obtain ⟨TY,Xu,Nq,Pg,Sh⟩:=gD w (.cells #[f.W,f.H,.slice pa f.pix.length pc] 24) (.cells #[(),()] 73) (.cells #[(),JEu] 39);have MT:=lh TY;have XT:=lh (And.intro Ww Jas);clear h hb lb sb MU hx hy Ww Jas UQ hS1 hS2 TY hr;obtain ⟨a0,a1,a2⟩:=ag Xu;go_enter Tryz.func95,Tryz.ntmps95;go_wp2_with fail;generalize NB:World.alloc (World.alloc (World.alloc w _) _) _=W1 at *
 clear NB a0 a1 a2;go_at_call 60;refine (HM.out W1 MT).mono ?_;rintro e w3 ⟨rfl,Nb⟩;obtain ⟨a0,a1,a2⟩:=ag (Nb.row Xu);have HX3:=lh Nb;clear Nb HM;go_wp2_with fail;go_at_call 154;refine (PX.out w3).mono ?_;rintro e w4 ⟨rfl,Ng⟩;have Yt:=lh (HX3.q Ng);clear Ng PX a0 a1 a2;go_wp2_with fail;go_at_call 61;refine (HSa.out w4 (MT.q Yt)).mono ?_;rintro e w5 ⟨rfl,hw5⟩;subst hw5;clear HSa;have HB6:=lh (heap_alloc_new w4 (.cells #[(),()] 73));have HX6:=lh (Yt.q (ae.new w4 (.cells #[(),()] 73)));have Sn:Hid (w.heap.size+1+1<w4.heap.size):=lh (by have:=Yt.size;have:=Sh.out;omega);go_upto_region 10 with (fail)
 generalize hW6:World.alloc w4 _=W6 at *
 clear hW6;obtain ⟨BV,hBV⟩:∃ z,z=w4.heap.size:=⟨_,rfl⟩
 rw [<- hBV] at HB6 Sn |-
 clear hBV;have OI:=lh (MT.q HX6);have HPW:Hid (∀ W,ae [BV] W6 W->ah .i64 lo hi W (.slice pa f.pix.length pc) f.pix/\ah .i64 lo' hi' W (.slice qa 64 qc) b):=lh (fun W o=>by
  have z1:=Sn.out;have z2:=XT.out;exact ⟨(HP.1.quiet OI).only o (fun g hg=>Mj),(HP.2.quiet OI).only o (fun g hg=>Mj)⟩)
 have JiN:=lh (fun (W:World) (o:ae [] W6 W)=>HPW.out W (o.mono Mg));obtain ⟨k0,NU⟩:∃ z,z=dX (ar f x y 8 0 0) b 0 0:=⟨_,rfl⟩
 have Jim:=lh (fun (W:World) (o:ae [] W6 W)=>gG HF.1 (JiN.out W o).1 x y (0) (0) HF.2.1 HF.2.2 Mf Mf);have Jfn:=lh (fun (W:World) (o:ae [] W6 W) (gv:Value) (hv:ah .i64 0 W.heap.size W gv (ar f x y 8 0 0))=>lF (vx:=0) (vy:=0) hv (JiN.out W o).2 (by rw [aD];exact HB.1) Mx (HB.2.2 (0) (0)) HB.2.1 Mf Mf);rw [<- NU] at Jfn;have Hk0:=lh NU;clear NU;have Zi:Hid (∀ wx:World,ae [] W6 wx->wx.heap[w.heap.size]?=some (.cells #[f.W,f.H,.slice pa f.pix.length pc] 24 (0,0))/\wx.heap[BV]?=some (.cells #[(),()] 73 (0,0))):=lh (fun wx o=>⟨o.row (HX6.row Xu),o.row (HB6.out)⟩);go_cut [14,13] (fun sE s13 wx=>∃ (bE:Nat) (l1:Nat),sE=.pointer (some ⟨bE,0,none⟩)/\s13=.int .i64 k0/\Hid (ae [] W6 wx)/\Hid (wx.heap[bE]?=some (.cells #[(),JEu] 39 (0,0)))/\Hid (W6.heap.size<=l1/\l1<=wx.heap.size)/\Hid (jk l1 l1 wx)/\Hid (W6.heap.size<=bE/\(bE<l1\/l1<=bE)))
 case first =>
  have o:=lh (ae.refl [] W6);refine wp_region_held_drew (S:=(fun wz=>wz.heap[w.heap.size]?=some (.cells #[f.W,f.H,.slice pa f.pix.length pc] 24 (0,0))/\wz.heap[BV]?=some (.cells #[(),()] 73 (0,0)))) Mh ?_ (fun hHeld=>?_)
  ·first | exact Zi.out _ (ae.refl _ _) | exact Zi.out _ (ae.refl _ _).drew
  refine tkw 0 62 ⟨rfl,aS⟩ ?_;refine tkw 1 63 ⟨rfl,aS⟩ ?_;refine tkw 2 64 ⟨rfl,aS⟩ ?_;refine tkw 3 65 ⟨rfl,aS⟩ ?_;refine tkw 5 67 ⟨rfl,aS⟩ ?_;refine tkw 6 68 ⟨rfl,aS⟩ ?_;refine rdy (rdc 4 66 (fun K hK=>?_) (rdc 11 14 (fun K hK=>?_) .nil))
  ·go_simp
   go_at_call 94;refine (Jim.out _ (by first | exact o | exact o.drew)).mono ?_;rintro e v' ⟨vv,rfl,Oc,hq⟩;obtain ⟨g0,c0,rfl,-,-⟩:=Oc.form Mx;have hP:ah .i64 0 v'.heap.size v' (.slice (some ⟨g0,0,none⟩) (ar f x y 8 0 0).length c0) (ar f x y 8 0 0):=Oc.ints.mono (Mc _) (Lm _);clear Oc;have q:ae [] W6 v':=by first | exact hq | exact ((ae.refl _ _).drew).q hq
   have TA:=lh hP;replace o:=lh (o.q q);clear hq q hP;obtain ⟨v,rfl⟩:∃ z,z=v':=⟨_,rfl⟩
   refine hK.out _ _ ?_ (fun hHeld=>?_)
   ·exact oy
   clear hK K;refine rdy (rdc 7 69 (fun K hK=>?_) (rdc 11 14 (fun K hK=>?_) .nil))
   ·go_simp
    go_at_call 96;refine (Jfn.out _ (by first | exact o | exact o.drew) _ (by first | exact TA | exact TA.quiet (ae.refl _ _).drew)).mono ?_;rintro e v' ⟨rfl,hq⟩;obtain ⟨l1,Pf⟩:∃ z,z=v.heap.size:=⟨_,rfl⟩
    have PE:jk l1 l1 v':=trivial;have Ry:v.heap.size<=l1:=Mf;have PF:l1<=v'.heap.size:=by rw [Pf];first | exact hq.size | exact ((ae.refl _ _).drew.q hq).size
    clear Pf;have q:ae [] v v':=by first | exact hq | exact ((ae.refl _ _).drew).q hq
    have Pp:W6.heap.size<=v.heap.size:=o.size;replace TA:Hid (ah .i64 0 v'.heap.size v' (.slice (some ⟨g0,0,none⟩) (ar f x y 8 0 0).length c0) (ar f x y 8 0 0)):=lh ((TA.quiet q).mono (Lm _) q.size);have HK:=lh PE;have Nh:Hid (W6.heap.size<=l1/\l1<=v'.heap.size):=lh ⟨Mf,PF⟩;replace o:=lh (o.q q);clear hq q PE Ry PF Pp;obtain ⟨v,rfl⟩:∃ z,z=v':=⟨_,rfl⟩
    refine hK.out _ _ ?_ (fun hHeld=>?_)
    ·exact oy
    clear hK K;refine tkw 8 61 ⟨rfl,aS⟩ ?_;refine tkw 9 70 ⟨rfl,aS⟩ ?_;refine tkw 10 71 ⟨rfl,aS⟩ ?_;refine rdy (rdc 11 14 (fun K hK=>?_) .nil);go_simp;generalize hW:World.alloc _ _=v';have q:ae [] v v':=by rw [<- hW];first | exact ae.new _ _ | exact ((ae.refl _ _).drew).q (ae.new _ _)
    have HE:Hid (v'.heap[v.heap.size]?=some (.cells #[(),JEu] 39 (0,0))):=lh (by rw [<- hW];exact heap_alloc_new _ _);have hz:W6.heap.size<=v.heap.size:=o.size;have VM:Hid (W6.heap.size<=v.heap.size/\(v.heap.size<l1\/l1<=v.heap.size)):=lh ⟨hz,.inr Nh.2⟩;replace HK:Hid (jk l1 l1 v'):=lh (HK.only q Mg);replace Nh:Hid (W6.heap.size<=l1/\l1<=v'.heap.size):=lh ⟨Nh.1,Lz Nh.2 q.size⟩;replace TA:Hid (ah .i64 0 v'.heap.size v' (.slice (some ⟨g0,0,none⟩) (ar f x y 8 0 0).length c0) (ar f x y 8 0 0)):=lh ((TA.quiet q).mono (Lm _) q.size);replace o:=lh (o.q q);clear hW q;generalize hb:v.heap.size=bE at HE VM |-
    have HzE:Hid (W6.heap.size<=bE):=lh (by rw [<- hb];exact hz);clear hb hz;obtain ⟨v,rfl⟩:∃ z,z=v':=⟨_,rfl⟩
    refine hK.out _ _ ?_ (fun hHeld=>?_)
    ·exact oy
    clear hK K;refine tkw 12 13 ⟨rfl,aS⟩ ?_;refine rdy (rdn 13 (fun K hK=>?_) .nil);refine aL (.tmp 14) (.tmp 71) 39 rfl (g:=bE) (c':=#[(),JEu]) rfl rfl HE (jA _ _) rfl (by first | kernel_rfl | simp [Value.oneCell']) (fun v' hq hr=>?_);have q:ae [bE] v v':=by first | exact hq | exact ((ae.refl _ _).drew.mono (U:=[bE]) Mg).trans hq (fun g h _=>h) (fun g h _=>h)
    replace HE:=lh hr;replace HK:Hid (jk l1 l1 v'):=lh (HK.only q (fun g hg=>by rw [mSg] at hg;subst hg;exact VM.2));replace Nh:Hid (W6.heap.size<=l1/\l1<=v'.heap.size):=lh ⟨Nh.1,Lz Nh.2 q.size⟩;replace o:Hid (ae [] W6 v'):=lh (o.trans q Mg (fun g hg MO=>by rw [mSg] at hg;have:=VM.1;omega));clear hq hr q;obtain ⟨v,rfl⟩:∃ z,z=v':=⟨_,rfl⟩
    refine hK.out _ _ ?_ (fun hHeld=>?_)
    ·exact oy
    exact vN
   ·go_simp
    generalize hW:World.alloc _ _=v';have q:ae [] v v':=by rw [<- hW];first | exact ae.new _ _ | exact ((ae.refl _ _).drew).q (ae.new _ _)
    have HE:Hid (v'.heap[v.heap.size]?=some (.cells #[(),JEu] 39 (0,0))):=lh (by rw [<- hW];exact heap_alloc_new _ _);have hz:W6.heap.size<=v.heap.size:=o.size;replace TA:Hid (ah .i64 0 v'.heap.size v' (.slice (some ⟨g0,0,none⟩) (ar f x y 8 0 0).length c0) (ar f x y 8 0 0)):=lh ((TA.quiet q).mono (Lm _) q.size);replace o:=lh (o.q q);clear hW q;generalize hb:v.heap.size=bE at HE |-
    have HzE:Hid (W6.heap.size<=bE):=lh (by rw [<- hb];exact hz);clear hb hz;exact BO
  ·go_simp
   generalize hW:World.alloc _ _=v';have q:ae [] W6 v':=by rw [<- hW];first | exact ae.new _ _ | exact ((ae.refl _ _).drew).q (ae.new _ _)
   have HE:Hid (v'.heap[W6.heap.size]?=some (.cells #[(),JEu] 39 (0,0))):=lh (by rw [<- hW];exact heap_alloc_new _ _);have hz:W6.heap.size<=W6.heap.size:=o.size;replace o:=lh (o.q q);clear hW q;generalize hb:W6.heap.size=bE at HE |-
   have HzE:Hid (W6.heap.size<=bE):=lh (by rw [<- hb];exact hz);clear hb hz;obtain ⟨v,rfl⟩:∃ z,z=v':=⟨_,rfl⟩
   refine hK.out _ _ ?_ (fun hHeld=>?_)
   ·exact oy
   clear hK K;refine rdy (rdc 4 66 (fun K hK=>?_) .nil);go_simp;go_at_call 94;refine (Jim.out _ (by first | exact o | exact o.drew)).mono ?_;rintro e v' ⟨vv,rfl,Oc,hq⟩;obtain ⟨g0,c0,rfl,-,-⟩:=Oc.form Mx;have hP:ah .i64 0 v'.heap.size v' (.slice (some ⟨g0,0,none⟩) (ar f x y 8 0 0).length c0) (ar f x y 8 0 0):=Oc.ints.mono (Mc _) (Lm _);clear Oc;have q:ae [] v v':=by first | exact hq | exact ((ae.refl _ _).drew).q hq
   replace HE:=lh (q.row HE);have TA:=lh hP;replace o:=lh (o.q q);clear hq q hP;exact BO
 case rest =>
  obtain ⟨bE,l1,rfl,rfl,RH,-,-,-,-⟩:=hcut;obtain ⟨W7,hW7⟩:∃ z,z=wc:=⟨_,rfl⟩
  subst hW7;have Zi:Hid (W7.heap[BV]?=some (.cells #[S0.vx,S0.vy] 73 (0,0))):=lh (by rw [H0.out];exact RH.row HB6);have HC0:Hid (k0=S0.cost):=lh (by rw [H0.out,Hk0.out]);rw [HC0.out];have HF7:=lh (RH.row (HX6.row Xu));have JmO:=lh (fun (W:World) (o:ae [BV] W7 W)=>HPW.out W (RH.trans o Mg (fun _ h _=>h)));clear Hk0 Jim Jfn JiN
  go_upto_block 1 with (fail)
  go_cut [13] (fun s13 wx=>s13=.int .i64 S1.cost/\Hid (wx.heap[BV]?=some (.cells #[S1.vx,S1.vy] 73 (0,0)))/\Hid (ae [BV] W7 wx))
  case first =>
   go_wp2_with fail;go_loopw [15,13,16,17,18,19] (fun a c _ _ _ _ wr=>∃ (k:Nat) (s:kD),k<=2*r+1/\a=.int .i64 ((k:Int)-r)/\c=.int .i64 s.cost/\Hid (s=(cE r k 0).foldl (dA f b x y) S0)/\Hid (wr.heap[BV]?=some (.cells #[s.vx,s.vy] 73 (0,0)))/\Hid (ae [BV] W7 wr)) (fun a _ _ _ _ _ _=>((r:Int)+1-intOf a).toNat)
   case atStart=>exact ⟨0,S0,Mf,by first | rfl | go_num,rfl,lh (by simp [cE]),Zi,lh (ae.refl _ _)⟩
   case round =>
    obtain ⟨k,s,hk,rfl,rfl,HSs,Oi,MW⟩:=hrel;by_cases MO:k<2*r+1
    ·have Ny:(k:Int)-r<=r:=Mf
     go_wp2_with fail;go_loopw [16,13,17,18,19] (fun a c _ _ _ wr=>∃ (n:Nat) (s:kD),n<=2*r+1/\a=.int .i64 ((n:Int)-r)/\c=.int .i64 s.cost/\Hid (s=(cE r k n).foldl (dA f b x y) S0)/\Hid (wr.heap[BV]?=some (.cells #[s.vx,s.vy] 73 (0,0)))/\Hid (ae [BV] W7 wr)) (fun a _ _ _ _ _=>((r:Int)+1-intOf a).toNat)
     case atStart=>exact ⟨0,s,Mf,by first | rfl | go_num,rfl,HSs,Oi,MW⟩
     case round =>
      obtain ⟨n,s,hn,rfl,rfl,Sy,Jcw,Oh⟩:=hrel;by_cases YO:n<2*r+1
      ·have XH:(n:Int)-r<=r:=Mf
       have Ox:Hid ((cE r k (n+1)).foldl (dA f b x y) S0=dA f b x y s (2*((n:Int)-r),2*((k:Int)-r))):=lh (by rw [jX,List.foldl_append,<- Sy.out];rfl);have hXY:(-15<=2*((n:Int)-r)/\2*((n:Int)-r)<=15)/\(-15<=2*((k:Int)-r)/\2*((k:Int)-r)<=15):=Mf;have HXY:=lh hXY;have HVv:=lh (heap_alloc_new wr (.cells #[.int .i64 (2*((n:Int)-r)),.int .i64 (2*((k:Int)-r))] 73));have HQv:=lh (ae.new wr (.cells #[.int .i64 (2*((n:Int)-r)),.int .i64 (2*((k:Int)-r))] 73));clear hXY Sy;go_upto_region 18 with (fail)
       generalize hWv:World.alloc wr _=Wv at *
       clear hWv;generalize 2*((n:Int)-r)=X at *
       generalize 2*((k:Int)-r)=Y at *
       generalize wr.heap.size=G at *
       have JiP:=lh (Oh.trans HQv (U:=[BV]) (fun _ h _=>h) Mg);have HFv:=lh (JiP.rowAt HF7 (by rw [mSg];have:=Sn.out;omega));have Jrx:=lh (HQv.row Jcw);have JmQ:=lh (fun (W:World) (o:ae [] Wv W)=>JmO.out W (JiP.trans o (U:=[BV]) (fun _ h _=>h) Mg));obtain ⟨k1,Pr⟩:∃ z,z=dX (ar f x y 8 X Y) b X Y:=⟨_,rfl⟩
       have Jmf:=lh (fun (W:World) (o:ae [] Wv W)=>gG HF.1 (JmQ.out W o).1 x y (X) (Y) HF.2.1 HF.2.2 HXY.1 HXY.2);have Jip:=lh (fun (W:World) (o:ae [] Wv W) (gv:Value) (hv:ah .i64 0 W.heap.size W gv (ar f x y 8 X Y))=>lF (vx:=X) (vy:=Y) hv (JmQ.out W o).2 (by rw [aD];exact HB.1) Mx (HB.2.2 (X) (Y)) HB.2.1 HXY.1 HXY.2);rw [<- Pr] at Jip;have Zk:=lh Pr;clear Pr;have NT:Hid (∀ wx:World,ae [] Wv wx->wx.heap[w.heap.size]?=some (.cells #[f.W,f.H,.slice pa f.pix.length pc] 24 (0,0))/\wx.heap[G]?=some (.cells #[X,Y] 73 (0,0))):=lh (fun wx o=>⟨o.row (HFv.out),o.row (HVv.out)⟩);go_cut [19,18] (fun sE s18 wx=>∃ (bE:Nat) (l1:Nat),sE=.pointer (some ⟨bE,0,none⟩)/\s18=.int .i64 k1/\Hid (ae [] Wv wx)/\Hid (wx.heap[bE]?=some (.cells #[(),JEu] 39 (0,0)))/\Hid (Wv.heap.size<=l1/\l1<=wx.heap.size)/\Hid (jk l1 l1 wx)/\Hid (Wv.heap.size<=bE/\(bE<l1\/l1<=bE)))
       case first =>
        have o:=lh (ae.refl [] Wv);refine wp_region_held_drew (S:=(fun wz=>wz.heap[w.heap.size]?=some (.cells #[f.W,f.H,.slice pa f.pix.length pc] 24 (0,0))/\wz.heap[G]?=some (.cells #[X,Y] 73 (0,0)))) Mh ?_ (fun hHeld=>?_)
        ·first | exact NT.out _ (ae.refl _ _) | exact NT.out _ (ae.refl _ _).drew
        refine tkw 0 92 ⟨rfl,aS⟩ ?_;refine tkw 1 93 ⟨rfl,aS⟩ ?_;refine tkw 2 94 ⟨rfl,aS⟩ ?_;refine tkw 3 95 ⟨rfl,aS⟩ ?_;refine tkw 5 97 ⟨rfl,aS⟩ ?_;refine tkw 6 98 ⟨rfl,aS⟩ ?_;refine rdy (rdc 4 96 (fun K hK=>?_) (rdc 11 19 (fun K hK=>?_) .nil))
        ·go_simp
         go_at_call 94;refine (Jmf.out _ (by first | exact o | exact o.drew)).mono ?_;rintro e v' ⟨vv,rfl,Oc,hq⟩;obtain ⟨g1,c1,rfl,-,-⟩:=Oc.form Mx;have hP:ah .i64 0 v'.heap.size v' (.slice (some ⟨g1,0,none⟩) (ar f x y 8 X Y).length c1) (ar f x y 8 X Y):=Oc.ints.mono (Mc _) (Lm _);clear Oc;have q:ae [] Wv v':=by first | exact hq | exact ((ae.refl _ _).drew).q hq
         have TB:=lh hP;replace o:=lh (o.q q);clear hq q hP;obtain ⟨v,rfl⟩:∃ z,z=v':=⟨_,rfl⟩
         refine hK.out _ _ ?_ (fun hHeld=>?_)
         ·exact oz
         clear hK K;refine rdy (rdc 7 99 (fun K hK=>?_) (rdc 11 19 (fun K hK=>?_) .nil))
         ·go_simp
          go_at_call 96;refine (Jip.out _ (by first | exact o | exact o.drew) _ (by first | exact TB | exact TB.quiet (ae.refl _ _).drew)).mono ?_;rintro e v' ⟨rfl,hq⟩;obtain ⟨l1,Pf⟩:∃ z,z=v.heap.size:=⟨_,rfl⟩
          have PE:jk l1 l1 v':=trivial;have Ry:v.heap.size<=l1:=Mf;have PF:l1<=v'.heap.size:=by rw [Pf];first | exact hq.size | exact ((ae.refl _ _).drew.q hq).size
          clear Pf;have q:ae [] v v':=by first | exact hq | exact ((ae.refl _ _).drew).q hq
          have Pp:Wv.heap.size<=v.heap.size:=o.size;replace TB:Hid (ah .i64 0 v'.heap.size v' (.slice (some ⟨g1,0,none⟩) (ar f x y 8 X Y).length c1) (ar f x y 8 X Y)):=lh ((TB.quiet q).mono (Lm _) q.size);have HK:=lh PE;have Nh:Hid (Wv.heap.size<=l1/\l1<=v'.heap.size):=lh ⟨Mf,PF⟩;replace o:=lh (o.q q);clear hq q PE Ry PF Pp;obtain ⟨v,rfl⟩:∃ z,z=v':=⟨_,rfl⟩
          refine hK.out _ _ ?_ (fun hHeld=>?_)
          ·exact oz
          clear hK K;refine tkw 8 91 ⟨rfl,aS⟩ ?_;refine tkw 9 100 ⟨rfl,aS⟩ ?_;refine tkw 10 101 ⟨rfl,aS⟩ ?_;refine rdy (rdc 11 19 (fun K hK=>?_) .nil);go_simp;generalize hW:World.alloc _ _=v';have q:ae [] v v':=by rw [<- hW];first | exact ae.new _ _ | exact ((ae.refl _ _).drew).q (ae.new _ _)
          have HE:Hid (v'.heap[v.heap.size]?=some (.cells #[(),JEu] 39 (0,0))):=lh (by rw [<- hW];exact heap_alloc_new _ _);have hz:Wv.heap.size<=v.heap.size:=o.size;have VM:Hid (Wv.heap.size<=v.heap.size/\(v.heap.size<l1\/l1<=v.heap.size)):=lh ⟨hz,.inr Nh.2⟩;replace HK:Hid (jk l1 l1 v'):=lh (HK.only q Mg);replace Nh:Hid (Wv.heap.size<=l1/\l1<=v'.heap.size):=lh ⟨Nh.1,Lz Nh.2 q.size⟩;replace TB:Hid (ah .i64 0 v'.heap.size v' (.slice (some ⟨g1,0,none⟩) (ar f x y 8 X Y).length c1) (ar f x y 8 X Y)):=lh ((TB.quiet q).mono (Lm _) q.size);replace o:=lh (o.q q);clear hW q;generalize hb:v.heap.size=bE at HE VM |-
          have HzE:Hid (Wv.heap.size<=bE):=lh (by rw [<- hb];exact hz);clear hb hz;obtain ⟨v,rfl⟩:∃ z,z=v':=⟨_,rfl⟩
          refine hK.out _ _ ?_ (fun hHeld=>?_)
          ·exact oz
          clear hK K;refine tkw 12 18 ⟨rfl,aS⟩ ?_;refine rdy (rdn 13 (fun K hK=>?_) .nil);refine aL (.tmp 19) (.tmp 101) 39 rfl (g:=bE) (c':=#[(),JEu]) rfl rfl HE (jA _ _) rfl (by first | kernel_rfl | simp [Value.oneCell']) (fun v' hq hr=>?_);have q:ae [bE] v v':=by first | exact hq | exact ((ae.refl _ _).drew.mono (U:=[bE]) Mg).trans hq (fun g h _=>h) (fun g h _=>h)
          replace HE:=lh hr;replace HK:Hid (jk l1 l1 v'):=lh (HK.only q (fun g hg=>by rw [mSg] at hg;subst hg;exact VM.2));replace Nh:Hid (Wv.heap.size<=l1/\l1<=v'.heap.size):=lh ⟨Nh.1,Lz Nh.2 q.size⟩;replace o:Hid (ae [] Wv v'):=lh (o.trans q Mg (fun g hg MO=>by rw [mSg] at hg;have:=VM.1;omega));clear hq hr q;obtain ⟨v,rfl⟩:∃ z,z=v':=⟨_,rfl⟩
          refine hK.out _ _ ?_ (fun hHeld=>?_)
          ·exact oz
          exact vN
         ·go_simp
          generalize hW:World.alloc _ _=v';have q:ae [] v v':=by rw [<- hW];first | exact ae.new _ _ | exact ((ae.refl _ _).drew).q (ae.new _ _)
          have HE:Hid (v'.heap[v.heap.size]?=some (.cells #[(),JEu] 39 (0,0))):=lh (by rw [<- hW];exact heap_alloc_new _ _);have hz:Wv.heap.size<=v.heap.size:=o.size;replace TB:Hid (ah .i64 0 v'.heap.size v' (.slice (some ⟨g1,0,none⟩) (ar f x y 8 X Y).length c1) (ar f x y 8 X Y)):=lh ((TB.quiet q).mono (Lm _) q.size);replace o:=lh (o.q q);clear hW q;generalize hb:v.heap.size=bE at HE |-
          have HzE:Hid (Wv.heap.size<=bE):=lh (by rw [<- hb];exact hz);clear hb hz;exact BN
        ·go_simp
         generalize hW:World.alloc _ _=v';have q:ae [] Wv v':=by rw [<- hW];first | exact ae.new _ _ | exact ((ae.refl _ _).drew).q (ae.new _ _)
         have HE:Hid (v'.heap[Wv.heap.size]?=some (.cells #[(),JEu] 39 (0,0))):=lh (by rw [<- hW];exact heap_alloc_new _ _);have hz:Wv.heap.size<=Wv.heap.size:=o.size;replace o:=lh (o.q q);clear hW q;generalize hb:Wv.heap.size=bE at HE |-
         have HzE:Hid (Wv.heap.size<=bE):=lh (by rw [<- hb];exact hz);clear hb hz;obtain ⟨v,rfl⟩:∃ z,z=v':=⟨_,rfl⟩
         refine hK.out _ _ ?_ (fun hHeld=>?_)
         ·exact oz
         clear hK K;refine rdy (rdc 4 96 (fun K hK=>?_) .nil);go_simp;go_at_call 94;refine (Jmf.out _ (by first | exact o | exact o.drew)).mono ?_;rintro e v' ⟨vv,rfl,Oc,hq⟩;obtain ⟨g1,c1,rfl,-,-⟩:=Oc.form Mx;have hP:ah .i64 0 v'.heap.size v' (.slice (some ⟨g1,0,none⟩) (ar f x y 8 X Y).length c1) (ar f x y 8 X Y):=Oc.ints.mono (Mc _) (Lm _);clear Oc;have q:ae [] v v':=by first | exact hq | exact ((ae.refl _ _).drew).q hq
         replace HE:=lh (q.row HE);have TB:=lh hP;replace o:=lh (o.q q);clear hq q hP;exact BN
       case rest =>
        obtain ⟨bE,l1,rfl,rfl,HOr,-,-,-,-⟩:=hcut;have HVn:=lh (HOr.row HVv);have HBn:=lh (HOr.row Jrx);have RU:=lh (JiP.trans HOr (U:=[BV]) (fun _ h _=>h) Mg);by_cases hbt:k1<s.cost
        ·have Tm:dA f b x y s (X,Y)=⟨X,Y,k1⟩:=by unfold dA;simp only;rw [<- Zk.out,if_pos hbt]
         have Rq:=lh Tm;clear Tm;obtain ⟨b0,b1,bf0,bf1,-⟩:=aJ HBn;obtain ⟨v0,v1,-⟩:=aJ HVn;obtain ⟨MS,Nd⟩:=aH (x:=.int .i64 (X)) (y:=.int .i64 (Y)) HBn;have OJ:=lh MS;have PS:=lh Nd;clear MS Nd;go_wp2_with fail;refine ⟨⟨n+1,⟨X,Y,k1⟩,Mf,Mm,rfl,lh (by rw [Ox.out,Rq.out]),OJ,lh (RU.trans PS (U:=[BV]) (fun _ h _=>h) (fun _ h _=>h))⟩,Mk⟩
        ·have Tm:dA f b x y s (X,Y)=s:=by unfold dA;simp only;rw [<- Zk.out,if_neg hbt]
         exact BR
      ·obtain rfl:n=2*r+1:=Mf
       have XH:¬ (((2*r+1:Nat):Int)-r)<=r:=Mf;have Si:=lh (iZ r k);rw [Si.out] at Sy;go_wp2_with fail;exact ⟨⟨k+1,s,Mf,Mm,rfl,Sy,Jcw,Oh⟩,Mk⟩
    ·obtain rfl:k=2*r+1:=Mf
     have Ny:¬ (((2*r+1:Nat):Int)-r)<=r:=Mf;have ZV:=lh (kQ r);rw [ZV.out,<- H1.out] at HSs;have NC:=HSs.out;subst NC;go_wp2_with fail;go_meet;exact ⟨rfl,Oi,MW⟩
  case rest =>
   obtain ⟨rfl,NT,NJ⟩:=hcut;obtain ⟨SM,TG⟩:∃ z,z=wc:=⟨_,rfl⟩
   subst TG;obtain ⟨o1,o2,o3,o4⟩:=Jcq.out;obtain ⟨b0,b1,-⟩:=aJ NT;have HVr:=lh (heap_alloc_new SM (.cells #[S1.vx,S1.vy] 73));have PY:=lh (NJ.trans (ae.new SM (.cells #[S1.vx,S1.vy] 73)) (U:=[BV]) (fun _ h _=>h) Mg);have Jfg:=lh ((ae.new SM (.cells #[S1.vx,S1.vy] 73)).row NT);have HBW:Hid (BV<SM.heap.size):=lh (Array.getElem?_eq_some_iff.1 NT).1;go_wp2_with fail;generalize JjP:World.alloc SM _=W11 at *
   clear JjP b0 b1;generalize SM.heap.size=V at *
   go_loopw [21,13,22,23,24,25] (fun a c _ _ _ _ wr=>∃ (k:Nat) (s:kD),k<=3/\a=.int .i64 ((k:Int)-1)/\c=.int .i64 s.cost/\Hid (s=(cM S1.vx S1.vy k 0).foldl (dA f b x y) S1)/\Hid (wr.heap[BV]?=some (.cells #[s.vx,s.vy] 73 (0,0)))/\Hid (ae [BV] W11 wr)) (fun a _ _ _ _ _ _=>((2:Int)-intOf a).toNat)
   case atStart=>exact ⟨0,S1,Mf,by first | rfl | go_num,rfl,lh (by simp [cM]),Jfg,lh (ae.refl _ _)⟩
   case round =>
    obtain ⟨k,s,hk,rfl,rfl,HSs,Oi,MW⟩:=hrel;by_cases MO:k<3
    ·have Ny:(k:Int)-1<=1:=Mf
     go_wp2_with fail;go_loopw [22,13,23,24,25] (fun a c _ _ _ wr=>∃ (n:Nat) (s:kD),n<=3/\a=.int .i64 ((n:Int)-1)/\c=.int .i64 s.cost/\Hid (s=(cM S1.vx S1.vy k n).foldl (dA f b x y) S1)/\Hid (wr.heap[BV]?=some (.cells #[s.vx,s.vy] 73 (0,0)))/\Hid (ae [BV] W11 wr)) (fun a _ _ _ _ _=>((2:Int)-intOf a).toNat)
     case atStart=>exact ⟨0,s,Mf,by first | rfl | go_num,rfl,HSs,Oi,MW⟩
     case round =>
      obtain ⟨n,s,hn,rfl,rfl,Sy,Jcw,Oh⟩:=hrel;by_cases YO:n<3
      ·have XH:(n:Int)-1<=1:=Mf
       obtain ⟨v0,v1,-⟩:=aJ (Oh.rowAt HVr (by rw [mSg];have:=HBW.out;omega));obtain ⟨X,hX⟩:∃ z,z=S1.vx+((n:Int)-1):=⟨_,rfl⟩
       obtain ⟨Y,hY⟩:∃ z,z=S1.vy+((k:Int)-1):=⟨_,rfl⟩
       have m1:IntKind.i64.wrap (S1.vx+((n:Int)-1))=X:=Mi;have m2:IntKind.i64.wrap (S1.vy+((k:Int)-1))=Y:=Mi;have WX:=lh (fun h=>by rw [pN S1.vx S1.vy k n h,List.foldl_append,<- Sy.out];rfl:kF (S1.vx+((n:Int)-1),S1.vy+((k:Int)-1))=true->(cM S1.vx S1.vy k (n+1)).foldl (dA f b x y) S1=dA f b x y s (S1.vx+((n:Int)-1),S1.vy+((k:Int)-1)));have Hno:=lh (fun h=>by rw [rE S1.vx S1.vy k n h];exact Sy.out:kF (S1.vx+((n:Int)-1),S1.vy+((k:Int)-1))=false->s=(cM S1.vx S1.vy k (n+1)).foldl (dA f b x y) S1);rw [<- hX,<- hY] at WX Hno;have Jjd:Hid (kF (X,Y)=true->(-15<=X/\X<=15)/\(-15<=Y/\Y<=15)):=lh (fun h=>by unfold kF at h;simp only [Bool.and_eq_true,decide_eq_true_eq] at h;omega);have HVX:=lh (fun W=>Ji X Y W);have HVv:=lh (heap_alloc_new wr (.cells #[X,Y] 73));have HQv:=lh (ae.new wr (.cells #[X,Y] 73));clear hX hY;go_upto_region 29 with (fail)
       clear v0 v1 m1 m2;generalize hWv:World.alloc wr _=Wv at *
       clear hWv;generalize wr.heap.size=G at *
       obtain ⟨v0,v1,-⟩:=aJ HVv;go_wp2_with fail;clear v0 v1;go_at_call 152;refine (HVX.out Wv).mono ?_;rintro e Wm ⟨rfl,hqm⟩;have HVm:=lh (hqm.row HVv);have JfA:=lh (Oh.trans (HQv.q hqm) (U:=[BV]) (fun _ h _=>h) Mg);have Jmg:=lh ((HQv.q hqm).row Jcw);clear hqm HVX;cases hm:kF (X,Y) with
       | true =>
        have HXY:=lh (Jjd.out hm);have Ox:=lh (WX.out hm);have HFm:=lh (JfA.rowAt (PY.rowAt HF7 (by rw [mSg];have:=Sn.out;omega)) (by rw [mSg];have:=Sn.out;omega));have JmP:=lh (fun (W:World) (o:ae [] Wm W)=>JmO.out W ((PY.trans JfA (U:=[BV]) (fun _ h _=>h) (fun _ h _=>h)).trans o (U:=[BV]) (fun _ h _=>h) Mg));clear hm WX Hno Jjd;go_upto_region 30 with (fail)
        obtain ⟨k2,NK⟩:∃ z,z=dX (ar f x y 8 X Y) b X Y:=⟨_,rfl⟩
        have Jbf:=lh (fun (W:World) (o:ae [] Wm W)=>gG HF.1 (JmP.out W o).1 x y (X) (Y) HF.2.1 HF.2.2 HXY.1 HXY.2);have Jiq:=lh (fun (W:World) (o:ae [] Wm W) (gv:Value) (hv:ah .i64 0 W.heap.size W gv (ar f x y 8 X Y))=>lF (vx:=X) (vy:=Y) hv (JmP.out W o).2 (by rw [aD];exact HB.1) Mx (HB.2.2 (X) (Y)) HB.2.1 HXY.1 HXY.2);rw [<- NK] at Jiq;have Po:=lh NK;clear NK;have OH:Hid (∀ wx:World,ae [] Wm wx->wx.heap[w.heap.size]?=some (.cells #[f.W,f.H,.slice pa f.pix.length pc] 24 (0,0))/\wx.heap[G]?=some (.cells #[X,Y] 73 (0,0))):=lh (fun wx o=>⟨o.row (HFm.out),o.row (HVm.out)⟩);go_cut [25,24] (fun sE s24 wx=>∃ (bE:Nat) (l1:Nat),sE=.pointer (some ⟨bE,0,none⟩)/\s24=.int .i64 k2/\Hid (ae [] Wm wx)/\Hid (wx.heap[bE]?=some (.cells #[(),JEu] 39 (0,0)))/\Hid (Wm.heap.size<=l1/\l1<=wx.heap.size)/\Hid (jk l1 l1 wx)/\Hid (Wm.heap.size<=bE/\(bE<l1\/l1<=bE)))
        case first =>
         have o:=lh (ae.refl [] Wm);refine wp_region_held_drew (S:=(fun wz=>wz.heap[w.heap.size]?=some (.cells #[f.W,f.H,.slice pa f.pix.length pc] 24 (0,0))/\wz.heap[G]?=some (.cells #[X,Y] 73 (0,0)))) Mh ?_ (fun hHeld=>?_)
         ·first | exact OH.out _ (ae.refl _ _) | exact OH.out _ (ae.refl _ _).drew
         refine tkw 0 129 ⟨rfl,aS⟩ ?_;refine tkw 1 130 ⟨rfl,aS⟩ ?_;refine tkw 2 131 ⟨rfl,aS⟩ ?_;refine tkw 3 132 ⟨rfl,aS⟩ ?_;refine tkw 5 134 ⟨rfl,aS⟩ ?_;refine tkw 6 135 ⟨rfl,aS⟩ ?_;refine rdy (rdc 4 133 (fun K hK=>?_) (rdc 11 25 (fun K hK=>?_) .nil))
         ·go_simp
          go_at_call 94;refine (Jbf.out _ (by first | exact o | exact o.drew)).mono ?_;rintro e v' ⟨vv,rfl,Oc,hq⟩;obtain ⟨g2,c2,rfl,-,-⟩:=Oc.form Mx;have hP:ah .i64 0 v'.heap.size v' (.slice (some ⟨g2,0,none⟩) (ar f x y 8 X Y).length c2) (ar f x y 8 X Y):=Oc.ints.mono (Mc _) (Lm _);clear Oc;have q:ae [] Wm v':=by first | exact hq | exact ((ae.refl _ _).drew).q hq
          have TC:=lh hP;replace o:=lh (o.q q);clear hq q hP;obtain ⟨v,rfl⟩:∃ z,z=v':=⟨_,rfl⟩
          refine hK.out _ _ ?_ (fun hHeld=>?_)
          ·exact oA
          clear hK K;refine rdy (rdc 7 136 (fun K hK=>?_) (rdc 11 25 (fun K hK=>?_) .nil))
          ·go_simp
           go_at_call 96;refine (Jiq.out _ (by first | exact o | exact o.drew) _ (by first | exact TC | exact TC.quiet (ae.refl _ _).drew)).mono ?_;rintro e v' ⟨rfl,hq⟩;obtain ⟨l1,Pf⟩:∃ z,z=v.heap.size:=⟨_,rfl⟩
           have PE:jk l1 l1 v':=trivial;have Ry:v.heap.size<=l1:=Mf;have PF:l1<=v'.heap.size:=by rw [Pf];first | exact hq.size | exact ((ae.refl _ _).drew.q hq).size
           clear Pf;have q:ae [] v v':=by first | exact hq | exact ((ae.refl _ _).drew).q hq
           have Pp:Wm.heap.size<=v.heap.size:=o.size;replace TC:Hid (ah .i64 0 v'.heap.size v' (.slice (some ⟨g2,0,none⟩) (ar f x y 8 X Y).length c2) (ar f x y 8 X Y)):=lh ((TC.quiet q).mono (Lm _) q.size);have HK:=lh PE;have Nh:Hid (Wm.heap.size<=l1/\l1<=v'.heap.size):=lh ⟨Mf,PF⟩;replace o:=lh (o.q q);clear hq q PE Ry PF Pp;obtain ⟨v,rfl⟩:∃ z,z=v':=⟨_,rfl⟩
           refine hK.out _ _ ?_ (fun hHeld=>?_)
           ·exact oA
           clear hK K;refine tkw 8 128 ⟨rfl,aS⟩ ?_;refine tkw 9 137 ⟨rfl,aS⟩ ?_;refine tkw 10 138 ⟨rfl,aS⟩ ?_;refine rdy (rdc 11 25 (fun K hK=>?_) .nil);go_simp;generalize hW:World.alloc _ _=v';have q:ae [] v v':=by rw [<- hW];first | exact ae.new _ _ | exact ((ae.refl _ _).drew).q (ae.new _ _)
           have HE:Hid (v'.heap[v.heap.size]?=some (.cells #[(),JEu] 39 (0,0))):=lh (by rw [<- hW];exact heap_alloc_new _ _);have hz:Wm.heap.size<=v.heap.size:=o.size;have VM:Hid (Wm.heap.size<=v.heap.size/\(v.heap.size<l1\/l1<=v.heap.size)):=lh ⟨hz,.inr Nh.2⟩;replace HK:Hid (jk l1 l1 v'):=lh (HK.only q Mg);replace Nh:Hid (Wm.heap.size<=l1/\l1<=v'.heap.size):=lh ⟨Nh.1,Lz Nh.2 q.size⟩;replace TC:Hid (ah .i64 0 v'.heap.size v' (.slice (some ⟨g2,0,none⟩) (ar f x y 8 X Y).length c2) (ar f x y 8 X Y)):=lh ((TC.quiet q).mono (Lm _) q.size);replace o:=lh (o.q q);clear hW q;generalize hb:v.heap.size=bE at HE VM |-
           have HzE:Hid (Wm.heap.size<=bE):=lh (by rw [<- hb];exact hz);clear hb hz;obtain ⟨v,rfl⟩:∃ z,z=v':=⟨_,rfl⟩
           refine hK.out _ _ ?_ (fun hHeld=>?_)
           ·exact oA
           clear hK K;refine tkw 12 24 ⟨rfl,aS⟩ ?_;refine rdy (rdn 13 (fun K hK=>?_) .nil);refine aL (.tmp 25) (.tmp 138) 39 rfl (g:=bE) (c':=#[(),JEu]) rfl rfl HE (jA _ _) rfl (by first | kernel_rfl | simp [Value.oneCell']) (fun v' hq hr=>?_);have q:ae [bE] v v':=by first | exact hq | exact ((ae.refl _ _).drew.mono (U:=[bE]) Mg).trans hq (fun g h _=>h) (fun g h _=>h)
           replace HE:=lh hr;replace HK:Hid (jk l1 l1 v'):=lh (HK.only q (fun g hg=>by rw [mSg] at hg;subst hg;exact VM.2));replace Nh:Hid (Wm.heap.size<=l1/\l1<=v'.heap.size):=lh ⟨Nh.1,Lz Nh.2 q.size⟩;replace o:Hid (ae [] Wm v'):=lh (o.trans q Mg (fun g hg MO=>by rw [mSg] at hg;have:=VM.1;omega));clear hq hr q;obtain ⟨v,rfl⟩:∃ z,z=v':=⟨_,rfl⟩
           refine hK.out _ _ ?_ (fun hHeld=>?_)
           ·exact oA
           exact vN
          ·go_simp
           generalize hW:World.alloc _ _=v';have q:ae [] v v':=by rw [<- hW];first | exact ae.new _ _ | exact ((ae.refl _ _).drew).q (ae.new _ _)
           have HE:Hid (v'.heap[v.heap.size]?=some (.cells #[(),JEu] 39 (0,0))):=lh (by rw [<- hW];exact heap_alloc_new _ _);have hz:Wm.heap.size<=v.heap.size:=o.size;replace TC:Hid (ah .i64 0 v'.heap.size v' (.slice (some ⟨g2,0,none⟩) (ar f x y 8 X Y).length c2) (ar f x y 8 X Y)):=lh ((TC.quiet q).mono (Lm _) q.size);replace o:=lh (o.q q);clear hW q;generalize hb:v.heap.size=bE at HE |-
           have HzE:Hid (Wm.heap.size<=bE):=lh (by rw [<- hb];exact hz);clear hb hz;exact BM
         ·go_simp
          generalize hW:World.alloc _ _=v';have q:ae [] Wm v':=by rw [<- hW];first | exact ae.new _ _ | exact ((ae.refl _ _).drew).q (ae.new _ _)
          have HE:Hid (v'.heap[Wm.heap.size]?=some (.cells #[(),JEu] 39 (0,0))):=lh (by rw [<- hW];exact heap_alloc_new _ _);have hz:Wm.heap.size<=Wm.heap.size:=o.size;replace o:=lh (o.q q);clear hW q;generalize hb:Wm.heap.size=bE at HE |-
          have HzE:Hid (Wm.heap.size<=bE):=lh (by rw [<- hb];exact hz);clear hb hz;obtain ⟨v,rfl⟩:∃ z,z=v':=⟨_,rfl⟩
          refine hK.out _ _ ?_ (fun hHeld=>?_)
          ·exact oA
          clear hK K;refine rdy (rdc 4 133 (fun K hK=>?_) .nil);go_simp;go_at_call 94;refine (Jbf.out _ (by first | exact o | exact o.drew)).mono ?_;rintro e v' ⟨vv,rfl,Oc,hq⟩;obtain ⟨g2,c2,rfl,-,-⟩:=Oc.form Mx;have hP:ah .i64 0 v'.heap.size v' (.slice (some ⟨g2,0,none⟩) (ar f x y 8 X Y).length c2) (ar f x y 8 X Y):=Oc.ints.mono (Mc _) (Lm _);clear Oc;have q:ae [] v v':=by first | exact hq | exact ((ae.refl _ _).drew).q hq
          replace HE:=lh (q.row HE);have TC:=lh hP;replace o:=lh (o.q q);clear hq q hP;exact BM
        case rest =>
         obtain ⟨bE,l1,rfl,rfl,HOr,-,-,-,-⟩:=hcut;have HVn:=lh (HOr.row HVm);have HBn:=lh (HOr.row Jmg);have RU:=lh (JfA.trans HOr (U:=[BV]) (fun _ h _=>h) Mg);by_cases hbt:k2<s.cost
         ·have Tm:dA f b x y s (X,Y)=⟨X,Y,k2⟩:=by unfold dA;simp only;rw [<- Po.out,if_pos hbt]
          have Rq:=lh Tm;clear Tm;obtain ⟨b0,b1,bf0,bf1,-⟩:=aJ HBn;obtain ⟨v0,v1,-⟩:=aJ HVn;obtain ⟨MS,Nd⟩:=aH (x:=.int .i64 (X)) (y:=.int .i64 (Y)) HBn;have OJ:=lh MS;have PS:=lh Nd;clear MS Nd;go_wp2_with fail;refine ⟨⟨n+1,⟨X,Y,k2⟩,Mf,Mm,rfl,lh (by rw [Ox.out,Rq.out]),OJ,lh (RU.trans PS (U:=[BV]) (fun _ h _=>h) (fun _ h _=>h))⟩,Mk⟩
         ·have Tm:dA f b x y s (X,Y)=s:=by unfold dA;simp only;rw [<- Po.out,if_neg hbt]
          exact BR
       | false =>
        have JnL:=lh (Hno.out hm);clear hm WX Hno Jjd;go_wp2_with fail;exact ⟨⟨n+1,s,Mf,Mm,rfl,JnL,Jmg,JfA⟩,Mk⟩
      ·obtain rfl:n=3:=Mf
       have XH:¬ (((3:Nat):Int)-1)<=1:=Mf;have Si:=lh (pM S1.vx S1.vy k);rw [Si.out] at Sy;go_wp2_with fail;exact ⟨⟨k+1,s,Mf,Mm,rfl,Sy,Jcw,Oh⟩,Mk⟩
    ·obtain rfl:k=3:=Mf
     have Ny:¬ (((3:Nat):Int)-1)<=1:=Mf;have ZV:=lh (pL S1.vx S1.vy);rw [ZV.out,<- HE.out] at HSs;have NE:=HSs.out;subst NE;have HQe:=lh (PY.trans MW (U:=[BV]) (fun _ h _=>h) (fun _ h _=>h));have Xk:=HQe.rowAt (RH.row (HX6.row Pg)) (by rw [mSg];have:=Sn.out;omega);have hrr:=HQe.rowAt (RH.row (HX6.row Nq)) (by rw [mSg];have:=Sn.out;omega);obtain ⟨b0,b1,-⟩:=aJ Oi;obtain ⟨v0,v1,y0,y1,-⟩:=aJ hrr;obtain ⟨MS,Nd⟩:=aH (x:=.int .i64 s.vx) (y:=.int .i64 s.vy) hrr;have JpN:=Nd.rowAt Xk Ml;obtain ⟨t0,t1,u0,u1,-⟩:=aJ JpN;obtain ⟨Rf,Qr⟩:=aH (x:=.int .i64 0) (y:=.slice none 0 0) JpN;have JhT:=Qr.rowAt MS Ml;have OJ:=lh (And.intro JhT Rf);have PS:=lh (Nd.trans Qr (U:=[w.heap.size+1,w.heap.size+1+1]) Mg Mg);clear MS Nd Rf Qr JhT Xk hrr;go_wp2_with fail;refine bodyPost_ret (v:=.tuple #[.agg #[s.vx,s.vy],.agg #[(),JEu]]) (dg Tryz.results95 _ _ (w.heap.size+1) (w.heap.size+1+1) _ _ _ _ _ _ _ _ rfl rfl OJ.1 OJ.2 Tryz.underlying73 rfl Mh Tryz.underlying39 rfl (aR _ rfl)) rfl (MM.out _ _ ⟨rfl,?_⟩);exact ((OI.q RH).trans HQe (U:=[]) Mg (fun g hg MO=>by rw [mSg] at hg;have:=Sn.out;omega)).trans PS (U:=[]) Mg (fun g hg MO=>by simp only [Lh,Li,or_false] at hg;omega)
end
end Go.Proofs.YthcafdfdglfabaaGreatDoor
