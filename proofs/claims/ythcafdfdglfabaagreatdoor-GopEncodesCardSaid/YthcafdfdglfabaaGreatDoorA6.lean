/- Joined texts: DSqJ, DRkSe. Conditions: each part names its own. -/
import Derived.Test.YthcafdfdglfabaaGreatDoorA5
namespace Go.Proofs.YthcafdfdglfabaaGreatDoor
open Tryz
open Go.RowKit
set_option linter.unusedVariables false
set_option linter.unusedSimpArgs false
set_option maxRecDepth 100000
set_option maxHeartbeats 16000000
theorem yK {P:Program} {w:World} {o:Oper} {a:Act} {K:Act->World->Prop} {Q:Exit->Act->World->Prop} (x y:Operand) (t:TypeId) (D:o.op=.store t x y)
  {g:Nat} {c c':Array Value} {ty:TypeId} (hx:a.eval x=.pointer g) (F:a.eval y=.agg c') (hr:w.heap[g]?=some (.cells c ty)) (hi:(P.info? t).map (·.size)=some c'.size) (E:c.size=c'.size) (h1:c'.all (·.oneCell')=true)
  (h:K (a.put o.dst undef) (w.setRow g c')):o.wp P a w K Q:=by
 unfold Oper.wp execOp;simp only [D,hx,F,Instr.storeAt,Instr.sureAddr,Sem.run_bind,Sem.run_pure,Result.andThen_ok,run_storeVar_row w g ty t c c' hr hi E h1];exact h
theorem aQ {p:Prop} (h:p:=by intro wz Rb;obtain ⟨Un,Wx⟩:=Rb;obtain ⟨a0,a1,a2⟩:=ag Un;obtain ⟨c0,c1,-⟩:=aL Wx;go_simp;try with_reducible rfl):p:=h
def kj (_ _:Nat) (_:World):Prop:=True
theorem kj.only {l h:Nat} {w w':World} {S:List Nat} (_:kj l h w) (_:ae S w w') (_:∀ g∈S,g<l\/h<=g):kj l h w':=trivial
theorem kE (a b:Value):(prog.info? 39).map (·.size)=some (#[a,b]:Array Value).size:=aG _ rfl
section
variable {P:Program}
theorem aM {w:World} {o:Oper} {a:Act} {K:Act->World->Prop} {Q:Exit->Act->World->Prop} (x y:Operand) (t:TypeId) (D:o.op=.store t x y)
  {g:Nat} {c c':Array Value} {ty:TypeId} (hx:a.eval x=.pointer g) (F:a.eval y=.agg c') (hr:w.heap[g]?=some (.cells c ty)) (hi:(P.info? t).map (·.size)=some c'.size) (E:c.size=c'.size) (h1:c'.all (·.oneCell')=true)
  (h:∀ w',ae [g] w w'->w'.heap[g]?=some (.cells c' ty)->K (a.put o.dst undef) w'):o.wp P a w K Q :=
 yK x y t D hx F hr hi E h1 (h _ (ae.setRow (AY) (fun _=>Qb) _) (m7 _ _ _ _ _ _ hr))
end
section
theorem Fi {p:Prop} (h:p:=by
 go_enter func152,ntmps152;go_wp2_with fail;go_ret;exact ⟨aC (by rw [HM.out];simp [h1,h2,h3] <;> (intros;omega)),HQ.out⟩):p:=h
theorem Mx (vx vy:Int) (w:World):Calls prog 152 #[.agg #[vx,vy]] w fun e w'=>e=.returned (.bool (mh (vx,vy)))/\ae [] w w':=by
 have HQ:=lh (ae.new w (.cells #[vx,vy] 73));have HM:Hid (mh (vx,vy)=(decide (-15<=vx) && decide (vx<=15) && decide (-15<=vy) && decide (vy<=15))):=lh rfl;by_cases h1:-15<=vx
 ·by_cases h2:vx<=15
  ·by_cases h3:-15<=vy
   ·exact Fi
   ·exact Fi
  ·go_enter func152,ntmps152
   go_wp2_with fail;go_ret;exact ⟨aC (by rw [HM.out];simp [h1,h2] <;> (intros;omega)),HQ.out⟩
 ·go_enter func152,ntmps152
  go_wp2_with fail;go_ret;exact ⟨aC (by rw [HM.out];simp [h1] <;> (intros;omega)),HQ.out⟩
theorem si {p:Prop} (h:p:=by
 clear hK K;refine Wn Qc ?_ _;go_wp2_with fail;go_meet;exact ⟨bE,l1,rfl,rfl,o,HE,RS,HK,Vz⟩):p:=h
theorem pZ {p:Prop} (h:p:=by
 exact Te.out _ (gf o)):p:=h
theorem Fe {p:Prop} (h:p:=by
 obtain ⟨v,rfl⟩:=bu v'
 refine ko hK pZ fun hHeld=>?_;clear hK K
 refine j6 7 136 fun K hK=>?_
 go_simp;refine (JmV.out _ (gf o) _ (mj Xr)).mono ?_;rintro e v' ⟨rfl,hq⟩;obtain ⟨l1,WF⟩:=bu v.heap.size
 have YO:kj l1 l1 v':=trivial;have hKl:v.heap.size<=l1:=Qa;have YQ:l1<=v'.heap.size:=by rw [WF];first | exact hq.size | exact ((AY).drew.q hq).size
 clear WF;have q:ae [] v v':=lm hq
 have ZH:Wm.heap.size<=v.heap.size:=o.size;have Vz:Hid (Wm.heap.size<=bE/\(bE<l1\/l1<=bE)):=lh (by have:=(l8.1 HE).1;have:=HzE.out;exact ⟨Qa,.inl Qa⟩);replace HE:=lh (q.row HE);replace Xr:Hid (aj .i64 0 v'.heap.size v' (.slice g2 (aq f x y 8 X Y).length c2) (aq f x y 8 X Y)):=lh ((Xr.quiet q).mono (Pm _) q.size);have HK:=lh YO;have RS:Hid (Wm.heap.size<=l1/\l1<=v'.heap.size):=lh ⟨Qa,YQ⟩;replace o:=lh (o.q q);clear hq q YO hKl YQ ZH;obtain ⟨v,rfl⟩:=bu v'
 refine ko hK pZ fun hHeld=>?_;clear hK K
 refine e9 8 128 ⟨rfl,aQ⟩ ?_;refine e9 9 137 ⟨rfl,aQ⟩ ?_;refine e9 10 138 ⟨rfl,aQ⟩ ?_;refine e9 12 24 ⟨rfl,aQ⟩ ?_;refine j9 13 fun K hK=>?_
 refine aM (.tmp 25) (.tmp 138) 39 rfl (g:=bE) (c':=#[(),d8]) rfl rfl HE (kE _ _) rfl mi (fun v' hq hr=>?_);have q:ae [bE] v v':=lm hq
 replace HE:=lh hr;replace HK:Hid (kj l1 l1 v'):=HK.only q (fun g hg=>by rw [i5] at hg;subst hg;exact Vz.2);replace RS:Hid (Wm.heap.size<=l1/\l1<=v'.heap.size):=lh ⟨RS.1,Pw RS.2 q.size⟩;replace o:Hid (ae [] Wm v'):=o.trans q Qb (fun g hg QH=>by rw [i5] at hg;have:=Vz.1;omega);clear hq hr q;obtain ⟨v,rfl⟩:=bu v'
 refine hK.out _ _ ?_ (fun hHeld=>?_)
 ·exact pZ
 exact si):p:=h
theorem qb {p:Prop} (h:p:=by
 exact Su.out _ (gf o)):p:=h
theorem Ff {p:Prop} (h:p:=by
 obtain ⟨v,rfl⟩:=bu v'
 refine ko hK qb fun hHeld=>?_;clear hK K
 refine j6 7 99 fun K hK=>?_
 go_simp;refine (JmU.out _ (gf o) _ (mj Xq)).mono ?_;rintro e v' ⟨rfl,hq⟩;obtain ⟨l1,WF⟩:=bu v.heap.size
 have YO:kj l1 l1 v':=trivial;have hKl:v.heap.size<=l1:=Qa;have YQ:l1<=v'.heap.size:=by rw [WF];first | exact hq.size | exact ((AY).drew.q hq).size
 clear WF;have q:ae [] v v':=lm hq
 have ZH:Wv.heap.size<=v.heap.size:=o.size;have Vz:Hid (Wv.heap.size<=bE/\(bE<l1\/l1<=bE)):=lh (by have:=(l8.1 HE).1;have:=HzE.out;exact ⟨Qa,.inl Qa⟩);replace HE:=lh (q.row HE);replace Xq:Hid (aj .i64 0 v'.heap.size v' (.slice g1 (aq f x y 8 X Y).length c1) (aq f x y 8 X Y)):=lh ((Xq.quiet q).mono (Pm _) q.size);have HK:=lh YO;have RS:Hid (Wv.heap.size<=l1/\l1<=v'.heap.size):=lh ⟨Qa,YQ⟩;replace o:=lh (o.q q);clear hq q YO hKl YQ ZH;obtain ⟨v,rfl⟩:=bu v'
 refine ko hK qb fun hHeld=>?_;clear hK K
 refine e9 8 91 ⟨rfl,aQ⟩ ?_;refine e9 9 100 ⟨rfl,aQ⟩ ?_;refine e9 10 101 ⟨rfl,aQ⟩ ?_;refine e9 12 18 ⟨rfl,aQ⟩ ?_;refine j9 13 fun K hK=>?_
 refine aM (.tmp 19) (.tmp 101) 39 rfl (g:=bE) (c':=#[(),d8]) rfl rfl HE (kE _ _) rfl mi (fun v' hq hr=>?_);have q:ae [bE] v v':=lm hq
 replace HE:=lh hr;replace HK:Hid (kj l1 l1 v'):=HK.only q (fun g hg=>by rw [i5] at hg;subst hg;exact Vz.2);replace RS:Hid (Wv.heap.size<=l1/\l1<=v'.heap.size):=lh ⟨RS.1,Pw RS.2 q.size⟩;replace o:Hid (ae [] Wv v'):=o.trans q Qb (fun g hg QH=>by rw [i5] at hg;have:=Vz.1;omega);clear hq hr q;obtain ⟨v,rfl⟩:=bu v'
 refine hK.out _ _ ?_ (fun hHeld=>?_)
 ·exact qb
 exact si):p:=h
theorem qd {p:Prop} (h:p:=by
 exact HS0.out _ (gf o)):p:=h
theorem Fg {p:Prop} (h:p:=by
 obtain ⟨v,rfl⟩:=bu v'
 refine ko hK qd fun hHeld=>?_;clear hK K
 refine j6 7 69 fun K hK=>?_
 go_simp;refine (Jjv.out _ (gf o) _ (mj Xp)).mono ?_;rintro e v' ⟨rfl,hq⟩;obtain ⟨l1,WF⟩:=bu v.heap.size
 have YO:kj l1 l1 v':=trivial;have hKl:v.heap.size<=l1:=Qa;have YQ:l1<=v'.heap.size:=by rw [WF];first | exact hq.size | exact ((AY).drew.q hq).size
 clear WF;have q:ae [] v v':=lm hq
 have ZH:W6.heap.size<=v.heap.size:=o.size;have Vz:Hid (W6.heap.size<=bE/\(bE<l1\/l1<=bE)):=lh (by have:=(l8.1 HE).1;have:=HzE.out;exact ⟨Qa,.inl Qa⟩);replace HE:=lh (q.row HE);replace Xp:Hid (aj .i64 0 v'.heap.size v' (.slice g0 (aq f x y 8 0 0).length c0) (aq f x y 8 0 0)):=lh ((Xp.quiet q).mono (Pm _) q.size);have HK:=lh YO;have RS:Hid (W6.heap.size<=l1/\l1<=v'.heap.size):=lh ⟨Qa,YQ⟩;replace o:=lh (o.q q);clear hq q YO hKl YQ ZH;obtain ⟨v,rfl⟩:=bu v'
 refine ko hK qd fun hHeld=>?_;clear hK K
 refine e9 8 61 ⟨rfl,aQ⟩ ?_;refine e9 9 70 ⟨rfl,aQ⟩ ?_;refine e9 10 71 ⟨rfl,aQ⟩ ?_;refine e9 12 13 ⟨rfl,aQ⟩ ?_;refine j9 13 fun K hK=>?_
 refine aM (.tmp 14) (.tmp 71) 39 rfl (g:=bE) (c':=#[(),d8]) rfl rfl HE (kE _ _) rfl mi (fun v' hq hr=>?_);have q:ae [bE] v v':=lm hq
 replace HE:=lh hr;replace HK:Hid (kj l1 l1 v'):=HK.only q (fun g hg=>by rw [i5] at hg;subst hg;exact Vz.2);replace RS:Hid (W6.heap.size<=l1/\l1<=v'.heap.size):=lh ⟨RS.1,Pw RS.2 q.size⟩;replace o:Hid (ae [] W6 v'):=o.trans q Qb (fun g hg QH=>by rw [i5] at hg;have:=Vz.1;omega);clear hq hr q;obtain ⟨v,rfl⟩:=bu v'
 refine hK.out _ _ ?_ (fun hHeld=>?_)
 ·exact qd
 exact si):p:=h
theorem yz {p:Prop} (h:p:=by
 exact si):p:=h
theorem qf {p:Prop} (h:p:=by
 exact qd):p:=h
theorem qg {p:Prop} (h:p:=by
 exact qb):p:=h
theorem qh {p:Prop} (h:p:=by
 exact pZ):p:=h
theorem Fh {p:Prop} (h:p:=by
 have Vr:=lh Xd;clear Xd;go_wp2_with fail;exact ⟨⟨n+1,s,Qa,Qh,rfl,lh (by rw [Sy.out,Vr.out]),HBn,TL⟩,Qf⟩):p:=h
theorem Ag {lo hi lo' hi' r:Nat} {pv bv:Value} {w:World} {f:ah} {b:List Int} (QM:FrOk f) (h:aj .i64 lo hi w pv f.pix) (F:aj .i64 lo' hi' w bv b) (lb:b.length=64) (sb:ar b) (x y:Int) (hx:0<=x/\x+8<=f.W) (hy:0<=y/\y+8<=f.H) (hr:r<=7) (hhi:hi<=w.heap.size) (JdY:hi'<=w.heap.size) :
  Calls prog 95 #[.agg #[f.W,f.H,pv],bv,x,y,r] w fun e w'=>(e=.returned (.tuple #[.agg #[.int .i64 (aY f b x y r).vx,.int .i64 (aY f b x y r).vy],.agg #[(),d8]])/\ae [] w w'):=by
 refine aK fun Q QF=>?_
 have HF:=lh (VL QM (VL (show 0<=x/\x<=32 by have:=QM.w1;omega) (show 0<=y/\y<=32 by have:=QM.h1;omega)));have HB:=lh (VL lb (VL sb (fun vx vy:Int=>cR QM.sam x y 8 vx vy)));have HM:=lh (fun (W:World) (o:ae [] w W)=>by have:=gZ f.W f.H (h.quiet o);rw [show cT ⟨f.W,f.H,f.pix⟩=true from dp.2 QM] at this;exact this);have Tg:=lh (fun (W:World)=>by have:=nD f.W f.H x y 8 pv W ⟨QM.w0,QM.w1⟩ ⟨QM.h0,QM.h1⟩ Qa;rw [show io f.W f.H x y 8=true by unfold io;simp;omega] at this;exact this);have HSa:=lh (fun (W:World) (o:ae [] w W)=>by have:=bQ 0 255 (F.quiet o);rw [show aO b 0 255=true from eJ.2 sb] at this;exact this);have HP:=lh (VL h F);have HE:Hid (aY f b x y r=(wG (jh f b x y r).vx (jh f b x y r).vy).foldl (dQ f b x y) (jh f b x y r)):=lh rfl;have H1:Hid (jh f b x y r=(pJ r).foldl (dQ f b x y) (oA f b x y)):=lh rfl;have Jgp:Hid (mv (jh f b x y r)):=lh (by
  rw [H1.out];refine Ev _ _ (fun v hv=>?_) (by simp [oA,mv]);unfold pJ at hv;obtain ⟨j,hj,hv⟩:=List.mem_flatMap.1 hv;obtain ⟨i,hi,rfl⟩:=x8.1 hv;rw [PY] at hi hj;simp only;omega)
 have H0:Hid (oA f b x y=⟨0,0,eA (aq f x y 8 0 0) b 0 0⟩):=lh rfl;obtain ⟨pa,pc,rfl,-⟩:=h.open;obtain ⟨qa,qc,rfl,-⟩:=F.open;rw [lb] at HP HSa |-
 obtain ⟨S0,Un⟩:=bu (oA f b x y)
 obtain ⟨D,Wx⟩:=bu (jh f b x y r)
 obtain ⟨S2,hS2⟩:=bu (aY f b x y r)
 rw [<- Un] at H0 H1;rw [<- Wx] at H1 Jgp HE;rw [<- hS2] at HE QF;have r0:(0:Int)<=(r:Int):=Qa;have r1:(r:Int)<=7:=Qa;have r2:¬ (r:Int)<0:=Qa;have r3:¬ (7:Int)<(r:Int):=Qa;have nr:IntKind.i64.wrap (-(r:Int))=-(r:Int):=Qe;obtain ⟨XP,HF1,Rg,HE1,UN⟩:=kp w (sT f pa pc) (.cells #[(),()] 73) (.cells #[(),d8] 39);have QO:=lh XP;have HHi:=lh (VL hhi JdY);clear h F lb sb QM hx hy hhi JdY Un Wx hS2 XP hr;obtain ⟨a0,a1,a2⟩:=ag HF1;go_enter func95,ntmps95;go_wp2_with fail;generalize Rs:World.alloc (World.alloc (World.alloc w _) _) _=W1 at *
 clear Rs a0 a1 a2;refine (HM.out W1 QO).mono ?_;rintro e w3 ⟨rfl,QQ⟩;obtain ⟨a0,a1,a2⟩:=ag (QQ.row HF1);have HX3:=lh QQ;clear QQ HM;go_wp2_with fail;refine (Tg.out w3).mono ?_;rintro e w4 ⟨rfl,QY⟩;have HX4:=lh (HX3.q QY);clear QY Tg a0 a1 a2;go_wp2_with fail;refine (HSa.out w4 (QO.q HX4)).mono ?_;rintro e w5 ⟨rfl,hw5⟩;subst hw5;clear HSa;have HB6:=lh (Sd w4 (.cells #[(),()] 73));have HX6:=lh (HX4.q (ae.new w4 (.cells #[(),()] 73)));have Wj:Hid (w.heap.size+1+1<w4.heap.size):=lh (l6 HX4.size UN.out);go_upto_region 10 with (fail)
 generalize hW6:World.alloc w4 _=W6 at *
 clear hW6;obtain ⟨J,hBV⟩:=bu w4.heap.size
 rw [<- hBV] at HB6 Wj |-
 clear hBV;have SJ:=lh (QO.q HX6);have HPW:Hid (∀ W,ae [J] W6 W->aj .i64 lo hi W (.slice pa f.pix.length pc) f.pix/\aj .i64 lo' hi' W (.slice qa 64 qc) b):=lh (fun W o=>by
  have z1:=Wj.out;have z2:=HHi.out;exact ⟨(HP.1.quiet SJ).only o (fun g hg=>Qd),(HP.2.quiet SJ).only o (fun g hg=>Qd)⟩)
 have Jnw:=lh (fun (W:World) (o:ae [] W6 W)=>HPW.out W (o.mono Qb));obtain ⟨k0,RA⟩:=bu (eA (aq f x y 8 0 0) b 0 0)
 have JmR:=lh (fun (W:World) (o:ae [] W6 W)=>iw HF.1 (Jnw.out W o).1 x y (0) (0) HF.2.1 HF.2.2 Qa Qa);have Jjv:=lh (fun (W:World) (o:ae [] W6 W) (gv:Value) (hv:aj .i64 0 W.heap.size W gv (aq f x y 8 0 0))=>nA (vx:=0) (vy:=0) hv (Jnw.out W o).2 (by rw [aF];exact HB.1) Qt (HB.2.2 (0) (0)) HB.2.1 Qa Qa);rw [<- RA] at Jjv;have Hk0:=lh RA;clear RA;have HS0:Hid (∀ wx:World,ae [] W6 wx->wx.heap[w.heap.size]?=some (.cells (sT f pa pc) 24)/\wx.heap[J]?=some (.cells #[(),()] 73)):=lh (fun wx o=>⟨o.row (HX6.row HF1),o.row (HB6.out)⟩);go_cut [14,13] (fun sE s13 wx=>∃ (bE:Nat) (l1:Nat),sE=.pointer bE/\s13=.int .i64 k0/\Hid (ae [] W6 wx)/\Hid (wx.heap[bE]?=some (.cells #[(),d8] 39))/\Hid (W6.heap.size<=l1/\l1<=wx.heap.size)/\Hid (kj l1 l1 wx)/\Hid (W6.heap.size<=bE/\(bE<l1\/l1<=bE)))
 case first =>
  have o:=lh (ae.refl [] W6);refine Tf (S:=(fun wz=>wz.heap[w.heap.size]?=some (.cells (sT f pa pc) 24)/\wz.heap[J]?=some (.cells #[(),()] 73))) Qc ?_ (fun hHeld=>?_)
  ·first | exact HS0.out _ (AY) | exact HS0.out _ (AY).drew
  refine e9 0 62 ⟨rfl,aQ⟩ ?_;refine e9 1 63 ⟨rfl,aQ⟩ ?_;refine e9 2 64 ⟨rfl,aQ⟩ ?_;refine e9 3 65 ⟨rfl,aQ⟩ ?_;refine e9 5 67 ⟨rfl,aQ⟩ ?_;refine e9 6 68 ⟨rfl,aQ⟩ ?_;refine C2 (j2 4 66 (fun K hK=>?_) (j2 11 14 (fun K hK=>?_) .nil))
  ·go_simp
   refine (JmR.out _ (gf o)).mono ?_;rintro e v' ⟨vv,rfl,L,hq⟩;obtain ⟨g0,c0,rfl,-,-⟩:=L.form Qt;have N:aj .i64 0 v'.heap.size v' (.slice g0 (aq f x y 8 0 0).length c0) (aq f x y 8 0 0):=L.ints.mono (PX _) (Pm _);clear L;have q:ae [] W6 v':=lm hq
   have Xp:=lh N;replace o:=lh (o.q q);clear hq q N;obtain ⟨v,rfl⟩:=bu v'
   refine ko hK qf fun hHeld=>?_;clear hK K
   refine C2 (j2 7 69 (fun K hK=>?_) (j2 11 14 (fun K hK=>?_) .nil))
   ·go_simp
    refine (Jjv.out _ (gf o) _ (mj Xp)).mono ?_;rintro e v' ⟨rfl,hq⟩;obtain ⟨l1,WF⟩:=bu v.heap.size
    have YO:kj l1 l1 v':=trivial;have hKl:v.heap.size<=l1:=Qa;have YQ:l1<=v'.heap.size:=by rw [WF];first | exact hq.size | exact ((AY).drew.q hq).size
    clear WF;have q:ae [] v v':=lm hq
    have ZH:W6.heap.size<=v.heap.size:=o.size;replace Xp:Hid (aj .i64 0 v'.heap.size v' (.slice g0 (aq f x y 8 0 0).length c0) (aq f x y 8 0 0)):=lh ((Xp.quiet q).mono (Pm _) q.size);have HK:=lh YO;have RS:Hid (W6.heap.size<=l1/\l1<=v'.heap.size):=lh ⟨Qa,YQ⟩;replace o:=lh (o.q q);clear hq q YO hKl YQ ZH;obtain ⟨v,rfl⟩:=bu v'
    refine ko hK qf fun hHeld=>?_;clear hK K
    refine e9 8 61 ⟨rfl,aQ⟩ ?_;refine e9 9 70 ⟨rfl,aQ⟩ ?_;refine e9 10 71 ⟨rfl,aQ⟩ ?_;refine j6 11 14 fun K hK=>?_
    go_simp;generalize E:World.alloc _ _=v';have q:ae [] v v':=kr E
    have HE:Hid (v'.heap[v.heap.size]?=some (.cells #[(),d8] 39)):=lh (lp E);have I:W6.heap.size<=v.heap.size:=o.size;have Vz:Hid (W6.heap.size<=v.heap.size/\(v.heap.size<l1\/l1<=v.heap.size)):=lh ⟨I,.inr RS.2⟩;replace HK:Hid (kj l1 l1 v'):=HK.only q Qb;replace RS:Hid (W6.heap.size<=l1/\l1<=v'.heap.size):=lh ⟨RS.1,Pw RS.2 q.size⟩;replace Xp:Hid (aj .i64 0 v'.heap.size v' (.slice g0 (aq f x y 8 0 0).length c0) (aq f x y 8 0 0)):=lh ((Xp.quiet q).mono (Pm _) q.size);replace o:=lh (o.q q);clear E q;generalize F:v.heap.size=bE at HE Vz |-
    have HzE:Hid (W6.heap.size<=bE):=lh (ea F I);clear F I;obtain ⟨v,rfl⟩:=bu v'
    refine ko hK qf fun hHeld=>?_;clear hK K
    refine e9 12 13 ⟨rfl,aQ⟩ ?_;refine j9 13 fun K hK=>?_
    refine aM (.tmp 14) (.tmp 71) 39 rfl (g:=bE) (c':=#[(),d8]) rfl rfl HE (kE _ _) rfl mi (fun v' hq hr=>?_);have q:ae [bE] v v':=lm hq
    replace HE:=lh hr;replace HK:Hid (kj l1 l1 v'):=HK.only q (fun g hg=>by rw [i5] at hg;subst hg;exact Vz.2);replace RS:Hid (W6.heap.size<=l1/\l1<=v'.heap.size):=lh ⟨RS.1,Pw RS.2 q.size⟩;replace o:Hid (ae [] W6 v'):=o.trans q Qb (fun g hg QH=>by rw [i5] at hg;have:=Vz.1;omega);clear hq hr q;obtain ⟨v,rfl⟩:=bu v'
    refine hK.out _ _ ?_ (fun hHeld=>?_)
    ·exact qf
    exact yz
   ·go_simp
    generalize E:World.alloc _ _=v';have q:ae [] v v':=kr E
    have HE:Hid (v'.heap[v.heap.size]?=some (.cells #[(),d8] 39)):=lh (lp E);have I:W6.heap.size<=v.heap.size:=o.size;replace Xp:Hid (aj .i64 0 v'.heap.size v' (.slice g0 (aq f x y 8 0 0).length c0) (aq f x y 8 0 0)):=lh ((Xp.quiet q).mono (Pm _) q.size);replace o:=lh (o.q q);clear E q;generalize F:v.heap.size=bE at HE |-
    have HzE:Hid (W6.heap.size<=bE):=lh (ea F I);clear F I;exact Fg
  ·go_simp
   generalize E:World.alloc _ _=v';have q:ae [] W6 v':=kr E
   have HE:Hid (v'.heap[W6.heap.size]?=some (.cells #[(),d8] 39)):=lh (lp E);have I:W6.heap.size<=W6.heap.size:=o.size;replace o:=lh (o.q q);clear E q;generalize F:W6.heap.size=bE at HE |-
   have HzE:Hid (W6.heap.size<=bE):=lh (ea F I);clear F I;obtain ⟨v,rfl⟩:=bu v'
   refine ko hK qf fun hHeld=>?_;clear hK K
   refine j6 4 66 fun K hK=>?_
   go_simp;refine (JmR.out _ (gf o)).mono ?_;rintro e v' ⟨vv,rfl,L,hq⟩;obtain ⟨g0,c0,rfl,-,-⟩:=L.form Qt;have N:aj .i64 0 v'.heap.size v' (.slice g0 (aq f x y 8 0 0).length c0) (aq f x y 8 0 0):=L.ints.mono (PX _) (Pm _);clear L;have q:ae [] v v':=lm hq
   replace HE:=lh (q.row HE);have Xp:=lh N;replace o:=lh (o.q q);clear hq q N;exact Fg
 case rest =>
  obtain ⟨bE,l1,rfl,rfl,Uj,-,-,-,-⟩:=hcut;obtain ⟨W7,hW7⟩:=bu wc
  subst hW7;have HS0:Hid (W7.heap[J]?=some (.cells #[S0.vx,S0.vy] 73)):=lh (by rw [H0.out];exact Uj.row HB6);have HC0:Hid (k0=S0.cost):=lh (by rw [H0.out,Hk0.out]);rw [HC0.out];have HF7:=lh (Uj.row (HX6.row HF1));have Jsc:=lh (fun (W:World) (o:ae [J] W7 W)=>HPW.out W (Uj.trans o Qb (fun _ h _=>h)));clear Hk0 JmR Jjv Jnw
  go_upto_block 1 with (fail)
  go_cut [13] (fun s13 wx=>s13=.int .i64 D.cost/\Hid (wx.heap[J]?=some (.cells #[D.vx,D.vy] 73))/\Hid (ae [J] W7 wx))
  case first =>
   go_wp2_with fail;go_loopw [15,13,16,17,18,19] (fun a c _ _ _ _ wr=>∃ (k:Nat) (s:lZ),k<=2*r+1/\a=.int .i64 ((k:Int)-r)/\c=.int .i64 s.cost/\Hid (s=(cS r k 0).foldl (dQ f b x y) S0)/\Hid (wr.heap[J]?=some (.cells #[s.vx,s.vy] 73))/\Hid (ae [J] W7 wr)) (fun a _ _ _ _ _ _=>((r:Int)+1-intOf a).toNat)
   case atStart=>exact ⟨0,S0,Qa,by first | rfl | go_num,rfl,lh (by simp [cS]),HS0,lh (AY)⟩
   case round =>
    obtain ⟨k,s,hk,rfl,rfl,O,Sg,QP⟩:=hrel;by_cases QH:k<2*r+1
    ·have Rt:(k:Int)-r<=r:=Qa
     go_wp2_with fail;go_loopw [16,13,17,18,19] (fun a c _ _ _ wr=>∃ (n:Nat) (s:lZ),n<=2*r+1/\a=.int .i64 ((n:Int)-r)/\c=.int .i64 s.cost/\Hid (s=(cS r k n).foldl (dQ f b x y) S0)/\Hid (wr.heap[J]?=some (.cells #[s.vx,s.vy] 73))/\Hid (ae [J] W7 wr)) (fun a _ _ _ _ _=>((r:Int)+1-intOf a).toNat)
     case atStart=>exact ⟨0,s,Qa,by first | rfl | go_num,rfl,O,Sg,QP⟩
     case round =>
      obtain ⟨n,s,hn,rfl,rfl,VT,Jgv,RY⟩:=hrel;by_cases Jcy:n<2*r+1
      ·have hni:(n:Int)-r<=r:=Qa
       have Sy:Hid ((cS r k (n+1)).foldl (dQ f b x y) S0=dQ f b x y s (2*((n:Int)-r),2*((k:Int)-r))):=lh (by rw [lr,A4,<- VT.out];rfl);have hXY:(-15<=2*((n:Int)-r)/\2*((n:Int)-r)<=15)/\(-15<=2*((k:Int)-r)/\2*((k:Int)-r)<=15):=Qa;have M:=lh hXY;have HVv:=lh (Sd wr (.cells #[.int .i64 (2*((n:Int)-r)),.int .i64 (2*((k:Int)-r))] 73));have Z:=lh (ae.new wr (.cells #[.int .i64 (2*((n:Int)-r)),.int .i64 (2*((k:Int)-r))] 73));clear hXY VT;go_upto_region 18 with (fail)
       generalize hWv:World.alloc wr _=Wv at *
       clear hWv;generalize 2*((n:Int)-r)=X at *
       generalize 2*((k:Int)-r)=Y at *
       generalize wr.heap.size=G at *
       have Jnz:=lh (RY.trans Z (U:=[J]) (fun _ h _=>h) Qb);have HFv:=lh (Jnz.rowAt HF7 (eW Wj));have JxK:=lh (Z.row Jgv);have Jse:=lh (fun (W:World) (o:ae [] Wv W)=>Jsc.out W (Jnz.trans o (U:=[J]) (fun _ h _=>h) Qb));obtain ⟨k1,TW⟩:=bu (eA (aq f x y 8 X Y) b X Y)
       have Jrj:=lh (fun (W:World) (o:ae [] Wv W)=>iw HF.1 (Jse.out W o).1 x y (X) (Y) HF.2.1 HF.2.2 M.1 M.2);have JmU:=lh (fun (W:World) (o:ae [] Wv W) (gv:Value) (hv:aj .i64 0 W.heap.size W gv (aq f x y 8 X Y))=>nA (vx:=X) (vy:=Y) hv (Jse.out W o).2 (by rw [aF];exact HB.1) Qt (HB.2.2 (X) (Y)) HB.2.1 M.1 M.2);rw [<- TW] at JmU;have Hk1:=lh TW;clear TW;have Su:Hid (∀ wx:World,ae [] Wv wx->wx.heap[w.heap.size]?=some (.cells (sT f pa pc) 24)/\wx.heap[G]?=some (.cells #[X,Y] 73)):=lh (fun wx o=>⟨o.row (HFv.out),o.row (HVv.out)⟩);go_cut [19,18] (fun sE s18 wx=>∃ (bE:Nat) (l1:Nat),sE=.pointer bE/\s18=.int .i64 k1/\Hid (ae [] Wv wx)/\Hid (wx.heap[bE]?=some (.cells #[(),d8] 39))/\Hid (Wv.heap.size<=l1/\l1<=wx.heap.size)/\Hid (kj l1 l1 wx)/\Hid (Wv.heap.size<=bE/\(bE<l1\/l1<=bE)))
       case first =>
        have o:=lh (ae.refl [] Wv);refine Tf (S:=(fun wz=>wz.heap[w.heap.size]?=some (.cells (sT f pa pc) 24)/\wz.heap[G]?=some (.cells #[X,Y] 73))) Qc ?_ (fun hHeld=>?_)
        ·first | exact Su.out _ (AY) | exact Su.out _ (AY).drew
        refine e9 0 92 ⟨rfl,aQ⟩ ?_;refine e9 1 93 ⟨rfl,aQ⟩ ?_;refine e9 2 94 ⟨rfl,aQ⟩ ?_;refine e9 3 95 ⟨rfl,aQ⟩ ?_;refine e9 5 97 ⟨rfl,aQ⟩ ?_;refine e9 6 98 ⟨rfl,aQ⟩ ?_;refine C2 (j2 4 96 (fun K hK=>?_) (j2 11 19 (fun K hK=>?_) .nil))
        ·go_simp
         refine (Jrj.out _ (gf o)).mono ?_;rintro e v' ⟨vv,rfl,L,hq⟩;obtain ⟨g1,c1,rfl,-,-⟩:=L.form Qt;have N:aj .i64 0 v'.heap.size v' (.slice g1 (aq f x y 8 X Y).length c1) (aq f x y 8 X Y):=L.ints.mono (PX _) (Pm _);clear L;have q:ae [] Wv v':=lm hq
         have Xq:=lh N;replace o:=lh (o.q q);clear hq q N;obtain ⟨v,rfl⟩:=bu v'
         refine ko hK qg fun hHeld=>?_;clear hK K
         refine C2 (j2 7 99 (fun K hK=>?_) (j2 11 19 (fun K hK=>?_) .nil))
         ·go_simp
          refine (JmU.out _ (gf o) _ (mj Xq)).mono ?_;rintro e v' ⟨rfl,hq⟩;obtain ⟨l1,WF⟩:=bu v.heap.size
          have YO:kj l1 l1 v':=trivial;have hKl:v.heap.size<=l1:=Qa;have YQ:l1<=v'.heap.size:=by rw [WF];first | exact hq.size | exact ((AY).drew.q hq).size
          clear WF;have q:ae [] v v':=lm hq
          have ZH:Wv.heap.size<=v.heap.size:=o.size;replace Xq:Hid (aj .i64 0 v'.heap.size v' (.slice g1 (aq f x y 8 X Y).length c1) (aq f x y 8 X Y)):=lh ((Xq.quiet q).mono (Pm _) q.size);have HK:=lh YO;have RS:Hid (Wv.heap.size<=l1/\l1<=v'.heap.size):=lh ⟨Qa,YQ⟩;replace o:=lh (o.q q);clear hq q YO hKl YQ ZH;obtain ⟨v,rfl⟩:=bu v'
          refine ko hK qg fun hHeld=>?_;clear hK K
          refine e9 8 91 ⟨rfl,aQ⟩ ?_;refine e9 9 100 ⟨rfl,aQ⟩ ?_;refine e9 10 101 ⟨rfl,aQ⟩ ?_;refine j6 11 19 fun K hK=>?_
          go_simp;generalize E:World.alloc _ _=v';have q:ae [] v v':=kr E
          have HE:Hid (v'.heap[v.heap.size]?=some (.cells #[(),d8] 39)):=lh (lp E);have I:Wv.heap.size<=v.heap.size:=o.size;have Vz:Hid (Wv.heap.size<=v.heap.size/\(v.heap.size<l1\/l1<=v.heap.size)):=lh ⟨I,.inr RS.2⟩;replace HK:Hid (kj l1 l1 v'):=HK.only q Qb;replace RS:Hid (Wv.heap.size<=l1/\l1<=v'.heap.size):=lh ⟨RS.1,Pw RS.2 q.size⟩;replace Xq:Hid (aj .i64 0 v'.heap.size v' (.slice g1 (aq f x y 8 X Y).length c1) (aq f x y 8 X Y)):=lh ((Xq.quiet q).mono (Pm _) q.size);replace o:=lh (o.q q);clear E q;generalize F:v.heap.size=bE at HE Vz |-
          have HzE:Hid (Wv.heap.size<=bE):=lh (ea F I);clear F I;obtain ⟨v,rfl⟩:=bu v'
          refine ko hK qg fun hHeld=>?_;clear hK K
          refine e9 12 18 ⟨rfl,aQ⟩ ?_;refine j9 13 fun K hK=>?_
          refine aM (.tmp 19) (.tmp 101) 39 rfl (g:=bE) (c':=#[(),d8]) rfl rfl HE (kE _ _) rfl mi (fun v' hq hr=>?_);have q:ae [bE] v v':=lm hq
          replace HE:=lh hr;replace HK:Hid (kj l1 l1 v'):=HK.only q (fun g hg=>by rw [i5] at hg;subst hg;exact Vz.2);replace RS:Hid (Wv.heap.size<=l1/\l1<=v'.heap.size):=lh ⟨RS.1,Pw RS.2 q.size⟩;replace o:Hid (ae [] Wv v'):=o.trans q Qb (fun g hg QH=>by rw [i5] at hg;have:=Vz.1;omega);clear hq hr q;obtain ⟨v,rfl⟩:=bu v'
          refine hK.out _ _ ?_ (fun hHeld=>?_)
          ·exact qg
          exact yz
         ·go_simp
          generalize E:World.alloc _ _=v';have q:ae [] v v':=kr E
          have HE:Hid (v'.heap[v.heap.size]?=some (.cells #[(),d8] 39)):=lh (lp E);have I:Wv.heap.size<=v.heap.size:=o.size;replace Xq:Hid (aj .i64 0 v'.heap.size v' (.slice g1 (aq f x y 8 X Y).length c1) (aq f x y 8 X Y)):=lh ((Xq.quiet q).mono (Pm _) q.size);replace o:=lh (o.q q);clear E q;generalize F:v.heap.size=bE at HE |-
          have HzE:Hid (Wv.heap.size<=bE):=lh (ea F I);clear F I;exact Ff
        ·go_simp
         generalize E:World.alloc _ _=v';have q:ae [] Wv v':=kr E
         have HE:Hid (v'.heap[Wv.heap.size]?=some (.cells #[(),d8] 39)):=lh (lp E);have I:Wv.heap.size<=Wv.heap.size:=o.size;replace o:=lh (o.q q);clear E q;generalize F:Wv.heap.size=bE at HE |-
         have HzE:Hid (Wv.heap.size<=bE):=lh (ea F I);clear F I;obtain ⟨v,rfl⟩:=bu v'
         refine ko hK qg fun hHeld=>?_;clear hK K
         refine j6 4 96 fun K hK=>?_
         go_simp;refine (Jrj.out _ (gf o)).mono ?_;rintro e v' ⟨vv,rfl,L,hq⟩;obtain ⟨g1,c1,rfl,-,-⟩:=L.form Qt;have N:aj .i64 0 v'.heap.size v' (.slice g1 (aq f x y 8 X Y).length c1) (aq f x y 8 X Y):=L.ints.mono (PX _) (Pm _);clear L;have q:ae [] v v':=lm hq
         replace HE:=lh (q.row HE);have Xq:=lh N;replace o:=lh (o.q q);clear hq q N;exact Ff
       case rest =>
        obtain ⟨bE,l1,rfl,rfl,HOr,-,-,-,-⟩:=hcut;have HVn:=lh (HOr.row HVv);have HBn:=lh (HOr.row JxK);have TL:=lh (Jnz.trans HOr (U:=[J]) (fun _ h _=>h) Qb);by_cases hbt:k1<s.cost
        ·have Xd:dQ f b x y s (X,Y)=⟨X,Y,k1⟩:=by unfold dQ;simp only;rw [<- Hk1.out,if_pos hbt]
         have Vr:=lh Xd;clear Xd;obtain ⟨b0,b1,bf0,bf1,-⟩:=aL HBn;obtain ⟨v0,v1,-⟩:=aL HVn;obtain ⟨QK,QV⟩:=aJ (x:=.int .i64 (X)) (y:=.int .i64 (Y)) HBn;have SA:=lh QK;have Sx:=lh QV;clear QK QV;go_wp2_with fail;refine ⟨⟨n+1,⟨X,Y,k1⟩,Qa,Qh,rfl,lh (by rw [Sy.out,Vr.out]),SA,lh (TL.trans Sx (U:=[J]) (fun _ h _=>h) (fun _ h _=>h))⟩,Qf⟩
        ·have Xd:dQ f b x y s (X,Y)=s:=by unfold dQ;simp only;rw [<- Hk1.out,if_neg hbt]
         exact Fh
      ·obtain rfl:n=2*r+1:=Qa
       have hni:¬ (((2*r+1:Nat):Int)-r)<=r:=Qa;have VV:=lh (jU r k);rw [VV.out] at VT;go_wp2_with fail;exact ⟨⟨k+1,s,Qa,Qh,rfl,VT,Jgv,RY⟩,Qf⟩
    ·obtain rfl:k=2*r+1:=Qa
     have Rt:¬ (((2*r+1:Nat):Int)-r)<=r:=Qa;have ZC:=lh (mK r);rw [ZC.out,<- H1.out] at O;have Ru:=O.out;subst Ru;go_wp2_with fail;go_meet;exact ⟨rfl,Sg,QP⟩
  case rest =>
   obtain ⟨rfl,Su,Sr⟩:=hcut;obtain ⟨Xj,JaR⟩:=bu wc
   subst JaR;obtain ⟨o1,o2,o3,o4⟩:=Jgp.out;obtain ⟨b0,b1,-⟩:=aL Su;have HVr:=lh (Sd Xj (.cells #[D.vx,D.vy] 73));have TS:=lh (Sr.trans (ae.new Xj (.cells #[D.vx,D.vy] 73)) (U:=[J]) (fun _ h _=>h) Qb);have Jjo:=lh ((ae.new Xj (.cells #[D.vx,D.vy] 73)).row Su);have HBW:Hid (J<Xj.heap.size):=lh (l8.1 Su).1;go_wp2_with fail;generalize JoH:World.alloc Xj _=W11 at *
   clear JoH b0 b1;generalize Xj.heap.size=V at *
   go_loopw [21,13,22,23,24,25] (fun a c _ _ _ _ wr=>∃ (k:Nat) (s:lZ),k<=3/\a=.int .i64 ((k:Int)-1)/\c=.int .i64 s.cost/\Hid (s=(df D.vx D.vy k 0).foldl (dQ f b x y) D)/\Hid (wr.heap[J]?=some (.cells #[s.vx,s.vy] 73))/\Hid (ae [J] W11 wr)) (fun a _ _ _ _ _ _=>((2:Int)-intOf a).toNat)
   case atStart=>exact ⟨0,D,Qa,by first | rfl | go_num,rfl,lh (by simp [df]),Jjo,lh (AY)⟩
   case round =>
    obtain ⟨k,s,hk,rfl,rfl,O,Sg,QP⟩:=hrel;by_cases QH:k<3
    ·have Rt:(k:Int)-1<=1:=Qa
     go_wp2_with fail;go_loopw [22,13,23,24,25] (fun a c _ _ _ wr=>∃ (n:Nat) (s:lZ),n<=3/\a=.int .i64 ((n:Int)-1)/\c=.int .i64 s.cost/\Hid (s=(df D.vx D.vy k n).foldl (dQ f b x y) D)/\Hid (wr.heap[J]?=some (.cells #[s.vx,s.vy] 73))/\Hid (ae [J] W11 wr)) (fun a _ _ _ _ _=>((2:Int)-intOf a).toNat)
     case atStart=>exact ⟨0,s,Qa,by first | rfl | go_num,rfl,O,Sg,QP⟩
     case round =>
      obtain ⟨n,s,hn,rfl,rfl,VT,Jgv,RY⟩:=hrel;by_cases Jcy:n<3
      ·have hni:(n:Int)-1<=1:=Qa
       obtain ⟨v0,v1,-⟩:=aL (RY.rowAt HVr (eW HBW));obtain ⟨X,hX⟩:=bu (D.vx+((n:Int)-1))
       obtain ⟨Y,hY⟩:=bu (D.vy+((k:Int)-1))
       have m1:IntKind.i64.wrap (D.vx+((n:Int)-1))=X:=Qe;have m2:IntKind.i64.wrap (D.vy+((k:Int)-1))=Y:=Qe;have JaP:=lh (fun h=>by rw [rz D.vx D.vy k n h,A4,<- VT.out];rfl:mh (D.vx+((n:Int)-1),D.vy+((k:Int)-1))=true->(df D.vx D.vy k (n+1)).foldl (dQ f b x y) D=dQ f b x y s (D.vx+((n:Int)-1),D.vy+((k:Int)-1)));have Hno:=lh (fun h=>by rw [tP D.vx D.vy k n h];exact VT.out:mh (D.vx+((n:Int)-1),D.vy+((k:Int)-1))=false->s=(df D.vx D.vy k (n+1)).foldl (dQ f b x y) D);rw [<- hX,<- hY] at JaP Hno;have JnR:Hid (mh (X,Y)=true->(-15<=X/\X<=15)/\(-15<=Y/\Y<=15)):=lh (fun h=>by unfold mh at h;simp only [t8,r9] at h;omega);have HVX:=lh (fun W=>Mx X Y W);have HVv:=lh (Sd wr (.cells #[X,Y] 73));have Z:=lh (ae.new wr (.cells #[X,Y] 73));clear hX hY;go_upto_region 29 with (fail)
       clear v0 v1 m1 m2;generalize hWv:World.alloc wr _=Wv at *
       clear hWv;generalize wr.heap.size=G at *
       obtain ⟨v0,v1,-⟩:=aL HVv;go_wp2_with fail;clear v0 v1;refine (HVX.out Wv).mono ?_;rintro e Wm ⟨rfl,hqm⟩;have HVm:=lh (hqm.row HVv);have JjM:=lh (RY.trans (Z.q hqm) (U:=[J]) (fun _ h _=>h) Qb);have Jrk:=lh ((Z.q hqm).row Jgv);clear hqm HVX;cases hm:mh (X,Y) with
       | true =>
        have M:=lh (JnR.out hm);have Sy:=lh (JaP.out hm);have HFm:=lh (JjM.rowAt (TS.rowAt HF7 (eW Wj)) (eW Wj));have Jsd:=lh (fun (W:World) (o:ae [] Wm W)=>Jsc.out W ((TS.trans JjM (U:=[J]) (fun _ h _=>h) (fun _ h _=>h)).trans o (U:=[J]) (fun _ h _=>h) Qb));clear hm JaP Hno JnR;go_upto_region 30 with (fail)
        obtain ⟨k2,RM⟩:=bu (eA (aq f x y 8 X Y) b X Y)
        have JeU:=lh (fun (W:World) (o:ae [] Wm W)=>iw HF.1 (Jsd.out W o).1 x y (X) (Y) HF.2.1 HF.2.2 M.1 M.2);have JmV:=lh (fun (W:World) (o:ae [] Wm W) (gv:Value) (hv:aj .i64 0 W.heap.size W gv (aq f x y 8 X Y))=>nA (vx:=X) (vy:=Y) hv (Jsd.out W o).2 (by rw [aF];exact HB.1) Qt (HB.2.2 (X) (Y)) HB.2.1 M.1 M.2);rw [<- RM] at JmV;have Tw:=lh RM;clear RM;have Te:Hid (∀ wx:World,ae [] Wm wx->wx.heap[w.heap.size]?=some (.cells (sT f pa pc) 24)/\wx.heap[G]?=some (.cells #[X,Y] 73)):=lh (fun wx o=>⟨o.row (HFm.out),o.row (HVm.out)⟩);go_cut [25,24] (fun sE s24 wx=>∃ (bE:Nat) (l1:Nat),sE=.pointer bE/\s24=.int .i64 k2/\Hid (ae [] Wm wx)/\Hid (wx.heap[bE]?=some (.cells #[(),d8] 39))/\Hid (Wm.heap.size<=l1/\l1<=wx.heap.size)/\Hid (kj l1 l1 wx)/\Hid (Wm.heap.size<=bE/\(bE<l1\/l1<=bE)))
        case first =>
         have o:=lh (ae.refl [] Wm);refine Tf (S:=(fun wz=>wz.heap[w.heap.size]?=some (.cells (sT f pa pc) 24)/\wz.heap[G]?=some (.cells #[X,Y] 73))) Qc ?_ (fun hHeld=>?_)
         ·first | exact Te.out _ (AY) | exact Te.out _ (AY).drew
         refine e9 0 129 ⟨rfl,aQ⟩ ?_;refine e9 1 130 ⟨rfl,aQ⟩ ?_;refine e9 2 131 ⟨rfl,aQ⟩ ?_;refine e9 3 132 ⟨rfl,aQ⟩ ?_;refine e9 5 134 ⟨rfl,aQ⟩ ?_;refine e9 6 135 ⟨rfl,aQ⟩ ?_;refine C2 (j2 4 133 (fun K hK=>?_) (j2 11 25 (fun K hK=>?_) .nil))
         ·go_simp
          refine (JeU.out _ (gf o)).mono ?_;rintro e v' ⟨vv,rfl,L,hq⟩;obtain ⟨g2,c2,rfl,-,-⟩:=L.form Qt;have N:aj .i64 0 v'.heap.size v' (.slice g2 (aq f x y 8 X Y).length c2) (aq f x y 8 X Y):=L.ints.mono (PX _) (Pm _);clear L;have q:ae [] Wm v':=lm hq
          have Xr:=lh N;replace o:=lh (o.q q);clear hq q N;obtain ⟨v,rfl⟩:=bu v'
          refine ko hK qh fun hHeld=>?_;clear hK K
          refine C2 (j2 7 136 (fun K hK=>?_) (j2 11 25 (fun K hK=>?_) .nil))
          ·go_simp
           refine (JmV.out _ (gf o) _ (mj Xr)).mono ?_;rintro e v' ⟨rfl,hq⟩;obtain ⟨l1,WF⟩:=bu v.heap.size
           have YO:kj l1 l1 v':=trivial;have hKl:v.heap.size<=l1:=Qa;have YQ:l1<=v'.heap.size:=by rw [WF];first | exact hq.size | exact ((AY).drew.q hq).size
           clear WF;have q:ae [] v v':=lm hq
           have ZH:Wm.heap.size<=v.heap.size:=o.size;replace Xr:Hid (aj .i64 0 v'.heap.size v' (.slice g2 (aq f x y 8 X Y).length c2) (aq f x y 8 X Y)):=lh ((Xr.quiet q).mono (Pm _) q.size);have HK:=lh YO;have RS:Hid (Wm.heap.size<=l1/\l1<=v'.heap.size):=lh ⟨Qa,YQ⟩;replace o:=lh (o.q q);clear hq q YO hKl YQ ZH;obtain ⟨v,rfl⟩:=bu v'
           refine ko hK qh fun hHeld=>?_;clear hK K
           refine e9 8 128 ⟨rfl,aQ⟩ ?_;refine e9 9 137 ⟨rfl,aQ⟩ ?_;refine e9 10 138 ⟨rfl,aQ⟩ ?_;refine j6 11 25 fun K hK=>?_
           go_simp;generalize E:World.alloc _ _=v';have q:ae [] v v':=kr E
           have HE:Hid (v'.heap[v.heap.size]?=some (.cells #[(),d8] 39)):=lh (lp E);have I:Wm.heap.size<=v.heap.size:=o.size;have Vz:Hid (Wm.heap.size<=v.heap.size/\(v.heap.size<l1\/l1<=v.heap.size)):=lh ⟨I,.inr RS.2⟩;replace HK:Hid (kj l1 l1 v'):=HK.only q Qb;replace RS:Hid (Wm.heap.size<=l1/\l1<=v'.heap.size):=lh ⟨RS.1,Pw RS.2 q.size⟩;replace Xr:Hid (aj .i64 0 v'.heap.size v' (.slice g2 (aq f x y 8 X Y).length c2) (aq f x y 8 X Y)):=lh ((Xr.quiet q).mono (Pm _) q.size);replace o:=lh (o.q q);clear E q;generalize F:v.heap.size=bE at HE Vz |-
           have HzE:Hid (Wm.heap.size<=bE):=lh (ea F I);clear F I;obtain ⟨v,rfl⟩:=bu v'
           refine ko hK qh fun hHeld=>?_;clear hK K
           refine e9 12 24 ⟨rfl,aQ⟩ ?_;refine j9 13 fun K hK=>?_
           refine aM (.tmp 25) (.tmp 138) 39 rfl (g:=bE) (c':=#[(),d8]) rfl rfl HE (kE _ _) rfl mi (fun v' hq hr=>?_);have q:ae [bE] v v':=lm hq
           replace HE:=lh hr;replace HK:Hid (kj l1 l1 v'):=HK.only q (fun g hg=>by rw [i5] at hg;subst hg;exact Vz.2);replace RS:Hid (Wm.heap.size<=l1/\l1<=v'.heap.size):=lh ⟨RS.1,Pw RS.2 q.size⟩;replace o:Hid (ae [] Wm v'):=o.trans q Qb (fun g hg QH=>by rw [i5] at hg;have:=Vz.1;omega);clear hq hr q;obtain ⟨v,rfl⟩:=bu v'
           refine hK.out _ _ ?_ (fun hHeld=>?_)
           ·exact qh
           exact yz
          ·go_simp
           generalize E:World.alloc _ _=v';have q:ae [] v v':=kr E
           have HE:Hid (v'.heap[v.heap.size]?=some (.cells #[(),d8] 39)):=lh (lp E);have I:Wm.heap.size<=v.heap.size:=o.size;replace Xr:Hid (aj .i64 0 v'.heap.size v' (.slice g2 (aq f x y 8 X Y).length c2) (aq f x y 8 X Y)):=lh ((Xr.quiet q).mono (Pm _) q.size);replace o:=lh (o.q q);clear E q;generalize F:v.heap.size=bE at HE |-
           have HzE:Hid (Wm.heap.size<=bE):=lh (ea F I);clear F I;exact Fe
         ·go_simp
          generalize E:World.alloc _ _=v';have q:ae [] Wm v':=kr E
          have HE:Hid (v'.heap[Wm.heap.size]?=some (.cells #[(),d8] 39)):=lh (lp E);have I:Wm.heap.size<=Wm.heap.size:=o.size;replace o:=lh (o.q q);clear E q;generalize F:Wm.heap.size=bE at HE |-
          have HzE:Hid (Wm.heap.size<=bE):=lh (ea F I);clear F I;obtain ⟨v,rfl⟩:=bu v'
          refine ko hK qh fun hHeld=>?_;clear hK K
          refine j6 4 133 fun K hK=>?_
          go_simp;refine (JeU.out _ (gf o)).mono ?_;rintro e v' ⟨vv,rfl,L,hq⟩;obtain ⟨g2,c2,rfl,-,-⟩:=L.form Qt;have N:aj .i64 0 v'.heap.size v' (.slice g2 (aq f x y 8 X Y).length c2) (aq f x y 8 X Y):=L.ints.mono (PX _) (Pm _);clear L;have q:ae [] v v':=lm hq
          replace HE:=lh (q.row HE);have Xr:=lh N;replace o:=lh (o.q q);clear hq q N;exact Fe
        case rest =>
         obtain ⟨bE,l1,rfl,rfl,HOr,-,-,-,-⟩:=hcut;have HVn:=lh (HOr.row HVm);have HBn:=lh (HOr.row Jrk);have TL:=lh (JjM.trans HOr (U:=[J]) (fun _ h _=>h) Qb);by_cases hbt:k2<s.cost
         ·have Xd:dQ f b x y s (X,Y)=⟨X,Y,k2⟩:=by unfold dQ;simp only;rw [<- Tw.out,if_pos hbt]
          have Vr:=lh Xd;clear Xd;obtain ⟨b0,b1,bf0,bf1,-⟩:=aL HBn;obtain ⟨v0,v1,-⟩:=aL HVn;obtain ⟨QK,QV⟩:=aJ (x:=.int .i64 (X)) (y:=.int .i64 (Y)) HBn;have SA:=lh QK;have Sx:=lh QV;clear QK QV;go_wp2_with fail;refine ⟨⟨n+1,⟨X,Y,k2⟩,Qa,Qh,rfl,lh (by rw [Sy.out,Vr.out]),SA,lh (TL.trans Sx (U:=[J]) (fun _ h _=>h) (fun _ h _=>h))⟩,Qf⟩
         ·have Xd:dQ f b x y s (X,Y)=s:=by unfold dQ;simp only;rw [<- Tw.out,if_neg hbt]
          exact Fh
       | false =>
        have Jtb:=lh (Hno.out hm);clear hm JaP Hno JnR;go_wp2_with fail;exact ⟨⟨n+1,s,Qa,Qh,rfl,Jtb,Jrk,JjM⟩,Qf⟩
      ·obtain rfl:n=3:=Qa
       have hni:¬ (((3:Nat):Int)-1)<=1:=Qa;have VV:=lh (ry D.vx D.vy k);rw [VV.out] at VT;go_wp2_with fail;exact ⟨⟨k+1,s,Qa,Qh,rfl,VT,Jgv,RY⟩,Qf⟩
    ·obtain rfl:k=3:=Qa
     have Rt:¬ (((3:Nat):Int)-1)<=1:=Qa;have ZC:=lh (ru D.vx D.vy);rw [ZC.out,<- HE.out] at O;have Rz:=O.out;subst Rz;have HQe:=lh (TS.trans QP (U:=[J]) (fun _ h _=>h) (fun _ h _=>h));have hre:=HQe.rowAt (Uj.row (HX6.row HE1)) (eW Wj);have hrr:=HQe.rowAt (Uj.row (HX6.row Rg)) (eW Wj);obtain ⟨b0,b1,-⟩:=aL Sg;obtain ⟨v0,v1,y0,y1,-⟩:=aL hrr;obtain ⟨QK,QV⟩:=aJ (x:=.int .i64 s.vx) (y:=.int .i64 s.vy) hrr;have Jvp:=QV.rowAt hre Qi;obtain ⟨t0,t1,u0,u1,-⟩:=aL Jvp;obtain ⟨Vh,Uw⟩:=aJ (x:=.int .i64 0) (y:=.slice none 0 0) Jvp;have Jmw:=Uw.rowAt QK Qi;have SA:=lh (VL Jmw Vh);have Sx:=lh (QV.trans Uw (U:=[w.heap.size+1,w.heap.size+1+1]) Qb Qb);clear QK QV Vh Uw Jmw hre hrr;go_wp2_with fail;refine TV (v:=.tuple #[.agg #[s.vx,s.vy],.agg #[(),d8]]) (dC results95 _ _ (w.heap.size+1) (w.heap.size+1+1) _ _ _ _ _ _ _ _ rfl rfl SA.1 SA.2 underlying73 rfl Qc underlying39 rfl (aG _ rfl)) rfl (QF.out _ _ ⟨rfl,?_⟩);exact ((SJ.q Uj).trans HQe (U:=[]) Qb (fun g hg QH=>by rw [i5] at hg;have:=Wj.out;omega)).trans Sx (U:=[]) Qb (fun g hg QH=>by simp only [Pg,Ph,l7] at hg;omega)
end
end Go.Proofs.YthcafdfdglfabaaGreatDoor
