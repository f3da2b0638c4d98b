/- Joined texts: GCf, GFs, GEnW, GEsC. Conditions: each part names its own. -/
import Derived.Test.YthcafdfdglfabaaGreatDoorGE
import Derived.Test.YthcafdfdglfabaaGreatDoorTie
import Derived.Test.YthcafdfdglfabaaGreatDoorCards
set_option maxRecDepth 100000
set_option maxHeartbeats 16000000
namespace Go.Proofs.YthcafdfdglfabaaGreatDoor
open Go.Proofs.Tryz
open Go.RowKit
set_option linter.unusedVariables false
set_option linter.unusedSimpArgs false
theorem Mr {lo hi:Nat} {w:World} {v:Value} {l:List Int} (h:aj .i64 lo hi w v l) (L:lo<=w.heap.size) (hh:hi<=w.heap.size:=by exact Pm _):∃ b,aj .i64 b (b+1) w v l/\lo<=b/\b<w.heap.size+1:=by
 obtain ⟨b,h1,E⟩:=h.tight;by_cases e:l=[]
 ·subst e
  obtain ⟨⟨h1,D,c',e,F,I,N⟩,J⟩:=h;exact ⟨w.heap.size,⟨⟨h1,D,c',e,F,I,fun M=>absurd M Qb⟩,J⟩,L,Qa⟩
 ·have:=E e
  exact ⟨b,h1,Qa,Qa⟩
section
theorem Co {lo hi:Nat} {v:Value} {l:List ah} {w:World} (h:aZ lo hi w v l) (hl:l.length<=1000000000) (hp:∀ f∈l,f.pix.length<=1000000000) :
  Calls prog 20 #[v] w fun e w'=>ae [] w w'/\∃ a n,e=.returned (.slice a l.length n)/\aZ w.heap.size w'.heap.size w' (.slice a l.length n) l:=by
 refine aK fun Q QF=>?_
 obtain ⟨a,cap,rfl,-,-,RO⟩:=h.open;have TT:=lh RO;have Hpl:=lh hp;have Th:(l.length:Int)<=9223372036854775807:=Qa;have Hll:=lh hl;clear h RO hp hl;go_enter func20,ntmps20;go_wp2_with fail;go_loopw [4,3] (fun i r wr=>∃ k:Nat,k<=l.length/\i=.int .i64 k/\Hid (il w.heap.size wr (.slice none 0 0) [] r (l.take k))/\Hid (ae [] w wr)) (fun i _ _=>l.length-(intOf i).toNat)
 case atStart=>exact ⟨0,Qa,rfl,lh (il.nil _ _),lh (AY)⟩
 case round =>
  obtain ⟨k,hk,rfl,Y,E⟩:=hrel;obtain ⟨-,-,ra,rc,-,V⟩:=Y.slices;have QJ:(l.take k).length=k:=Qs;rw [QJ] at V;subst V;by_cases N:k<l.length
  ·have Rt:(k:Int)<(l.length:Int):=Qa
   have RA:(0:Int)<=(k:Int):=Qa;obtain ⟨b,off,dv,rfl,-,-,TM,Sq,SE,hd⟩:=TT.out k N;have c0:=E.cell TM Qb;have c1:=E.cell Sq Qb;have c2:=E.cell SE Qb;have Vd:=Hpl.out _ (show l.getD k default∈l by rw [Pd,Pe N];exact PG N);have F:l.take (k+1)=l.take k ++ [l.getD k default]:=by rw [UJ N,Pd,Pe N];rfl
   obtain ⟨f,hf⟩:=bu (l.getD k default)
   rw [<- hf] at c0 c1 hd Vd F;have M:=lh F;have L:=lh (ly (hd.quiet E) Vd);clear TM Sq SE hd hf Vd F QJ;go_wp2_with fail;clear c0 c1 c2;refine L.mono ?_;rintro e D ⟨v5,rfl,QL,hq⟩;obtain ⟨I,J,rfl,-⟩:=QL.ints.open;obtain ⟨bf,O,JdU⟩:=Mr QL.ints hq.size;have hn:=ae.new D (sT f I J);have hzn:D.heap.size+1=(D.alloc (sT f I J)).heap.size:=Qb;have HCs:Hid (cf 3 D.heap.size (D.heap.size+1) (D.alloc (sT f I J)) (.slice D.heap.size 1 1) 1 [.int .i64 f.W,.int .i64 f.H,.slice I f.pix.length J]):=fG rfl rfl Qj Qb;have XK:=lh ((Y.quiet hq).quiet hn);have HF6:=lh (O.quiet hn);have Xw:=Y.right.at
   have Jhg:=lh Xw;have Yl:=E.size;have HfF:Hid (ji w.heap.size (D.alloc (sT f I J)) (.slice none 0 0) (.slice ra k rc) bf):=lh ⟨Qa,Qa,fun e=>(by cases e),fun e=>by have:=(Xw _ e).2;omega⟩;have Hba:Hid (w.heap.size<=(D.alloc (sT f I J)).heap.size):=lh Qa;have Hby:Hid (((l.take k).length+1)*40<=140737488355328):=lh (by rw [Po];have:=Hll.out;omega);have HL:Hid ((l.take k ++ [f]).length=k+1):=lh (by rw [<- M.out,Po];omega);have SJ:=lh ((E.q hq).q hn);clear QL O JdU hn hzn Xw Yl hq L
   go_wp2_with (first
    | (at_builtin;refine iA rfl (.tmp 11) (.tmp 17) _ rfl D7 XK rfl HCs HF6 HfF rfl Hby Hba (fun v2 w9 Z Sc=>?_);obtain ⟨-,-,z2,g2,-,hz2⟩:=Z.slices;subst hz2;rw [HL.out] at Z Sc |-;have HO9:=lh Z;have HA9:=lh Sc;clear Z Sc)
    | fail)
   exact ⟨⟨k+1,Qa,Qh,lh (bC M HO9),lh (SJ.trans HA9.only (U:=[]) Qb (fun x hx hl=>by have:=(Jhg.out x Qz).1;omega))⟩,Qf⟩
  ·obtain rfl:k=l.length:=Qa
   have hx:¬ (l.length:Int)<(l.length:Int):=Qa;go_wp2_with fail;refine QF.out _ _ ⟨E,ra,rc,rfl,?_⟩;have h:=Y.right.frames;rw [List.take_length] at h;exact h
end
section
theorem EB {lo hi lo' hi':Nat} {v u:Value} {l:List ah} {w:World} (h:aZ lo hi w v l) (g:aZ lo' hi' w u l) :
  Calls prog 24 #[v,u] w fun e w'=>e=.returned (.bool true)/\ae [] w w':=by
 refine aK fun Q QF=>?_
 obtain ⟨a,cap,rfl,Sv,RN,Wz⟩:=h.open;obtain ⟨a',VW,rfl,-,-,I⟩:=g.open;have Th:(l.length:Int)<=9223372036854775807:=by unfold maxLen at RN;omega
 have Hh:=lh Wz;have Hg:=lh I;clear h g Wz I RN Sv;go_enter func24,ntmps24;go_wp2_with fail;go_loopw [5] (fun i wr=>∃ k:Nat,k<=l.length/\i=.int .i64 k/\Hid (ae [] w wr)) (fun i _=>l.length-(intOf i).toNat)
 case atStart=>exact ⟨0,Qa,rfl,lh (AY)⟩
 case round =>
  obtain ⟨k,hk,rfl,V⟩:=hrel;by_cases QH:k<l.length
  ·have Rt:(k:Int)<(l.length:Int):=Qa
   have RA:(0:Int)<=(k:Int):=Qa;obtain ⟨b,off,dv,rfl,-,-,c0,c1,c2,hd⟩:=Hh.out k QH;obtain ⟨F,E,N,rfl,-,-,J,L,M,O⟩:=Hg.out k QH;generalize l.getD k default=x at *
   have Z:Hid (∀ wx,ae [] w wx->wx.cell? ⟨b,off+k*3,none⟩=some (.int .i64 x.W)/\wx.cell? ⟨b,off+k*3+1,none⟩=some (.int .i64 x.H)/\wx.cell? ⟨b,off+k*3+2,none⟩=some (dv)/\wx.cell? ⟨F,E+k*3,none⟩=some (.int .i64 x.W)/\wx.cell? ⟨F,E+k*3+1,none⟩=some (.int .i64 x.H)/\wx.cell? ⟨F,E+k*3+2,none⟩=some (N)):=lh (fun wx o=>⟨o.cell c0 Qb,o.cell c1 Qb,o.cell c2 Qb,o.cell J Qb,o.cell L Qb,o.cell M Qb⟩);have D:=fun (wx:World) (o:ae [] w wx)=>tD (A:=x) (B:=x) (hd.quiet o) (O.quiet o)
   rw [show CF x x=true by simp [CF,s5]] at D;have Y:=lh D;clear c0 c1 c2 J L M hd O D;go_wp2_with fail;refine Tf (S:=(fun wz=>wz.cell? ⟨b,off+k*3,none⟩=some (.int .i64 x.W)/\wz.cell? ⟨b,off+k*3+1,none⟩=some (.int .i64 x.H)/\wz.cell? ⟨b,off+k*3+2,none⟩=some (dv)/\wz.cell? ⟨F,E+k*3,none⟩=some (.int .i64 x.W)/\wz.cell? ⟨F,E+k*3+1,none⟩=some (.int .i64 x.H)/\wz.cell? ⟨F,E+k*3+2,none⟩=some (N))) Qc ?_ (fun hHeld=>?_)
   ·exact Z _ V.drew
   refine tk 0 17 ?_;refine tk 1 18 ?_;refine tk 2 19 ?_;refine tk 3 20 ?_;refine tk 4 21 ?_;refine tk 5 22 ?_;refine tk 6 23 ?_;refine tk 7 24 ?_;refine j6 8 25 fun K hK=>?_
   go_simp;refine (Y.out _ V.drew).mono ?_;rintro e wn ⟨rfl,Vf⟩;have RY:=lh (V.drew.q Vf);clear Vf;refine hK.out _ _ (Z.out _ RY) (fun hHeld=>?_);clear hK K;refine tk 9 26 ?_;refine Wn Qc ?_ _;go_wp2_with fail;exact ⟨⟨k+1,Qa,Qh,RY⟩,Qf⟩
  ·obtain rfl:k=l.length:=Qa
   have hx:¬ (l.length:Int)<(l.length:Int):=Qa;go_wp2_with fail;exact QF.out _ _ ⟨rfl,V.out⟩
end
theorem Ic {l:List ah} (h:vh l=true):∀ f∈l,f.pix.length<=20000:=by
 simp only [vh,t8,r9] at h;rw [YN h.1] at h;have key:∀ (l:List ah) (n:Int),n<=l.foldl (fun n c=>n+min (c.pix.length:Int) 20001) n/\∀ c∈l,n+min (c.pix.length:Int) 20001<=l.foldl (fun n c=>n+min (c.pix.length:Int) 20001) n:=by
  intro l
  induction l with
  | nil=>intro n;exact ⟨Int.le_refl _,fun c D=>by cases D⟩
  | cons a rest ih =>
   intro n;rw [List.foldl_cons];obtain ⟨p,q⟩:=ih (n+min (a.pix.length:Int) 20001);refine ⟨Qa,fun c D=>?_⟩;rcases Zb.1 D with rfl | D
   ·exact p
   ·have:=q c D;omega
 intro c D;have:=(key l 0).2 c D;have E:l.foldl (fun n c=>n+min (c.pix.length:Int) 20001) 0<=20000:=h.2;omega
def Gk (c:j3) (l:List ah) (caps:List Int):List bw:=match bZ c l caps with
 | some _=>[]
 | none=>uW c l caps
def Mo (c:j3) (l:List ah) (caps:List Int):List ah:=match bZ c l caps with
 | some _=>[]
 | none=>uX c l caps
theorem NG {c:j3} {l:List ah} {caps:List Int} {k:Int} (h:bZ c l caps=some k):k≠0:=by
 unfold bZ at h
 repeat' split at h
 all_goals first | (injection h with h;omega) | cases h
section
variable {c:j3} {l:List ah} {caps:List Int} {w w':World} {e:Ending}
theorem OU (h:Nu c l caps w e w'):ae [] w w'/\∃ a I D b J E,e=.returned (.tuple #[.slice a I D,.slice b J E,iL (bZ c l caps)])/\cm w.heap.size w'.heap.size w' (.slice a I D) (Gk c l caps)/\aZ w.heap.size w'.heap.size w' (.slice b J E) (Mo c l caps):=by
 obtain ⟨h1,F⟩:=h;refine ⟨h1,?_⟩;unfold Gk Mo;cases hk:bZ c l caps with
 | some k=>rw [hk] at F;exact ⟨none,0,0,none,0,0,F,(il.nil w.heap.size w').left.codeds,(il.nil w.heap.size w').right.frames⟩
 | none=>rw [hk] at F;obtain ⟨a,D,b,E,e,p,q⟩:=F;exact ⟨a,_,D,b,_,E,e,p,q⟩
theorem Oy (h:Ej c l caps w e w'):ae [] w w'/\∃ a I D b J E,e=.returned (.tuple #[.slice a I D,.slice b J E,.agg #[.int .i64 ((bZ c l caps).getD 0),d8]])/\cm w.heap.size w'.heap.size w' (.slice a I D) (Gk c l caps)/\aZ w.heap.size w'.heap.size w' (.slice b J E) (Mo c l caps):=by
 obtain ⟨h1,F⟩:=h;refine ⟨h1,?_⟩;unfold Gk Mo;cases hk:bZ c l caps with
 | some k=>rw [hk] at F;exact ⟨none,0,0,none,0,0,F,(il.nil w.heap.size w').left.codeds,(il.nil w.heap.size w').right.frames⟩
 | none=>rw [hk] at F;obtain ⟨a,D,b,E,e,p,q⟩:=F;exact ⟨a,_,D,b,_,E,e,p,q⟩
end
section
theorem Lu {p:Prop} (h:p:=by
 go_wp2_with fail;refine (HFi.out _ QW).mono ?_;rintro e w4 ⟨rfl,QY⟩;have Rh:=lh (QW.q QY);clear QY;go_wp2_with fail;exact QF.out _ _ ⟨rfl,Rh.out⟩):p:=h
theorem xP {lv cv:Value} {l:List ah} {caps:List Int} {w:World} (c:j3) (h:aZ 0 w.heap.size w lv l) (hc:aj .i64 0 w.heap.size w cv caps) (hE:po w) :
  Calls prog 5 #[c.v,lv,cv] w fun e w'=>e=.returned (.bool true)/\ae [] w w':=by
 obtain ⟨a0,a1,a2,a3,a4,a5,a6,a7⟩:=c;show Calls prog 5 #[.agg #[a0,a1,a2,a3,a4,a5,a6,a7],lv,cv] w _;refine aK fun Q QF=>?_
 have HFi:=lh (fun (W:World) (o:ae [] w W)=>zJ W (hE.quiet o));have HLi:=lh (fun (W:World) (o:ae [] w W)=>CQ (a0:=a0) (a1:=a1) (a2:=a2) (a3:=a3) (a4:=a4) (a5:=a5) (a6:=a6) (a7:=a7) (h.quiet o));have HE:=lh hE;have Hh:=lh h;have Hc:=lh hc;obtain ⟨la,ln,rfl,Ys,hlm,-⟩:=h.open;obtain ⟨ka,kn,rfl,hkn,hkm,-⟩:=hc.open;have Th:(l.length:Int)<=9223372036854775807:=by unfold maxLen at hlm;omega
 have hcl:(caps.length:Int)<=9223372036854775807:=by unfold maxLen at hkm;omega
 have QO:=lh (ae.new w (.cells #[a0,a1,a2,a3,a4,a5,a6,a7] 47));have Rg:=lh (Sd w (.cells #[a0,a1,a2,a3,a4,a5,a6,a7] 47));clear h hc hE Ys hlm hkn hkm;go_enter func5,ntmps5;go_wp2_with fail;generalize Rs:World.alloc w _=W1 at *
 clear Rs;obtain ⟨BX,hBX⟩:=bu w.heap.size
 rw [<- hBX] at Rg |-
 clear hBX;refine (HFi.out _ QO).mono ?_;rintro e w2 ⟨rfl,QN⟩;have QT:=lh (QO.q QN);have SQ:=lh (QN.row Rg);clear QN;obtain ⟨k0,k1,k2,k3,k4,k5,k6,k7⟩:=bJ SQ;go_wp2_with fail;clear k0 k1 k2 k3 k4 k5 k6 k7;refine (HLi.out _ QT).mono ?_;rintro e w3 ⟨⟨b,rfl,hb⟩,QQ⟩;have QW:=lh (QT.q QQ);have Wk:=lh (QQ.row SQ);clear QQ;cases b with
 | false =>
  clear hb;exact Lu
 | true =>
  have E:=hb rfl;have Hpl:=lh (Ic E);unfold vh at E;simp only [t8,r9] at E;have L:=lh E.1;clear hb E;by_cases JEn:(100:Int)<(caps.length:Int)
  ·exact Lu
  ·have Hc1:Hid (caps.length<=100):=lh Qa
   have Y:=lh (Co (Hh.quiet QW) (j0 L.out) (fun f hf=>by have:=Hpl.out f hf;omega));go_wp2_with fail;refine Y.mono ?_;rintro e w4 ⟨D,ya,yn,rfl,M⟩;have Z:=lh M;have Rh:=lh (QW.q D);have J:=lh (D.row Wk);have HEn:=lh (rh (a0:=a0) (a1:=a1) (a2:=a2) (a3:=a3) (a4:=a4) (a5:=a5) (a6:=a6) (a7:=a7) M (j0 L.out) (Hc.quiet Rh) (j0 Hc1.out) (Pm _));clear D M Y Wk;obtain ⟨k0,k1,k2,k3,k4,k5,k6,k7⟩:=bJ J;go_wp2_with fail;clear k0 k1 k2 k3 k4 k5 k6 k7;refine HEn.mono ?_;intro e w5 hm;obtain ⟨D,xa,xl,xn,xb,xk,xm,rfl,hA,hB⟩:=OU hm;have N:=lh hA;have Zu:=lh hB;have Rk:=lh (Rh.q D);have HR5:=lh (D.row J);have Jrq:=lh (Z.quiet D);have HKn:=lh (xR (a0:=a0) (a1:=a1) (a2:=a2) (a3:=a3) (a4:=a4) (a5:=a5) (a6:=a6) (a7:=a7) (Hh.quiet Rk) (j0 L.out) (Hc.quiet Rk) (j0 Hc1.out) Rk.size);clear D hA hB hm HEn J Z;obtain ⟨k0,k1,k2,k3,k4,k5,k6,k7⟩:=bJ HR5;go_wp2_with fail;clear k0 k1 k2 k3 k4 k5 k6 k7;refine HKn.mono ?_;intro e w6 hm;obtain ⟨D,za,zl,zn,zb,zk,zm,rfl,hA,hB⟩:=Oy hm;have O:=lh hA;have V:=lh hB;have hn:=ae.new w6 (.cells #[.int .i64 ((bZ (⟨a0,a1,a2,a3,a4,a5,a6,a7⟩:j3) l caps).getD 0),d8] 39);have HEr:=lh (Sd w6 (.cells #[.int .i64 ((bZ (⟨a0,a1,a2,a3,a4,a5,a6,a7⟩:j3) l caps).getD 0),d8] 39));have HN:=lh hn;have F:=lh (D.q hn);have SJ:=lh ((Rk.q D).q hn);clear D hA hB hm hn HKn HR5;go_wp2_with fail;generalize hW7:World.alloc w6 _=W7 at *
   clear hW7;obtain ⟨BE,ZG⟩:=bu w6.heap.size
   rw [<- ZG] at HEr |-
   clear ZG;have HKc:=lh (fun (W:World) (o:ae [] W7 W)=>Cn (N.quiet (F.q o)) (O.quiet (HN.q o)));rw [show s5 (Gk (⟨a0,a1,a2,a3,a4,a5,a6,a7⟩:j3) l caps) (Gk (⟨a0,a1,a2,a3,a4,a5,a6,a7⟩:j3) l caps)=true by simp [s5]] at HKc;have HKf:=lh (fun (W:World) (o:ae [] W7 W)=>EB (Zu.quiet (F.q o)) (V.quiet (HN.q o)));have HKl:=lh (fun (W:World) (o:ae [] W7 W)=>EB (Jrq.quiet (F.q o)) (Hh.quiet (SJ.q o)));have HKe:=lh (fun (W:World) (o:ae [] W7 W)=>FP (o:=bZ (⟨a0,a1,a2,a3,a4,a5,a6,a7⟩:j3) l caps) (fun c hc=>NG hc) (HE.quiet (SJ.q o)));clear N Zu O V Jrq;refine (HFi.out _ SJ).mono ?_;rintro e w8 ⟨rfl,Vn⟩;have VS:=lh Vn;clear Vn;go_wp2_with fail;refine (HKc.out _ VS).mono ?_;rintro e w9 ⟨rfl,SR⟩;have SP:=lh (VS.q SR);clear SR;go_wp2_with fail;refine (HKf.out _ SP).mono ?_;rintro e wA ⟨rfl,hqA⟩;have I:=lh (SP.q hqA);clear hqA;obtain ⟨e0,e1,-⟩:=aL (I.row HEr);go_wp2_with fail;clear e0 e1;refine (HKe.out _ I).mono ?_;rintro e wB ⟨rfl,hqB⟩;have HQB:=lh (I.q hqB);clear hqB;go_wp2_with fail;refine (HKl.out _ HQB).mono ?_;rintro e wC ⟨rfl,hqC⟩;have HQC:=lh (SJ.q (HQB.q hqC));clear hqC;go_wp2_with fail;exact QF.out _ _ ⟨rfl,HQC.out⟩
end
open Go.ChangeShapes Go.WideShapes Go.ChangeAt
set_option linter.unusedVariables false
set_option linter.unusedSimpArgs false
theorem pI (os:Os) (O:os.Started) (H:Type) (enc:TypeId×Value->H) :
  ReturnsInHanded {} checked os 5 .any (fun w args=>(Rows.gopEncodesSpec.pre enc prog f5 [] false w args/\laidMetH prog wq w)/\sizedMet enc prog f5 (OpenSpec.ofChange Rows.gopEncodesSpec) false w args)
   (Rows.gopEncodesSpec.post enc prog f5 false true false false):=by
 refine returnsInHanded_of_change_and (C:=checked) (X:=fun w _=>laidMetH prog wq w) (fun _ _ _ hh h=>h.of_heap hh) OY O Qc func5
  (ChangeSpec.witness_at (enc:=enc) (C:=checked) (os:=os) (X:=fun w _=>laidMetH prog wq w) false (laidWorld os) #[.agg #[(),(),(),(),(),(),(),()],d8,d8] 8 rfl Qc Qc Qc Qc Qc (vg os _)) ?_
 intro W base args ds gs JzY F hW _ _ hL _;have M:∀ (j:Nat) t v,f5.params[j]?=some t->args[j]?=some v->Value.okWide prog W .any base t v:=F;have J:=hW;obtain ⟨p,q,I,hV,rfl,hfz,hnd⟩:=hW;have hA:DataW.TrodAll enc prog W 0 (fun _=>true) true f5.params.toList args.toList ds p:=I;rw [params5] at hA M;obtain ⟨v0,vs0,d0,ds0,p0,q0,JEi,rfl,rfl,h0,r0⟩:=trodAll_cons hA;obtain ⟨v1,vs1,d1,ds1,p1,q1,rfl,rfl,rfl,h1,r1⟩:=trodAll_cons r0;obtain ⟨v2,vs2,d2,ds2,p2,q2,rfl,rfl,rfl,h2,r2⟩:=trodAll_cons r1;obtain ⟨rfl,rfl,rfl⟩:=trodAll_nil r2;obtain rfl:args=#[v0,v1,v2]:=by cases args;simp_all
 obtain ⟨rfl,rfl⟩:=trodVars_none hV;have k0:=h0;have lt0:∀ x∈p0,x.block<W.heap.size:=by obtain ⟨m,L⟩:=k0;exact DataW.trod_lt m _ _ _ L
 obtain ⟨c0,rfl⟩:=FQ (M 0 47 v0 rfl rfl) h0;have k1:=h1;have lt1:∀ x∈p1,x.block<W.heap.size:=by obtain ⟨m,L⟩:=k1;exact DataW.trod_lt m _ _ _ L
 obtain ⟨a1,E,V,rfl⟩:=okWide_slice underlying27 (M 1 27 v1 rfl rfl);obtain ⟨l1,Y⟩:∃ l,aZ 0 W.heap.size W (.slice a1 E V) l:=by
  obtain ⟨fuel,hf⟩:=h1;obtain ⟨v,l,hv,hl⟩:=Gh hf;have Uo:(Value.slice a1 E V).cells.toList=[.slice a1 E V]:=rfl;rw [Uo] at hv;obtain rfl:=(List.cons.inj hv).1;exact ⟨l,hl⟩
 have k2:=h2;have lt2:∀ x∈p2,x.block<W.heap.size:=by obtain ⟨m,L⟩:=k2;exact DataW.trod_lt m _ _ _ L
 obtain ⟨a2,N,Ut,rfl⟩:=okWide_slice underlying22 (M 2 22 v2 rfl rfl);obtain ⟨l2,Z⟩:∃ l,aj .i64 0 W.heap.size W (.slice a2 N Ut) l:=by
  obtain ⟨fuel,hf⟩:=h2;exact Ez hf
 clear I F;simp only [Px] at J;refine (xP c0 Y Z (xL hL)).mono fun e W' ⟨he,hq⟩=>?_
 subst he;have D:=hq.quiet;exact ⟨_,rfl,_,_,_,[],_,[],J,trodAll_mk1 (shut_bool underlying4 _),(trodAll_cons_mk (Below.trod tM Qc (A2 Qc) k0 D lt0) (trodAll_cons_mk (Below.trod tM Qc (A2 Qc) k1 D lt1) (trodAll_cons_mk (Below.trod tM Qc (A2 Qc) k2 D lt2) trodAll_mk0))),rfl,D.frame _,fun h=>Qv⟩
theorem th:Rows.GopEncodesSaid :=
 OpenClaim.holds_of_wide 5 f5 rfl rfl rfl rfl rfl rfl rfl ⟨rfl,rfl,rfl,rfl,rfl⟩ rfl rfl rfl rfl rfl Qc func5 Qc
  (A2 Qc) (by unfold Func.isWrapper;first | (rw [if_pos Qg];kernel_rfl) | (rw [if_neg Qg];exact ⟨rfl,rfl⟩))
  (fun os D H enc _=>pI os D H enc)
theorem gopEncodes_holds:Rows.GopEncodesCardSaid :=
 Claim7.holds_tied_plain_at .later [] [.handle] true _ true
  th (fun _ h=>Qv) Qc (fun _ h=>Qv) gopEncodes_row_tie rfl ⟨rfl,rfl⟩ Qc rfl
  (fun f I J D=>by
   obtain rfl:f=5:=Option.some.inj ((show prog.funcNamed "kinescope/kinlaw23.GopEncodes"=some 5 by kernel_rfl).symm.trans J) |>.symm;obtain rfl:I=f5:=(Option.some.inj (func5.symm.trans D)).symm;exact ⟨Qc,fun j t E=>by
    rw [params5] at E;have L:t∈[47,27,22]:=by simpa using Array.mem_of_getElem? E
    have F:([47,27,22].all fun u=>!prog.wantsStandIn u)=true:=Qc;exact (show prog.wantsStandIn t=false by simpa using t6.1 F t L)⟩)
  Qc
end Go.Proofs.YthcafdfdglfabaaGreatDoor
