/- Joined texts: EEnQ, EFitC, DRkA, DRkP, DRkPk, DRkEn, CfgM, DRkFi, EKQ. Conditions: each part names its own. -/
import Derived.Test.YthcafdfdglfabaaGreatDoorF1
import Derived.Test.YthcafdfdglfabaaGreatDoorA8
import Derived.Test.YthcafdfdglfabaaGreatDoorA9
namespace Go.Proofs.YthcafdfdglfabaaGreatDoor
open Go.Proofs.Tryz
open Go.RowKit
set_option linter.unusedVariables false
set_option linter.unusedSimpArgs false
set_option maxRecDepth 100000
set_option maxHeartbeats 16000000
theorem lZZ {p q:Prop} (h:q) (f:q->p:=by intro h;first | exact h | exact ((ae.refl _ _).drew).q h | (refine ((ae.refl [] _).drew.mono ?_).trans h (fun g h _=>h) (fun g h _=>h);simp)):p:=f h
def lY (lo hi:Nat) (w:World) (dv:Value) (D:List Int) (fv:Value) (P:List Int):Prop:=aj .u8 lo hi w dv D/\aj .i64 lo hi w fv P
theorem lY.only {lo hi:Nat} {w w':World} {E F:Value} {D P:List Int} {S:List Nat} (h:lY lo hi w E D F P) (o:ae S w w') (I:∀ g∈S,g<lo\/hi<=g):lY lo hi w' E D F P:=⟨h.1.only o I,h.2.only o I⟩
def Me (c:bw) (f:ah) (v:Value) (w:World) (e:Ending) (w':World):Prop :=
 ae [] w w'/\∃ d n f0 n0,e=.returned (.tuple #[.agg #[c.kind,.slice d c.data.length n],.agg #[f.W,f.H,.slice f0 f.pix.length n0],v])/\lY w.heap.size w'.heap.size w' (.slice d c.data.length n) c.data (.slice f0 f.pix.length n0) f.pix
theorem zx {src prev:ah} {key:Bool} {qp reach:Int} (h:cy src prev key qp reach=none):FrOk (dJ src prev key qp reach.toNat).1/\(dJ src prev key qp reach.toNat).1.W=src.W/\(dJ src prev key qp reach.toNat).1.H=src.H:=by
 obtain ⟨E,I,F,J,M,L⟩:=eN h;have D:=zw (q:=qp.toNat) (reach:=reach.toNat) E (fun h=>iO (I h)) Qa Qa;rw [Int.toNat_of_nonneg F] at D;exact ⟨D.1,D.2.1,D.2.2.1⟩
def mH (src prev:ah) (key:Bool) (c:j3) (most:Int):bw:=match kG src prev key c most with
 | .error _=>⟨0,[]⟩
 | .ok x=>x.1
def lq (src prev:ah) (key:Bool) (c:j3) (most:Int):ah:=match kG src prev key c most with
 | .error _=>fC
 | .ok x=>x.2
def sU (src prev:ah) (key:Bool) (c:j3) (most:Int):Value:=match kG src prev key c most with
 | .error k=>iL (some k)
 | .ok _=>iL none
theorem Js {lo hi lo' hi':Nat} {sv pv:Value} {src prev:ah} {w:World} (key:Bool) (c:j3) (most:Int) (O:aj .i64 lo hi w sv src.pix) (N:aj .i64 lo' hi' w pv prev.pix) (M:hi<=w.heap.size) (E:hi'<=w.heap.size) :
  Calls prog 16 #[.agg #[src.W,src.H,sv],.agg #[prev.W,prev.H,pv],.bool key,c.v,most] w (Me (mH src prev key c most) (lq src prev key c most) (sU src prev key c most) w):=by
 refine (Ji key c most O N M E).mono ?_;rintro e w' ⟨J,D⟩;unfold mH lq sU;cases h:kG src prev key c most with
 | error k =>
  rw [h] at D;exact ⟨J,none,0,none,0,D,aj.nil _ _ _ _,aj.nil _ _ _ _⟩
 | ok x =>
  rw [h] at D;obtain ⟨Y,Z,rfl,F,I⟩:=D;obtain ⟨d,n,rfl,-⟩:=F.open;obtain ⟨L,V,rfl,-⟩:=I.open;exact ⟨J,d,n,L,V,rfl,F,I⟩
structure vz (src prev:ah) (key:Bool) (c:j3) (most:Int) (C:bw) (B:ah):Prop where
 may:fM c=true
 fok:FrOk src
 prv:key=false->ej prev src.W src.H=true
 fit:(C.data.length:Int)+8<=most
 len:C.data.length<=65000
 ok:FrOk B
 how:(∃ q,c.qmin<=q/\q<=c.qmax/\cy src prev key q c.reach=none/\C=bP src prev key q c.reach.toNat/\B=(dJ src prev key q c.reach.toNat).1) \/
  (((key=true/\C=⟨4,[]⟩/\B=ed src.W src.H 128)\/(key=false/\C=⟨3,[]⟩/\B=prev))/\∀ q,c.qmin<=q->q<=c.qmax->cy src prev key q c.reach=none/\most<((bP src prev key q c.reach.toNat).data.length:Int)+8)
theorem mI {src prev:ah} {key:Bool} {reach most:Int} {k:Int}:∀ (n:Nat) (q:Int),gN src prev key reach most n q=.error k->∃ p,q<=p/\p<q+n/\cy src prev key p reach=some k
 | 0,q,h=>by cases h
 | n+1,q,h=>by
  cases hc:cy src prev key q reach with
  | some c =>
   rw [np hc] at h;cases h;exact ⟨q,Qa,Qa,hc⟩
  | none =>
   by_cases D:((bP src prev key q reach.toNat).data.length:Int)+8<=most
   ·rw [pC hc D] at h;cases h
   ·rw [jG hc D] at h
    obtain ⟨p,h1,F,E⟩:=mI n (q+1) h;exact ⟨p,Qa,Qa,E⟩
theorem sR {src prev:ah} {key:Bool} {reach most:Int} {x:bw×ah}:∀ (n:Nat) (q:Int),gN src prev key reach most n q=.ok x ->
  (∃ p,q<=p/\p<q+n/\cy src prev key p reach=none/\((bP src prev key p reach.toNat).data.length:Int)+8<=most/\x=(bP src prev key p reach.toNat,(dJ src prev key p reach.toNat).1)) \/
  (x=(if key then (⟨4,[]⟩,ed src.W src.H 128) else (⟨3,[]⟩,prev))/\∀ p,q<=p->p<q+n->cy src prev key p reach=none/\most<((bP src prev key p reach.toNat).data.length:Int)+8)
 | 0,q,h=>.inr ⟨by injection h with h;exact h.symm,fun p h1 D=>Qa⟩
 | n+1,q,h=>by
  cases hc:cy src prev key q reach with
  | some c=>rw [np hc] at h;cases h
  | none =>
   by_cases E:((bP src prev key q reach.toNat).data.length:Int)+8<=most
   ·rw [pC hc E] at h
    injection h with h
    exact .inl ⟨q,Qa,Qa,hc,E,h.symm⟩
   ·rw [jG hc E] at h
    rcases sR n (q+1) h with ⟨p,h1,D,h3⟩ | ⟨h1,D⟩
    ·exact .inl ⟨p,Qa,Qa,h3⟩
    ·refine .inr ⟨h1,fun p I J=>?_⟩
     by_cases F:p=q
     ·subst F;exact ⟨hc,Qa⟩
     ·exact D p Qa Qa
theorem rZ {c:j3} (h:fM c=true):0<=c.qmin/\c.qmin<=c.qmax/\c.qmax<=15/\0<=c.reach/\c.reach<=7:=by
 unfold fM at h;rw [r9] at h;exact ⟨h.1,h.2.1,h.2.2.1,h.2.2.2.1,h.2.2.2.2.1⟩
theorem vM {src prev:ah} {key:Bool} {q reach:Int} (h:cy src prev key q reach=none):(bP src prev key q reach.toNat).data.length<=65000:=by
 obtain ⟨D,F,E,J,M,L⟩:=eN h;have I:=(nl (q:=q.toNat) (reach:=reach.toNat) D F Qa Qa).2;rwa [Int.toNat_of_nonneg E] at I
theorem Mp {src:ah} (h:FrOk src):FrOk (ed src.W src.H 128):=nM (iP.2 ⟨⟨h.w0,h.w1,h.w8⟩,⟨h.h0,h.h1,h.h8⟩,Ql,Ql⟩)
theorem Gd (src prev:ah) (key:Bool) (c:j3) (most:Int) :
  (∃ k,sU src prev key c most=.iface 36 (.int .i64 k)/\mH src prev key c most=⟨0,[]⟩/\lq src prev key c most=fC/\(fM c=false\/most<8\/cT src=false\/key=false)) \/
  (sU src prev key c most=.nilIface/\vz src prev key c most (mH src prev key c most) (lq src prev key c most)):=by
 unfold sU mH lq;cases h:kG src prev key c most with
 | error k =>
  refine .inl ⟨k,rfl,rfl,rfl,?_⟩;unfold kG at h;by_cases hm:fM c=false
  ·exact .inl hm
  rw [if_neg hm] at h;by_cases h8:most<8
  ·exact .inr (.inl h8)
  rw [if_neg h8] at h;obtain ⟨p,M,N,D⟩:=mI _ _ h;have hi:=rZ Qr;unfold cy at D;by_cases L:cT src=false
  ·exact .inr (.inr (.inl L))
  rw [if_neg L] at D;cases key with
  | false=>exact .inr (.inr (.inr rfl))
  | true =>
   simp only [Bool.not_true,Bool.false_and,Bool.false_eq_true,if_false] at D;rw [if_neg Qa] at D;cases D
 | ok x =>
  refine .inr ⟨rfl,?_⟩;unfold kG at h;by_cases hm:fM c=false
  ·rw [if_pos hm] at h;cases h
  rw [if_neg hm] at h;by_cases h8:most<8
  ·rw [if_pos h8] at h;cases h
  rw [if_neg h8] at h;have E:fM c=true:=Qr;have hi:=rZ E;rcases sR _ _ h with ⟨p,M,N,D,hb,rfl⟩ | ⟨hx,Rx⟩
  ·obtain ⟨I,J,-⟩:=eN D
   exact ⟨E,I,J,hb,vM D,(zx D).1,.inl ⟨p,M,Qa,D,rfl,rfl⟩⟩
  ·obtain ⟨I,J,-⟩:=eN (Rx c.qmin Qa Qa).1
   have F:∀ q,c.qmin<=q->q<=c.qmax->cy src prev key q c.reach=none/\most<((bP src prev key q c.reach.toNat).data.length:Int)+8:=fun q O V=>Rx q O Qa
   cases key with
   | true =>
    rw [if_pos rfl] at hx;subst hx;exact ⟨E,I,J,Qm,Qb,Mp I,.inr ⟨.inl ⟨rfl,rfl,rfl⟩,F⟩⟩
   | false =>
    rw [if_neg Qb] at hx;subst hx;exact ⟨E,I,J,Qm,Qb,(iO (J rfl)).1,.inr ⟨.inr ⟨rfl,rfl,rfl⟩,F⟩⟩
section
theorem tE {lo hi:Nat} {v:Value} {l:List Int} {w:World} (h:aj .i64 lo hi w v l) (N:Nat) (O:N=16\/N=64) (I:l.length=N) (F:cE l) :
  Calls prog 160 #[v,N] w fun e w'=>e=.returned (.agg #[(),d8])/\ae [] w w':=by
 refine aK fun Q M=>?_
 have E:=ae.new w (.cells #[(),d8] 39);have D:=lh (bQ (-16320) 16320 (h.quiet E));rw [show aO l (-16320) 16320=true by unfold aO;rw [t6];intro x hx;have:=F x hx;simp;omega] at D;obtain ⟨a,c,rfl,-⟩:=h.open;rw [I] at D |-
 have J:Hid ((w.alloc (.cells #[(),d8] 39)).heap[w.heap.size]?=some (.cells #[(),d8] 39)):=Sd w _;have L:=lh E;clear h I F E;go_enter func160,ntmps160;go_wp2_with fail;refine D.mono ?_;rintro e w1 ⟨rfl,rfl⟩;go_wp2_with fail;exact TV (results_cell_row results160 _ _ w.heap.size _ _ _ _ rfl J underlying39 rfl (aG _ rfl)) rfl (M.out _ _ ⟨rfl,L.out⟩)
theorem zY {B:Nat} {w:World} {k mo:Int} {ms:List Int} {vx vy:Int} {lv:Value} {vs:List Value} (h:w.heap[B]?=some (.cells (j1 k mo ms vx vy lv vs).toArray 91)) (D:ms.length=4) (hr:∀ x∈ms,0<=x/\x<=3):aj .i64 B (B+1) w (.slice (some ⟨B,2,none⟩) 4 4) ms:=by
 refine ⟨⟨by rw [Ps,D],some ⟨B,2,none⟩,4,by rw [D],by rw [D];exact Pm _,Qj,fun _=>⟨B,2,rfl,Pm _,Nat.lt_succ_self _,fun j u hu=>?_⟩⟩,fun x hx=>by have:=hr x hx;simp only [i7];omega⟩;have E:j<4:=by
  rcases Nat.lt_or_ge j 4 with h | h
  ·exact h
  ·rw [C3 (by simp [D];exact h)] at hu;cases hu
 rw [RG h,ij D E,<- hu,Pz,Pe Qa,Pd,Pe Qa]
 rfl
theorem xV {key:Bool} {s:j4} {lv:Value} {vs:List Value} {w:World} (Z:iH key s) (D:s.modes.length=4) (E:vs.length=4) :
  Calls prog 159 #[.agg (j1 s.kind s.mode s.modes s.vx s.vy lv vs).toArray] w fun e w'=>e=.returned (.bool true)/\ae [] w w':=by
 refine aK fun Q I=>?_
 obtain ⟨kd,mo,ms,vx,vy,LL,SS⟩:=s;simp only at D |-
 have Y:kd=0\/kd=1\/kd=2\/kd=3:=by have:=Z.kind;simp only at this;omega
 obtain ⟨CA,M⟩:=bu ((j1 (kd:Int) (mo:Int) ms vx vy lv vs).toArray)
 have Sg:Hid (∀ wx:World,wx.heap[w.heap.size]?=some (.cells CA 91)->wx.heap[w.heap.size]?=some (.cells (j1 kd mo ms vx vy lv vs).toArray 91)):=lh (fun wx h=>by rw [M] at h;exact h);have HI:=lh (eE (k:=(kd:Int)) (mo:=(mo:Int)) (vx:=vx) (vy:=vy) (lv:=lv) D E);rw [<- M] at HI |-
 clear M;have HB:Hid ((w.alloc (.cells CA 91)).heap[w.heap.size]?=some (.cells CA 91)):=Sd w _;have F:=lh (ae.new w (.cells CA 91));have L:=lh Z;have Tv:=lh D;have hr:=Sg.out _ HB;have b0:(w.alloc (.cells CA 91)).cell? ⟨w.heap.size,0,none⟩=some (.int .i64 (kd:Int)):=dx hr
 have N:(w.alloc (.cells CA 91)).cell? ⟨w.heap.size,1,none⟩=some (.int .i64 (mo:Int)):=dx hr
 have O:(w.alloc (.cells CA 91)).cell? ⟨w.heap.size,6,none⟩=some (.int .i64 vx):=by rw [RG hr];obtain ⟨a,b,c,d,rfl⟩:=ix D;rfl
 have V:(w.alloc (.cells CA 91)).cell? ⟨w.heap.size,7,none⟩=some (.int .i64 vy):=by rw [RG hr];obtain ⟨a,b,c,d,rfl⟩:=ix D;rfl
 clear Z D E hr;rcases Y with rfl | rfl | rfl | rfl
 ·clear N O V
  go_enter func159,ntmps159;go_wp2_with fail;exact I.out _ _ ⟨rfl,F.out⟩
 ·obtain ⟨vx0,vx1,vy0,vy1⟩:=L.vec rfl
  simp only at vx0 vx1 vy0 vy1;have QT:=lh (F.q (ae.new (w.alloc (.cells CA 91)) (.cells #[vx,vy] 73)));have HV:Hid (((w.alloc (.cells CA 91)).alloc (.cells #[vx,vy] 73)).heap[w.heap.size+1]?=some (.cells #[vx,vy] 73)):=ak Qb;obtain ⟨c0,c1,-⟩:=aL HV;clear N;go_enter func159,ntmps159;go_wp2_with fail;exact I.out _ _ ⟨rfl,QT.out⟩
 ·have hm:=L.mode rfl
  simp only at hm;have hm0:(0:Int)<=(mo:Int):=Qa;have hm3:(mo:Int)<=3:=Qa;clear O V;go_enter func159,ntmps159;go_wp2_with fail;exact I.out _ _ ⟨rfl,F.out⟩
 ·obtain ⟨-,-,J,-⟩:=L.small rfl
  simp only at J;have HC:=lh (bQ 0 3 (zY (Sg.out _ HB) Tv J));rw [show aO ms 0 3=true by unfold aO;rw [t6];intro x hx;have:=J x hx;simp;omega] at HC;clear N O V J;go_enter func159,ntmps159;go_wp2_with fail;refine HC.mono ?_;rintro e w1 ⟨rfl,rfl⟩;go_wp2_with fail;exact I.out _ _ ⟨rfl,F.out⟩
theorem KQ {p:Prop} (h:p:=by
 clear Uf Jcz;go_wp2_with fail;exact TV (results_cell_row results101 _ _ (w.heap.size+1) _ _ _ _ rfl HEz underlying39 rfl (aG _ rfl)) rfl (QF.out _ _ ⟨rfl,HQz.out⟩)):p:=h
theorem KP {p:Prop} (h:p:=by
 have hlg:=HS.large Qb;simp only at hlg;have b8:w3.cell? ⟨w.heap.size,8,none⟩=some lv:=by rw [RG (Sg.out _ WH)];exact kR Tv
 have Zk:=lh (fun (W:World) (o:ae [] w3 W)=>tE ((Tg.large.quiet QW).quiet o) 64 (.inr rfl) hlg.1 hlg.2);have VM:=lh hlg.1;clear hlg;obtain ⟨la,lc,hlv,-⟩:=Tg.large.open;rw [hlv] at b8 Zk;clear hlv;go_wp2_with fail;refine (Zk.out _ (AY)).mono ?_;rintro e w4 ⟨rfl,QY⟩;have HE4:=lh (QY.row HE3);have Rh:=lh (QW.q QY);clear QY b0 b8;obtain ⟨z0,z1,y0,y1,-⟩:=aL HE4;obtain ⟨Uf,Jcz⟩:=aJ (x:=.int .i64 0) (y:=.slice none 0 0) HE4;have HEz:=lh Uf;have HQz:=lh (Rh.trans Jcz (U:=[]) Qb (fun g hg QH=>Qd));exact KQ):p:=h
theorem DC {p:Prop} (h:p:=by
 obtain ⟨z0,z1,y0,y1,-⟩:=aL HEn;obtain ⟨Uf,Jcz⟩:=aJ (x:=.int .i64 0) (y:=.slice none 0 0) HEn;have HEz:=lh Uf;have HQz:=lh (RY.trans Jcz (U:=[]) Qb (fun g hg QH=>Qd));exact KQ):p:=h
theorem zS {key:Bool} {lo hi:Nat} {s:j4} {lv:Value} {vs:List Value} {w:World} (Y:iH key s) (N:ep lo hi w lv vs s.large s.small) (O:s.modes.length=4) :
  Calls prog 101 #[.bool key,.agg (j1 s.kind s.mode s.modes s.vx s.vy lv vs).toArray] w fun e w'=>e=.returned (.agg #[(),d8])/\ae [] w w':=by
 refine aK fun Q QF=>?_
 have D:=lh (fun (W:World)=>xV (w:=W) (lv:=lv) Y O N.len);obtain ⟨kd,mo,ms,vx,vy,LL,SS⟩:=s;simp only at O D N |-
 have hk4:kd=0\/kd=1\/kd=2\/kd=3:=by have:=Y.kind;simp only at this;omega
 have Yk:=Y.key_;simp only at Yk;obtain ⟨CA,Vt⟩:=bu ((j1 (kd:Int) (mo:Int) ms vx vy lv vs).toArray)
 have Sg:Hid (∀ wx:World,wx.heap[w.heap.size]?=some (.cells CA 91)->wx.heap[w.heap.size]?=some (.cells (j1 kd mo ms vx vy lv vs).toArray 91)):=lh (fun wx h=>by rw [Vt] at h;exact h);have L:=lh (eE (k:=(kd:Int)) (mo:=(mo:Int)) (vx:=vx) (vy:=vy) (lv:=lv) O N.len);rw [<- Vt] at D L |-
 clear Vt;have RT:=lh underlying91;have F:Hid (((w.alloc (.cells CA 91)).alloc (.cells #[(),d8] 39)).heap[w.heap.size]?=some (.cells CA 91)):=lh ((BS).row (Sd w _));have Z:Hid (((w.alloc (.cells CA 91)).alloc (.cells #[(),d8] 39)).heap[w.heap.size+1]?=some (.cells #[(),d8] 39)):=ak Qb;have HQ:Hid (ae [] w ((w.alloc (.cells CA 91)).alloc (.cells #[(),d8] 39))):=lh ((ae.new w _).alloc _);have HS:=lh Y;have Tv:=lh O;have Tg:=lh N;have b0:((w.alloc (.cells CA 91)).alloc (.cells #[(),d8] 39)).cell? ⟨w.heap.size,0,none⟩=some (.int .i64 (kd:Int)):=by rw [RG (Sg.out _ F)];rfl
 clear Y N O;have J:key=true->kd=2\/kd=3:=fun h=>by have:=Yk h;omega
 clear Yk;rcases hk4 with rfl | rfl | rfl | rfl
 ·cases key with
  | true=>exact absurd (J rfl) Ql
  | false =>
   clear J;go_enter func101,ntmps101
   go_wp2_with (first | (refine az rfl (.tmp 3) 91 rfl rfl F RT rfl L ?_) | fail)
   refine (D.out _).mono ?_;rintro e w3 ⟨rfl,E⟩;have QW:=lh (HQ.q E);have WH:=lh (E.row F);have HE3:=lh (E.row Z);clear E b0 D;have b0:w3.cell? ⟨w.heap.size,0,none⟩=some (.int .i64 ((0:Nat):Int)):=by rw [RG (Sg.out _ WH)];rfl
   go_wp2_with fail;go_loopw [5,6] (fun i _ wr=>∃ n:Nat,n<=4/\i=.int .i64 n/\Hid (ae [] w3 wr)) (fun i _ _=>4-(intOf i).toNat)
   case atStart=>exact ⟨0,Qa,rfl,lh (AY)⟩
   case round =>
    obtain ⟨n,hn,rfl,I⟩:=hrel;have b0:=I.cell b0 Qb;have HEn:=lh (I.row HE3);have RY:=lh (QW.q I);by_cases QH:n<4
    ·have Rt:(n:Int)<4:=Qa
     exact DC
    ·have Rt:¬ (n:Int)<4:=Qa
     exact DC
 ·cases key with
  | true=>exact absurd (J rfl) Ql
  | false =>
   clear J;go_enter func101,ntmps101
   go_wp2_with (first | (refine az rfl (.tmp 3) 91 rfl rfl F RT rfl L ?_) | fail)
   refine (D.out _).mono ?_;rintro e w3 ⟨rfl,E⟩;have QW:=lh (HQ.q E);have WH:=lh (E.row F);have HE3:=lh (E.row Z);clear E b0 D;have b0:w3.cell? ⟨w.heap.size,0,none⟩=some (.int .i64 ((1:Nat):Int)):=by rw [RG (Sg.out _ WH)];rfl
   exact KP
 ·clear J
  cases key
  all_goals
   go_enter func101,ntmps101
   go_wp2_with (first | (refine az rfl (.tmp 3) 91 rfl rfl F RT rfl L ?_) | fail)
   refine (D.out _).mono ?_;rintro e w3 ⟨rfl,E⟩;have QW:=lh (HQ.q E);have WH:=lh (E.row F);have HE3:=lh (E.row Z);clear E b0 D;have b0:w3.cell? ⟨w.heap.size,0,none⟩=some (.int .i64 ((2:Nat):Int)):=by rw [RG (Sg.out _ WH)];rfl
   exact KP
 ·clear J
  cases key
  all_goals
   go_enter func101,ntmps101
   go_wp2_with (first | (refine az rfl (.tmp 3) 91 rfl rfl F RT rfl L ?_) | fail)
   refine (D.out _).mono ?_;rintro e w3 ⟨rfl,E⟩;have QW:=lh (HQ.q E);have WH:=lh (E.row F);have HE3:=lh (E.row Z);clear E b0 D;have b0:w3.cell? ⟨w.heap.size,0,none⟩=some (.int .i64 ((3:Nat):Int)):=by rw [RG (Sg.out _ WH)];rfl
   obtain ⟨-,Ym,-,VI⟩:=HS.small rfl;simp only at Ym VI;have M:=lh (VL Ym VI);clear Ym VI;go_wp2_with fail;go_loopw [5,6] (fun i _ wr=>∃ n:Nat,n<=4/\i=.int .i64 n/\Hid (ae [] w3 wr)) (fun i _ _=>4-(intOf i).toNat)
   case atStart=>exact ⟨0,Qa,rfl,lh (AY)⟩
   case round =>
    obtain ⟨n,hn,rfl,I⟩:=hrel;have b0:=I.cell b0 Qb;have HEn:=lh (I.row HE3);have RY:=lh (QW.q I);by_cases QH:n<4
    ·have Rt:(n:Int)<4:=Qa
     have RA:(0:Int)<=(n:Int):=Qa;have hr:=Sg.out _ (I.row WH);have e2:wr.cell? ⟨w.heap.size,9+n,none⟩=some (vs.getD n ai):=by rw [RG hr];exact dO Tv Tg.len QH
     have V:SS.getD n []∈SS:=by rw [Pd,Pe (by rw [M.1];exact QH)];exact PG _
     have hlv:=M.2 _ V;have i1:=(Tg.small n QH).quiet RY;obtain ⟨x1,z1,UU,-⟩:=(Tg.small n QH).open;rw [UU] at e2 i1;have Zk:=lh (tE i1 16 (.inl rfl) hlv.1 hlv.2);clear hr V i1 UU hlv;generalize (SS.getD n []).length=sl at *
     go_wp2_with fail;refine Zk.mono ?_;rintro e w4 ⟨rfl,QY⟩;have VP:=ae.new w4 (.cells #[(),d8] 39);have HV5:Hid ((w4.alloc (.cells #[(),d8] 39)).heap[w4.heap.size]?=some (.cells #[(),d8] 39)):=Sd w4 _;have Rk:=lh ((I.q QY).q VP);clear QY VP e2 b0;obtain ⟨e0,e1,-⟩:=aL HV5;go_wp2_with fail;clear e0 e1;refine (cZ _ _ _).mono ?_;rintro e w6 ⟨rfl,Sl⟩;have SJ:=lh (Rk.q Sl);clear Sl;rw [show ((0:Int) == 0)=true from rfl];go_wp2_with fail;exact ⟨⟨n+1,Qa,Qh,SJ⟩,Qf⟩
    ·obtain rfl:n=4:=Qa
     have Rt:¬ ((4:Nat):Int)<4:=Qa;exact DC
end
theorem MN {p:Prop} (h:p:=by intro wz Rb;rw [vn (.tmp 10) 91 (hr:=Rb.1) (hu:=underlying91) (hi:=Xo.out)] <;> rfl):p:=h
section
variable {base R E:Nat} {F:List Nat} {w:World} {m:i9} {n:Nat}
theorem tJ {side lo' hi':Nat} (J:side=4\/side=8) {lv:Value} {l:List Int} (h:(bh base R E).At F w m) (N:aj .i64 lo' hi' w lv l) (D:l.length=side*side) (I:cE l) (M:∀ x∈F,x<lo'\/hi'<=x) (O:hi'<=w.heap.size) (ok:l5 n m) (hn:n<=600000000) :
  Calls prog 105 #[.pointer R,lv] w fun e w'=>∃ g cap F',e=.returned (.tuple #[.slice (some ⟨g,0,none⟩) (side*side) cap,.agg #[(),d8]])/\(bh base R E).At F' w' (aR i6 side l m).2/\bA F w F' w':=by
 have Z:(aR (bh base R E).C side l m).1=.ok l:=jF J D I m;have L:∀ e w',lN (bh base R E) F w (aR (bh base R E).C side l m) e w'->∃ g cap F',e=.returned (.tuple #[.slice (some ⟨g,0,none⟩) (side*side) cap,.agg #[(),d8]])/\(bh base R E).At F' w' (aR i6 side l m).2/\bA F w F' w':=by
  intro e w' h;unfold lN at h;rw [Z] at h;obtain ⟨F',h1,V,v',rfl,Y,-⟩:=h;obtain ⟨g,cap,rfl,-,-⟩:=Y.form (by rw [D];rcases J with rfl | rfl <;> omega);rw [D];exact ⟨g,cap,F',rfl,h1,V⟩
 rcases J with rfl | rfl
 ·exact (CO (bh base R E) h N D I M O ok Qa).mono L
 ·exact (CP (bh base R E) h N D I M O ok Qa).mono L
theorem tL (h:(bh base R E).At F w m) (v:Int) (ok:l5 n m) (D:n<=600000000) :
  Calls prog 103 #[.pointer R,v] w fun e w'=>e=.returned (.int .i64 (bT i6 v m).1)/\∃ F',(bh base R E).At F' w' (bT i6 v m).2/\bA F w F' w':=Gm (bh base R E) h v ok Qa
theorem tK (h:(bh base R E).At F w m) (v:Int) (ok:l5 n m) (D:n<=600000000) :
  Calls prog 104 #[.pointer R,v] w fun e w'=>e=.returned (.int .i64 ((bO i6 v m).1:Int))/\∃ F',(bh base R E).At F' w' (bO i6 v m).2/\bA F w F' w':=Gj (bh base R E) h v ok Qa
structure q9 (base R E:Nat) (F:List Nat) (w:World) (CA:Array Value) (lo hi O:Nat) (lv:Value) (vs:List Value) (L:List Int) (S:List (List Int)) (kd:Nat) (Fx:List Nat) (wx:World) (sx:i9):Prop where
 at_:(bh base R E).At Fx wx sx
 went:bA F w Fx wx
 ask:wx.heap[w.heap.size]?=some (.cells CA 91)
 r1:wx.heap[w.heap.size+1]?=some (.cells xT 91)
 r2:wx.heap[w.heap.size+1+1]?=some (.cells #[(),d8] 39)
 row:∃ C:Array Value,wx.heap[O]?=some (.cells C 91)/\C.size=13/\C.all (·.oneCell')=true/\C[0]?=some (.int .i64 kd)
 err:wx.heap[O+1]?=some (.cells #[(),d8] 39)
 ins:ep lo hi wx lv vs L S
 sz:hi<=w.heap.size/\w.heap.size+2<O/\base<=w.heap.size
 ap:∀ x∈Fx,(x∈F/\x<w.heap.size)\/(w.heap.size+2<x/\x≠O/\x≠O+1)
 apF:∀ x∈F,x<lo\/hi<=x
section
variable {CA:Array Value} {lo hi O:Nat} {lv:Value} {vs:List Value} {L:List Int} {S:List (List Int)} {kd:Nat} {Fx F':List Nat} {wx w':World} {sx s':i9}
theorem q9.lt (h:q9 base R E F w CA lo hi O lv vs L S kd Fx wx sx):O+1<wx.heap.size:=(l8.1 h.err).1
theorem q9.apart (h:q9 base R E F w CA lo hi O lv vs L S kd Fx wx sx):∀ x∈Fx,x<lo\/hi<=x:=fun x hx=>by
 rcases h.ap x hx with e | e
 ·exact h.apF x e.1
 ·have:=h.sz;right;omega
theorem q9.size (h:q9 base R E F w CA lo hi O lv vs L S kd Fx wx sx):hi<=wx.heap.size:=by have:=h.sz;have:=h.lt;omega
theorem q9.step (h:q9 base R E F w CA lo hi O lv vs L S kd Fx wx sx) (a:(bh base R E).At F' w' s') (g:bA Fx wx F' w'):q9 base R E F w CA lo hi O lv vs L S kd F' w' s':=by
 have J:=h.sz;have I:=h.ap;have M:=h.lt;have D:∀ b,b=w.heap.size\/b=w.heap.size+1\/b=w.heap.size+2\/b=O\/b=O+1->b∉Fx:=fun b h1 hx=>by rcases I b hx with e | e <;> omega
 obtain ⟨C,c1,c2⟩:=h.row;refine ⟨a,h.went.trans g,g.1.rowAt h.ask (D _ Qa),g.1.rowAt h.r1 (D _ Qa),g.1.rowAt h.r2 (D _ Qa),⟨C,g.1.rowAt c1 (D _ Qa),c2⟩,g.1.rowAt h.err (D _ Qa),h.ins.only g.1 h.apart,J,fun x hx=>?_,h.apF⟩;rcases g.2 x hx with e | e
 ·exact I x e
 ·right;omega
theorem q9.only (h:q9 base R E F w CA lo hi O lv vs L S kd Fx wx sx) {U:List Nat} (g:ae U wx w') (D:∀ x∈U,x=O\/x=O+1) (hr:∃ C:Array Value,w'.heap[O]?=some (.cells C 91)/\C.size=13/\C.all (·.oneCell')=true/\C[0]?=some (.int .i64 kd)) (J:w'.heap[O+1]?=some (.cells #[(),d8] 39)):q9 base R E F w CA lo hi O lv vs L S kd Fx w' sx:=by
 have N:=h.sz;have I:∀ b,b<O->b∉U:=fun b h1 hx=>by rcases D b hx with e | e <;> omega
 refine ⟨(bh base R E).only h.at_ g (fun x hx=>⟨by show base<=x;rcases D x hx with e | e <;> omega,fun M=>by rcases h.ap x M with e | e <;> rcases D x hx with e2 | e2 <;> omega⟩),⟨h.went.1.trans g (fun x hx _=>hx) (fun x hx V=>by rcases D x hx with e | e <;> omega),h.went.2⟩,g.rowAt h.ask (I _ Qa),g.rowAt h.r1 (I _ Qa),g.rowAt h.r2 (I _ Qa),hr,J,h.ins.only g (fun x hx=>by right;rcases D x hx with e | e <;> omega),N,h.ap,h.apF⟩
theorem q9.quiet (h:q9 base R E F w CA lo hi O lv vs L S kd Fx wx sx) (g:ae [] wx w'):q9 base R E F w CA lo hi O lv vs L S kd Fx w' sx:=by
 obtain ⟨C,c1,c2⟩:=h.row;exact h.only g Qb ⟨C,g.row c1,c2⟩ (g.row h.err)
theorem q9.store (h:q9 base R E F w CA lo hi O lv vs L S kd Fx wx sx) {i:Nat} (h1:1<=i) (I:i<13) {v:Value} (M:v.oneCell'=true):q9 base R E F w CA lo hi O lv vs L S kd Fx (wx.setCell ⟨O,i,none⟩ v) sx/\(∃ u,wx.cell? ⟨O,i,none⟩=some u)/\wx.frozen? ⟨O,i,none⟩=false:=by
 obtain ⟨C,c1,c2,c3,c4⟩:=h.row;have D:ae [O] wx (wx.setCell ⟨O,i,none⟩ v):=(AY).setCell Qb _;refine ⟨h.only D (fun x hx=>.inl (i5.1 hx)) ⟨_,WG wx O i _ _ v c1,by simpa using c2,?_,?_⟩ (D.rowAt h.err Qb),⟨C[i]'Qa,by rw [RG c1,Array.getElem?_eq_getElem Qa]⟩,Sz _ _ _ _ _ c1⟩
 ·rw [Array.all_eq_true] at c3 |-
  intro j J;rw [Array.getElem_setIfInBounds]
  split
  ·exact M
  ·exact c3 j (by simpa using J)
 ·rw [Array.getElem?_setIfInBounds_ne Qa];exact c4
theorem q9.estore (h:q9 base R E F w CA lo hi O lv vs L S kd Fx wx sx):q9 base R E F w CA lo hi O lv vs L S kd Fx ((wx.setCell ⟨O+1,0,none⟩ (.int .i64 0)).setCell ⟨O+1,1,none⟩ (.slice none 0 0)) sx:=by
 obtain ⟨a,b⟩:=aJ (x:=.int .i64 0) (y:=.slice none 0 0) h.err;obtain ⟨C,c1,c2⟩:=h.row;exact h.only b (fun x hx=>.inr (i5.1 hx)) ⟨C,b.rowAt c1 Qb,c2⟩ a
theorem q9.kcell (h:q9 base R E F w CA lo hi O lv vs L S kd Fx wx sx):wx.cell? ⟨O,0,none⟩=some (.int .i64 kd):=by
 obtain ⟨C,c1,c2,c3,c4⟩:=h.row;rw [RG c1,c4]
end
theorem vn {P:Program} {w:World} {o:Oper} {D:Operand->Value} (x:Operand) (t:TypeId) (F:o.op=.load t x) {g:Nat} {c:Array Value} {ty:TypeId} {fr:Nat×Nat} {d:TypeDesc} (hx:D x=.pointer g) (hr:w.heap[g]?=some (.cells c ty fr)) (hu:P.underlying t=some d)
  (E:(match d with | .struct _ | .array _ _=>true | _=>false)=true) (hi:(P.info? t).map (·.size)=some c.size):(execOp D o).run P w=.ok (Next.value (.agg c)) w:=by
 unfold execOp;simp only [F,hx,Instr.loadAt,Instr.sureAddr,Sem.run_bind,Sem.run_pure,Result.andThen_ok,run_loadVar_row w g ty t c fr d hr hu E hi]
theorem KY {p:Prop} (h:p:=by
 have HKe:=HKk;clear HKk;obtain ⟨e0,e1,-⟩:=aL HKe.err;go_wp2_with fail;refine (cZ _ _ _).mono ?_;rintro e w7 ⟨rfl,TZ⟩;rw [show ((0:Int) == 0)=true from rfl];have Zj:=lh (HKe.quiet TZ);clear TZ e0 e1 k0;obtain ⟨CC,hC,hCs,hC1,-⟩:=Zj.row;have HC:=lh hC;have HE7:=lh Zj.err;have Xo:Hid ((prog.info? 91).map (·.size)=some CC.size):=lh (by rw [hCs];kernel_rfl);have Zx:=lh hC1;have Jzd:Hid ((xT:Array Value).size=CC.size):=lh hCs.symm;clear hC hCs hC1;go_wp2_with fail;refine Tf (S:=(fun wz=>wz.heap[O]?=some (.cells CC 91)/\wz.heap[O+1]?=some (.cells #[(),d8] 39))) Qc ?_ (fun hHeld=>?_)
 ·exact ⟨HC,HE7.out⟩
 refine e9 0 125 ⟨rfl,MN⟩ ?_;refine e9 1 126 ⟨rfl,by intro wz Rb;obtain ⟨e0,e1,-⟩:=aL Rb.2;go_simp;try with_reducible rfl⟩ ?_;refine j9 2 fun K hK=>?_
 refine aM (.tmp 6) (.tmp 125) 91 rfl (g:=w.heap.size+1) (c':=CC) rfl rfl Zj.r1 Xo Jzd Zx (fun w8 Vn hr8=>?_);replace Vn:ae [w.heap.size+1] w7 w8:=lZZ Vn
 have Zg:=Zj.sz;have h8O:=Vn.rowAt HC Qi;have h8E:=Vn.rowAt HE7 Qi;have h8r:=Vn.rowAt Zj.r2 Qi;refine ko hK ⟨h8O,h8E⟩ fun hHeld=>?_;clear hK K
 refine j9 3 fun K hK=>?_
 refine aM (.tmp 7) (.tmp 126) 39 rfl (g:=w.heap.size+1+1) (c':=#[(),d8]) rfl rfl h8r (aG _ rfl) rfl mi (fun w9 SR hr9=>?_);replace SR:ae [w.heap.size+1+1] w8 w9:=lZZ SR
 have h9O:=SR.rowAt h8O Qi;have h9E:=SR.rowAt h8E Qi;have h9q:=SR.rowAt hr8 Qi;refine ko hK ⟨h9O,h9E⟩ fun hHeld=>?_;clear hK K
 refine Wn Qc ?_ _;go_wp2_with fail;refine TV (dC results41 _ _ (w.heap.size+1) (w.heap.size+1+1) _ _ _ _ _ _ _ _ rfl rfl h9q hr9 underlying91 rfl Xo underlying39 rfl (aG _ rfl)) rfl (QF.out _ _ ⟨⟨_,rfl⟩,?_⟩);rw [Vr.out];have hap:=Zj.ap;have a8:=(bh base R E).only (S:=[w.heap.size+1]) Zj.at_ Vn (fun x hx=>by rw [i5] at hx;subst hx;exact ⟨by show base<=_;omega,fun hf=>by rcases hap _ hf with e | e <;> omega⟩);have a9:=(bh base R E).only (S:=[w.heap.size+1+1]) a8 SR (fun x hx=>by rw [i5] at hx;subst hx;exact ⟨by show base<=_;omega,fun hf=>by rcases hap _ hf with e | e <;> omega⟩);exact ⟨_,a9,⟨(Zj.went.1.trans Vn (fun x hx _=>hx) (fun x hx hl=>Qo)).trans SR (fun x hx _=>hx) (fun x hx hl=>Qo),Zj.went.2⟩⟩):p:=h
theorem JU {lo hi:Nat} {key:Bool} {s:j4} {lv:Value} {vs:List Value} (hA:(bh base R E).At F w m) (hs:iH key s) (QS:ep lo hi w lv vs s.large s.small) (RQ:s.modes.length=4) (hF:∀ x∈F,x<lo\/hi<=x) (hw:hi<=w.heap.size) (ok:l5 n m) (hn:n<=90000000) :
  Calls prog 41 #[.pointer R,.bool key,.agg (j1 s.kind s.mode s.modes s.vx s.vy lv vs).toArray] w fun e w'=>((∃ v,e=.returned v)/\∃ F',(bh base R E).At F' w' (dE i6 key (dB s) m).2/\bA F w F' w'):=by
 refine aK fun Q QF=>?_
 have Xd:=xo hs m;rw [Xd] at QF;clear Xd;have hkv:=nC (key:=key) (k:=(s.kind:Int)) Qa (j0 hs.kind) (fun e=>by have:=hs.key_ e;omega) m;have TH:=lh (BO key (s.kind:Int) ok);have Xm:=lh (fun (W:World) (o:ae [] w W)=>zS hs (QS.only o Qb) RQ);have HS:=lh hs;have Tv:=lh RQ;have Tg:=lh QS;have HFa:=lh hF;have Vp:=lh (show ∀ x∈F,x<w.heap.size from fun x hx=>(bh base R E).lt hA x hx);have HN:=lh (VL hw ((bh base R E).base_le hA:base<=w.heap.size));have HI:=lh (eE (k:=(s.kind:Int)) (mo:=(s.mode:Int)) (vx:=s.vx) (vy:=s.vy) (lv:=lv) RQ QS.len);have QX:=lh ok;have Hn:=lh hn;obtain ⟨kd,hkd⟩:=bu s.kind
 have HKd:=lh hkd;rw [<- hkd] at QF hkv TH;obtain ⟨CA,Vt⟩:=bu ((j1 (s.kind:Int) (s.mode:Int) s.modes s.vx s.vy lv vs).toArray)
 have Sg:Hid (∀ wx:World,wx.heap[w.heap.size]?=some (.cells CA 91)->wx.heap[w.heap.size]?=some (.cells (j1 (s.kind:Int) (s.mode:Int) s.modes s.vx s.vy lv vs).toArray 91)):=lh (fun wx h=>by rw [Vt] at h;exact h);have Tc:Hid (∀ wx:World,wx.heap[w.heap.size]?=some (.cells CA 91)->wx.cell? ⟨w.heap.size,0,none⟩=some (.int .i64 kd)):=lh (fun wx h=>by rw [RG (Sg.out wx h),hkd];rfl);rw [<- Vt] at Xm HI |-
 clear Vt hkd;have RT:=lh underlying91;obtain ⟨QI,HR0,Rg,SQ,Hz⟩:=kp w (.cells CA 91) (.cells xT 91) (.cells #[(),d8] 39);have c0:=(bh base R E).cell ((bh base R E).quiet hA QI);rw [show (bh base R E).reads=false from rfl] at c0;have Sa:=lh ((bh base R E).quiet hA QI);have QO:=lh QI;clear hA hs QS RQ hF hw ok hn QI;go_enter func41,ntmps41;go_upto_region 1 with (fail)
 generalize Rs:World.alloc (World.alloc (World.alloc w _) _) _=W1 at *
 clear Rs
 go_wp2_with (first | (refine az rfl (.tmp 5) 91 rfl rfl HR0 RT rfl HI ?_) | fail)
 refine (Xm.out _ QO).mono ?_;rintro e w4 ⟨rfl,QY⟩;have VP:=ae.new w4 (.cells #[(),d8] 39);have HV5:Hid ((w4.alloc (.cells #[(),d8] 39)).heap[w4.heap.size]?=some (.cells #[(),d8] 39)):=Sd w4 _;have Rk:=lh (QY.q VP);clear QY VP c0 Xm;obtain ⟨e0,e1,-⟩:=aL HV5;go_wp2_with fail;clear e0 e1;refine (cZ _ _ _).mono ?_;rintro e w6 ⟨rfl,Sl⟩;have SJ:=lh (Rk.q Sl);clear Sl HV5 Rk;rw [show ((0:Int) == 0)=true from rfl];have b0:=Tc.out _ (SJ.row HR0);have HKn:=lh (zK (bh base R E) ((bh base R E).quiet Sa SJ) key (kd:Int) QX (j0 Hn.out));go_wp2_with fail;refine HKn.mono ?_;rintro e M ⟨rfl,F3,Ub,hg3⟩;simp only at Ub |-
 rw [show ((bL (bh base R E).C key (kd:Int) m).1:Int)=(kd:Int) from hkv];obtain ⟨m1,hm1⟩:=bu ((bL i6 key (kd:Int) m).2)
 rw [<- hm1] at QF TH;have Hk3:Hid ((bh base R E).At F3 M m1):=lh (dn hm1 Ub);have Hg3:=lh (bA.ahead (QO.q SJ) hg3);have Z:=lh hg3;clear Ub hg3 b0 hm1 hkv HKn QX;have Xh:=lh (fun (wx:World)=>(by kernel_rfl:(Instr.build 91 #[(0,.int .i64 (kd:Int))]).run prog wx=.ok (.agg (j1 (kd:Int) 0 [0,0,0,0] 0 0 ai [ai,ai,ai,ai]).toArray) wx));have HAl:Hid ((M.alloc (.cells xT 91)).heap[M.heap.size]?=some (.cells xT 91)):=Sd M _;have Xi:=lh (VL (eE (k:=kd) (mo:=0) (ms:=[0,0,0,0]) (vx:=0) (vy:=0) (lv:=ai) (vs:=[ai,ai,ai,ai]) rfl rfl) (eh (k:=kd) (mo:=0) (ms:=[0,0,0,0]) (vx:=0) (vy:=0) (lv:=ai) rfl jK))
 rename_i K0 hK0
 try simp only []
 refine hK0 _ _ ?_;clear hK0;refine lM rfl 91 [(0,.tmp 39)] rfl (Xh.out _) ?_;go_upto_region 12 with (first
  | (refine am rfl (.tmp 10) (.tmp 40) 91 rfl rfl rfl HAl Xi.1 rfl Xi.2 ?_)
  | fail)
 have hO4:(((M.alloc (.cells xT 91)).setRow M.heap.size (j1 (kd:Int) 0 [0,0,0,0] 0 0 ai [ai,ai,ai,ai]).toArray).alloc (.cells #[(),d8] 39)).heap[M.heap.size]?=some (.cells (j1 (kd:Int) 0 [0,0,0,0] 0 0 ai [ai,ai,ai,ai]).toArray 91):=(BS).rowAt (m7 _ _ _ _ _ _ HAl) Qb;have hE4:(((M.alloc (.cells xT 91)).setRow M.heap.size (j1 (kd:Int) 0 [0,0,0,0] 0 0 ai [ai,ai,ai,ai]).toArray).alloc (.cells #[(),d8] 39)).heap[M.heap.size+1]?=some (.cells #[(),d8] 39):=ak (by rw [size_setRow];simp);have Jic:ae [M.heap.size] M (((M.alloc (.cells xT 91)).setRow M.heap.size (j1 (kd:Int) 0 [0,0,0,0] 0 0 ai [ai,ai,ai,ai]).toArray).alloc (.cells #[(),d8] 39)):=(((ae.new M _).mono (U:=[M.heap.size]) Qb).setRow (fun _=>Qb) _).alloc _;have QY:ae [] M _:=Jic.mono (U:=[]) (fun x hx hl=>Qo);have V:Hid (q9 base R E F w CA lo hi M.heap.size lv vs s.large s.small kd F3 (((M.alloc (.cells xT 91)).setRow M.heap.size (j1 (kd:Int) 0 [0,0,0,0] 0 0 ai [ai,ai,ai,ai]).toArray).alloc (.cells #[(),d8] 39)) m1):=lh (by
  have hz1:=Hz.out;have hz6:=SJ.size;have hz3:=Z.1.size;have hn:=HN.out;have hno:∀ b,w.heap.size<=b->b∉F:=fun b h1 hx=>by have:=Vp.out b hx;omega
  have Vg:=QY.row (Z.1.rowAt (SJ.row HR0) (hno _ Qa));have Tt:=QY.row (Z.1.rowAt (SJ.row Rg) (hno _ Qa));have UT:=QY.row (Z.1.rowAt (SJ.row SQ) (hno _ Qa));refine ⟨(bh base R E).quiet Hk3 QY,Hg3.q QY,Vg,Tt,UT,⟨_,hO4,by rw [List.size_toArray,kS rfl rfl],Xi.2,rfl⟩,hE4,(Tg.only Hg3.1 HFa).only QY Qb,⟨hn.1,Qa,hn.2⟩,fun x hx=>?_,HFa.out⟩;rcases Z.2 x hx with e | e
  ·exact .inl ⟨e,Vp.out x e⟩
  ·have:=(bh base R E).lt Hk3 x hx
   exact .inr ⟨Qa,Qa,Qa⟩)
 clear hO4 hE4 Jic QY Xh HAl Xi Hk3 Hg3 Z HR0 Rg SQ Sa QO SJ Hz HFa Vp Tg HN;generalize World.alloc (World.setRow _ _ _) _=W4 at *
 generalize M.heap.size=O at *
 have k0:=V.kcell;go_upto_if 44 with (fail)
 go_cut [] (fun wx=>∃ (Fa:List Nat) (ma:i9),Hid (q9 base R E F w CA lo hi O lv vs s.large s.small kd Fa wx ma)/\Hid ((if kd=1 then (bT i6 s.vy (bT i6 s.vx m1).2).2 else m1)=ma)/\Hid (l5 (n+3+32) ma))
 case first =>
  by_cases TW:kd=1
  ·have Rt:((kd:Int) == 1)=true:=by rw [TW];rfl
   have Xb:(kd:Int)=1:=Qa;clear k0;have b1:W4.cell? ⟨w.heap.size,6,none⟩=some (.int .i64 s.vx):=by rw [RG (Sg.out _ V.ask)];obtain ⟨a,b,c,d,hl⟩:=ix Tv;rw [hl];rfl
   have N:=lh (tL V.at_ s.vx TH (j0 Hn.out));go_wp2_with fail;refine N.mono ?_;rintro e w5 ⟨rfl,F5,I,J⟩;obtain ⟨L,⟨u5,x5⟩,y5⟩:=(V.step I J).store (i:=6) Qa Qa (v:=.int .i64 (bT i6 s.vx m1).1) rfl;have D:=lh L;clear N I J L b1;go_upto_region 14 with (fail)
   generalize ZI:World.setCell w5 _ _=W5 at *
   clear ZI x5 y5;have JjF:=lh (kW s.vx TH);have b1:W5.cell? ⟨w.heap.size,7,none⟩=some (.int .i64 s.vy):=by rw [RG (Sg.out _ D.ask)];obtain ⟨a,b,c,d,hl⟩:=ix Tv;rw [hl];rfl
   have N:=lh (tL D.at_ s.vy JjF (j0 Hn.out));go_wp2_with fail;refine N.mono ?_;rintro e w7 ⟨rfl,F7,ha7,Ul⟩;obtain ⟨hp7,⟨u7,x7⟩,y7⟩:=(D.step ha7 Ul).store (i:=7) Qa Qa (v:=.int .i64 (bT i6 s.vy (bT i6 s.vx m1).2).1) rfl;have Zj:=lh hp7;clear N ha7 Ul hp7 b1;have JaD:=lh (kW s.vy JjF);go_wp2_with fail;go_meet;exact ⟨F7,_,Zj,lh (if_pos TW),lh (JaD.le Qa)⟩
  ·have Rt:((kd:Int) == 1)=false:=Qk
   have Xb:¬ (kd:Int)=1:=Qa;go_wp2_with fail;go_meet;exact ⟨F3,m1,V,lh (if_neg TW),lh (TH.le Qa)⟩
 case rest =>
  obtain ⟨Fa,ma,Y,Hma,JjG⟩:=hcut;obtain ⟨Wa,hWx⟩:=bu wc
  subst hWx;clear V k0 TH;have k0:=Y.kcell;go_upto_if 61 with (fail)
  go_cut [] (fun wx=>∃ (Fb:List Nat) (mb:i9),Hid (q9 base R E F w CA lo hi O lv vs s.large s.small kd Fb wx mb)/\Hid ((if kd=2 then (bO i6 s.mode ma).2 else ma)=mb)/\Hid (l5 (n+3+32+2) mb))
  case first =>
   by_cases TW:kd=2
   ·have Rt:((kd:Int) == 2)=true:=by rw [TW];rfl
    have Xb:(kd:Int)=2:=Qa;clear k0;have b1:Wa.cell? ⟨w.heap.size,1,none⟩=some (.int .i64 s.mode):=by rw [RG (Sg.out _ Y.ask)];rfl
    have N:=lh (tK Y.at_ s.mode JjG (j0 Hn.out));go_wp2_with fail;refine N.mono ?_;rintro e w5 ⟨rfl,F5,I,J⟩;obtain ⟨L,⟨u5,x5⟩,y5⟩:=(Y.step I J).store (i:=1) Qa Qa (v:=.int .i64 ((bO i6 s.mode ma).1:Int)) rfl;have D:=lh L;clear N I J L b1;have JaD:=lh (kV (s.mode:Int) JjG);go_wp2_with fail;go_meet;exact ⟨F5,_,D,lh (if_pos TW),JaD⟩
   ·have Rt:((kd:Int) == 2)=false:=Qk
    have Xb:¬ (kd:Int)=2:=Qa;go_wp2_with fail;go_meet;exact ⟨Fa,ma,Y,lh (if_neg TW),lh (JjG.le Qa)⟩
  case rest =>
   obtain ⟨Fb,mb,RS,Hmb,JjH⟩:=hcut;obtain ⟨Wb,hWx⟩:=bu wc
   subst hWx;clear Y k0 JjG;have k0:=RS.kcell;go_upto_region 17 with (fail)
   go_cut [74] (fun s74 wx=>∃ t:Bool,s74=.bool t/\Hid (t=true↔(kd=1\/kd=2))/\Wb=wx)
   case first =>
    by_cases h1:kd=1
    ·have Rt:((kd:Int) == 1)=true:=by rw [h1];rfl
     have Xb:(kd:Int)=1:=Qa;go_wp2_with fail;go_meet;exact ⟨true,rfl,lh (by simp [h1]),rfl⟩
    ·have Rt:((kd:Int) == 1)=false:=Qk
     have Xb:¬ (kd:Int)=1:=Qa;by_cases h2:kd=2
     ·have hkj:((kd:Int) == 2)=true:=by rw [h2];rfl
      have JBg:(kd:Int)=2:=Qa;go_wp2_with fail;go_meet;exact ⟨true,rfl,lh (by simp [h2]),rfl⟩
     ·have hkj:((kd:Int) == 2)=false:=Qk
      have JBg:¬ (kd:Int)=2:=Qa;go_wp2_with fail;go_meet;exact ⟨false,rfl,lh (by simp [h1,h2]),rfl⟩
   case rest =>
    obtain ⟨t,rfl,Ht,hwc⟩:=hcut;subst hwc;go_upto_if 74 with (fail)
    go_cut [] (fun wx=>∃ (Fc:List Nat) (mc:i9),Hid (q9 base R E F w CA lo hi O lv vs s.large s.small kd Fc wx mc)/\Hid ((if kd=1\/kd=2 then (aR i6 8 s.large mb).2 else mb)=mc)/\Hid (l5 (n+3+32+2+2753) mc))
    case first =>
     cases t with
     | true =>
      have TW:=Ht.1 rfl;have HLg:=lh (HS.large (by rw [<- HKd.out];omega));have c8:Wb.cell? ⟨w.heap.size,8,none⟩=some lv:=by rw [RG (Sg.out _ RS.ask)];exact kR Tv
      have N:=lh (tJ (side:=8) (.inr rfl) RS.at_ RS.ins.large HLg.1 HLg.2 RS.apart RS.size JjH (j0 Hn.out));have JaD:=lh (kT (side:=8) (.inr rfl) s.large JjH);go_wp2_with fail;refine N.mono ?_;rintro e w5 ⟨g5,cp5,F5,rfl,I,J⟩;have JpB:=RS.step I J;obtain ⟨L,⟨u5,x5⟩,y5⟩:=JpB.store (i:=8) Qa Qa (v:=.slice g5 (8*8) cp5) rfl;have D:=lh L.estore;obtain ⟨z0,z1,v0,v1,-⟩:=aL JpB.err;have h88:(8*8:Nat)=64:=rfl;rw [h88] at D |-
      clear N I J L c8 JpB h88;go_wp2_with fail;go_meet;exact ⟨F5,_,D,lh (if_pos TW),JaD⟩
     | false =>
      have TW:¬ (kd=1\/kd=2):=fun h=>absurd (Ht.2 h) Ql
      go_wp2_with fail;go_meet;exact ⟨Fb,mb,RS,lh (if_neg TW),lh (JjH.le Qa)⟩
    case rest =>
     obtain ⟨Fc,mc,HKc,Hmc,JyB⟩:=hcut;obtain ⟨Wc,hWx⟩:=bu wc
     subst hWx;clear RS k0 JjH Ht;have Vu:Hid (∀ mz,(kd=3->(bq i6 s.modes s.small 4 [] [] mc).2=mz)->(kd≠3->mc=mz)->(cz i6 (dB s) kd m1).2=mz):=lh (fun mz h1 h2=>by
      have a1:=Hma.out;have a2:=Hmb.out;have a3:=Hmc.out;have hk:=HS.kind;rw [<- HKd.out] at hk;rcases (by omega:kd=0\/kd=1\/kd=2\/kd=3) with rfl | rfl | rfl | rfl
      ·rw [if_neg Ql] at a1 a2 a3;rw [<- h2 Ql,<- a3,<- a2,<- a1];rfl
      ·rw [if_neg Ql] at a2;rw [if_pos Ql] at a1 a3;rw [<- h2 Ql,<- a3,<- a2,<- a1];exact wH (dB s) m1
      ·rw [if_neg Ql] at a1;rw [if_pos Ql] at a2 a3;rw [<- h2 Ql,<- a3,<- a2,<- a1];exact wI (dB s) m1
      ·rw [if_neg Ql] at a1 a2 a3;rw [<- h1 rfl,<- a3,<- a2,<- a1];exact wJ (dB s) m1)
     clear Hma Hmb Hmc;go_wp2_with fail;go_loopw [12] (fun i wr=>∃ (k:Nat) (Fk:List Nat) (mk:i9),k<=4/\i=.int .i64 k/\Hid (q9 base R E F w CA lo hi O lv vs s.large s.small kd Fk wr mk)/\Hid (l5 (n+2790+691*k) mk)/\Hid ((kd=3/\bq i6 s.modes s.small (4-k) (s.modes.take k) (s.small.take k) mk=bq i6 s.modes s.small 4 [] [] mc)\/(kd≠3/\k=0/\mc=mk))) (fun i _=>4-(intOf i).toNat)
     case atStart =>
      refine ⟨0,Fc,mc,Qa,rfl,HKc,lh (JyB.le Qa),lh ?_⟩;by_cases h3:kd=3
      ·exact .inl ⟨h3,rfl⟩
      ·exact .inr ⟨h3,rfl,rfl⟩
     case round =>
      obtain ⟨k,Fk,mk,hk,rfl,HKk,JaE,Jta⟩:=hrel;have k0:=HKk.kcell;have hrl:=Jta.out;clear Jta;rcases hrl with ⟨h3,hgo⟩ | ⟨h3,rfl,rfl⟩
      ·have Tk:=lh hgo
       have Yk:(kd:Int)=3:=Qa;have hkj:((kd:Int) == 3)=true:=by rw [Yk];rfl
       clear hgo;by_cases QH:k<4
       ·have Rt:(k:Int)<4:=Qa
        have RA:(0:Int)<=(k:Int):=Qa;have Sj:=lh QH;have Ub:=HKd.out;rw [h3] at Ub;obtain ⟨JBk,Ym,Vb,TG⟩:=HS.small Ub.symm;have Uv:=Vb (s.modes.getD k 0) (by have:=Tv.out;rw [Pd,Pe Qa];exact PG _);have HLk:=lh (TG (s.small.getD k []) (by rw [Pd,Pe Qa];exact PG _));have HMd:=lh (fun w F (h:(bh base R E).At F w mk)=>tK h (s.modes.getD k 0) JaE (j0 Hn.out));have JrZ:=lh (kV (s.modes.getD k 0) JaE);have JyA:=lh (kT (side:=4) (.inl rfl) (s.small.getD k []) JrZ);have hmv:=pN Uv.1 Uv.2 mk;have Jaj:Hid (bq i6 s.modes s.small (4-k) (s.modes.take k) (s.small.take k) mk=bq i6 s.modes s.small (4-(k+1)) (s.modes.take (k+1)) (s.small.take (k+1)) (aR i6 4 (s.small.getD k []) (bO i6 (s.modes.getD k 0) mk).2).2):=lh (by
         obtain ⟨k3,Ub⟩:∃ k3,4-k=k3+1:=⟨3-k,Qa⟩
         have l1:(s.modes.take k).length=k:=by have:=Tv.out;rw [Po];omega
         have l2:(s.small.take k).length=k:=Qs;have t1:s.modes.take (k+1)=s.modes.take k ++ [((bO i6 (s.modes.getD k 0) mk).1:Int)]:=by have:=Tv.out;rw [UJ Qa,hmv,Pd,Pe Qa];rfl
         have t2:s.small.take (k+1)=s.small.take k ++ [s.small.getD k []]:=by rw [UJ Qa,Pd,Pe Qa];rfl
         rw [Ub,show 4-(k+1)=k3 by omega,t1,t2];have hcv:=jF (side:=4) (.inl rfl) HLk.1 HLk.2 (bO i6 (s.modes.getD k 0) mk).2;exact oB (C:=i6) (m:=mk) (mo:=(bO i6 (s.modes.getD k 0) mk).1) (m1:=(bO i6 (s.modes.getD k 0) mk).2) (m2:=(aR i6 4 (s.small.getD k []) (bO i6 (s.modes.getD k 0) mk).2).2) (by rw [l1]) (by rw [l2];exact Prod.ext hcv rfl))
        have HC1:Hid (∀ wx:World,wx.heap[w.heap.size]?=some (.cells CA 91)->wx.cell? ⟨w.heap.size,2+k,none⟩=some (.int .i64 (s.modes.getD k 0))):=lh (fun wx h=>by rw [RG (Sg.out _ h)];exact ij Tv Sj);have Uz:Hid (∀ wx:World,wx.heap[w.heap.size]?=some (.cells CA 91)->wx.cell? ⟨w.heap.size,9+k,none⟩=some (vs.getD k ai)):=lh (fun wx h=>by rw [RG (Sg.out _ h)];exact dO Tv HKk.ins.len Sj);clear hmv Uv JBk Ym Vb TG Ub;generalize s.modes.getD k 0=mg at *
        obtain ⟨vk,hvk⟩:=bu (vs.getD k ai)
        have Hvk:=lh hvk;rw [<- hvk] at Uz;clear hvk;obtain ⟨e0,e1,-⟩:=aL HKk.err;go_wp2_with fail;refine (cZ _ _ _).mono ?_;rintro e w7 ⟨rfl,TZ⟩;rw [show ((0:Int) == 0)=true from rfl];have Zj:=lh (HKk.quiet TZ);clear TZ e0 e1 k0;have b1:=HC1.out _ Zj.ask;go_wp2_with fail;refine (HMd.out _ _ Zj.at_).mono ?_;rintro e w5 ⟨rfl,F5,I,J⟩;obtain ⟨L,⟨u5,x5⟩,y5⟩:=(Zj.step I J).store (i:=2+k) Qa (j0 Sj.out) (v:=.int .i64 ((bO i6 mg mk).1:Int)) rfl;have D:=lh L;clear HMd I J L b1;go_upto_region 23 with (fail)
        generalize ZI:World.setCell w5 _ _=W5 at *
        clear ZI x5 y5;have b1:=Uz.out _ D.ask;have VI:=D.ins.small k Sj;rw [<- Hvk.out] at VI;have N:=lh (tJ (side:=4) (.inl rfl) D.at_ VI HLk.1 HLk.2 D.apart D.size JrZ (j0 Hn.out));clear VI;go_wp2_with fail;refine N.mono ?_;rintro e w6 ⟨g6,cp6,F6,rfl,ha6,hg6⟩;have JpC:=D.step ha6 hg6;obtain ⟨hp6,⟨u6,x6⟩,y6⟩:=JpC.store (i:=9+k) Qa (j0 Sj.out) (v:=.slice g6 (4*4) cp6) rfl;have HK6:=lh hp6.estore;obtain ⟨z0,z1,v0,v1,-⟩:=aL JpC.err;have h88:(4*4:Nat)=16:=rfl;rw [h88] at HK6 |-
        clear N ha6 hg6 hp6 b1 JpC h88;go_wp2_with fail;refine ⟨⟨k+1,F6,_,Qa,Qh,HK6,lh (JyA.le Qa),lh (.inl ⟨h3,?_⟩)⟩,Qf⟩;rw [<- Jaj.out];exact Tk
       ·obtain rfl:k=4:=Qa
        have Rt:¬ ((4:Nat):Int)<4:=Qa;have Vr:Hid ((cz i6 (dB s) kd m1).2=mk):=Vu.out mk (fun _=>by rw [<- Tk.out];rfl) (fun h=>absurd h3 h);exact KY
      ·have Rt:((kd:Int) == 3)=false:=Qk
       have Xb:¬ (kd:Int)=3:=Qa;have Vr:Hid ((cz i6 (dB s) kd m1).2=mc):=Vu.out mc (fun h=>absurd h h3) (fun _=>rfl);exact KY
end
section
theorem Ac {lo hi:Nat} {k q:Int} {dv:Value} {D:List Int} {w:World} (h:aj .u8 lo hi w dv D) (hl:D.length<65536) (hk:k=1\/k=2) (hq:0<=q/\q<=15) :
  Calls prog 43 #[.agg #[k,q,dv]] w fun e w'=>(∃ v',e=.returned (.tuple #[.agg #[k,v'],.agg #[(),d8]])/\aj .u8 w.heap.size w'.heap.size w' v' (q :: D)/\ae [] w w'):=by
 refine aK fun Q QF=>?_
 obtain ⟨da,dc,rfl,-⟩:=h.open;obtain ⟨QQ,Y,Rg,SQ,HZ⟩:=kp w (.cells #[k,q,.slice da D.length dc] 103) (.cells #[(),d8] 31) (.cells #[(),d8] 39);have QW:=lh QQ;have N:=lh (h.quiet QQ);have hnl:(D.length:Int)<65536:=Qa;have JBn:¬ 65536<=D.length:=Qa;have JJN:¬ (65536:Int)<=(D.length:Int):=Qa;obtain ⟨q0,q1⟩:=hq;have UH:¬ q<0:=Qa;have F:¬ 15<q:=Qa;have hqw:IntKind.u8.wrap q=q:=by rw [IntKind.wrap_u8];omega
 have RA:¬ k<1:=Qa;have TW:¬ 4<k:=Qa;have RM:¬ 2<k:=Qa;have QS:∀ z∈[q],i7 .u8 z:=by simp only [i5,n7,i7];omega
 have V:=lh (fun (W:World)=>iQ (k:=.u8) (w:=W) (t:=5) (l:=[q]) (vs:=#[.int .u8 q]) rfl Qj QS 1 rfl rfl);obtain ⟨N1,M⟩:=bu ((q :: D).length)
 have O:=lh M;clear h hl QS M QQ hk;obtain ⟨a0,a1,a2⟩:=gI Y;go_enter func43,ntmps43;go_wp2_with fail;generalize Tb:World.alloc (World.alloc (World.alloc w _) _) _=W3 at *
 clear Tb;have L:=lh (ae.new W3 (.cells #[.int .u8 q] 5)).drew;refine Tf (S:=(fun w'=>w'.cell? ⟨w.heap.size,0,none⟩=some (.int .i64 k)/\w'.cell? ⟨w.heap.size,1,none⟩=some (.int .i64 q)/\w'.cell? ⟨w.heap.size,2,none⟩=some (.slice da D.length dc))) Qc ?_ (fun hHeld=>?_)
 ·exact ⟨a0,a1,a2⟩
 refine tk 0 58 ?_;refine tk 1 59 ?_;refine tk 2 60 ?_;refine tk 3 61 ?_;refine tk 4 62 ?_;refine tk 6 64 ?_;refine tk 7 65 ?_;refine tk 10 68 ?_;refine j6 5 63 fun K hK=>?_
 go_simp;refine ko hK ⟨L.cell a0 Qb,L.cell a1 Qb,L.cell a2 Qb⟩ fun hHeld=>?_;clear hK K
 refine j6 8 66 fun K hK=>?_
 refine ck rfl (.tmp 63) (.tmp 65) _ rfl E8 ((V.out W3).quiet (ae.refl [] _).drew) rfl (N.quiet L) rfl Qm Qb (fun v1 w1 QG QU=>?_);have F:ae [] W3 w1:=L.acc QU (bj.lit (Pm _));obtain ⟨g1,Sb,UU,ST,-⟩:=QG.form Qb;rw [show ([q] ++ D).length=N1 from O.symm] at UU;subst UU;have QO:=lh F;have SD:=lh QG;have Tt:=F.row Rg;have UT:=F.row SQ;obtain ⟨t0,t1,y0,y1,-⟩:=aL Tt;obtain ⟨QK,I⟩:=aJ (x:=.int .i64 k) (y:=.slice g1 N1 Sb) Tt;have E:=I.rowAt UT Qb;obtain ⟨u0,u1,z0,z1,-⟩:=aL E;obtain ⟨Vh,J⟩:=aJ (x:=.int .i64 0) (y:=.slice none 0 0) E;have SA:=lh (J.rowAt QK Qb);have Z:=lh Vh;have Sx:=lh (I.trans J (U:=[w.heap.size+1,w.heap.size+1+1]) (fun g h _=>by rw [i5] at h;subst h;simp) (fun g h _=>by rw [i5] at h;subst h;simp));have d0:=F.cell a0 Qb;have d1:=F.cell a1 Qb;have d2:=F.cell a2 Qb;have e0:=I.cell d0 Qb;have e1:=I.cell d1 Qb;have e2:=I.cell d2 Qb;have f0:=J.cell e0 Qm;have f1:=J.cell e1 Qm;have f2:=J.cell e2 Qm;clear QG QU Tt UT E QK Vh I J;refine ko hK ⟨d0,d1,d2⟩ fun hHeld=>?_;clear hK K
 refine tk 9 67 ?_;refine j9 11 fun K hK=>?_
 go_simp;refine ko hK ⟨e0,e1,e2⟩ fun hHeld=>?_;clear hK K
 refine j9 12 fun K hK=>?_
 go_simp;refine ko hK ⟨f0,f1,f2⟩ fun hHeld=>?_;clear hK K
 refine Wn Qc ?_ _;go_wp2_with fail;refine TV (dC results43 _ _ (w.heap.size+1) (w.heap.size+1+1) _ _ _ _ _ _ _ _ rfl rfl SA Z underlying31 rfl Qc underlying39 rfl (aG _ rfl)) rfl (QF.out _ _ ⟨_,rfl,?_,?_⟩)
 ·have h3:=(SD.only Sx (fun g hg e=>by simp only [Pg,Ph,l7] at hg;simp only [Value.ownBlock,PO] at e;have:=HZ.out;omega)).ints
  exact h3.mono (j0 HZ.out) (Pm _)
 ·exact (QW.q QO).trans Sx Qb (fun g hg QH=>by simp only [Pg,Ph,l7] at hg;omega)
end
def IH (src prev:ah) (key:Bool) (qp reach:Int) (w:World) (e:Ending) (w':World):Prop :=
 ae [] w w'/\match cy src prev key qp reach with
  | some k=>e=.returned (.tuple #[.agg #[(),d8],.agg #[(),(),d8],.agg #[k,d8]])
  | none=>∃ dv fv,e=.returned (.tuple #[.agg #[.int .i64 (bP src prev key qp reach.toNat).kind,dv],.agg #[src.W,src.H,fv],.agg #[(),d8]])/\aj .u8 w.heap.size w'.heap.size w' dv (bP src prev key qp reach.toNat).data/\aj .i64 w.heap.size w'.heap.size w' fv (dJ src prev key qp reach.toNat).1.pix
theorem di (a b c:Value):(prog.info? 24).map (·.size)=some (#[a,b,c]:Array Value).size:=by show _=some 3;kernel_rfl
theorem dG (a b:Value):(prog.info? 31).map (·.size)=some (#[a,b]:Array Value).size:=by show _=some 2;kernel_rfl
theorem dh (a b:Value):(prog.info? 39).map (·.size)=some (#[a,b]:Array Value).size:=aG _ rfl
theorem xN (w:World) (a F:Array Value) (D:TypeId) (b I:Array Value) (E:TypeId) :
  ((w.alloc (.cells a D)).alloc (.cells b E)).heap[w.heap.size]?=some (.cells a D)/\(((w.alloc (.cells a D)).alloc (.cells b E)).setRow w.heap.size F).heap[w.heap.size+1]?=some (.cells b E) /\
  ae [] w ((((w.alloc (.cells a D)).alloc (.cells b E)).setRow w.heap.size F).setRow (w.heap.size+1) I)/\((((w.alloc (.cells a D)).alloc (.cells b E)).setRow w.heap.size F).setRow (w.heap.size+1) I).heap[w.heap.size]?=some (.cells F D) /\
  ((((w.alloc (.cells a D)).alloc (.cells b E)).setRow w.heap.size F).setRow (w.heap.size+1) I).heap[w.heap.size+1]?=some (.cells I E)/\((((w.alloc (.cells a D)).alloc (.cells b E)).setRow w.heap.size F).setRow (w.heap.size+1) I).heap.size=w.heap.size+1+1:=by
 have h1:((w.alloc (.cells a D)).alloc (.cells b E)).heap[w.heap.size]?=some (.cells a D):=(BS).row (Sd w _);have N:((w.alloc (.cells a D)).alloc (.cells b E)).heap[w.heap.size+1]?=some (.cells b E):=ak Qb;have L:ae [w.heap.size] ((w.alloc (.cells a D)).alloc (.cells b E)) (((w.alloc (.cells a D)).alloc (.cells b E)).setRow w.heap.size F):=ae.setRow (AY) (fun _=>Qb) F;have J:=L.rowAt N Qb;have M:ae [w.heap.size+1] (((w.alloc (.cells a D)).alloc (.cells b E)).setRow w.heap.size F) ((((w.alloc (.cells a D)).alloc (.cells b E)).setRow w.heap.size F).setRow (w.heap.size+1) I):=ae.setRow (AY) (fun _=>Qb) I;refine ⟨h1,J,?_,M.rowAt (m7 _ _ _ _ _ _ h1) Qb,m7 _ _ _ _ _ _ J,by rw [size_setRow,size_setRow];simp⟩;exact (((ae.new w _).alloc _).trans L (U:=[]) Qb (fun g hg O=>Qd)).trans M (U:=[]) Qb (fun g hg O=>Qd)
theorem fQ {P:Program} {fn:Func} {p q r:Tmp} {ty J E:TypeId} (h:fn.results=#[.cell p ty,.cell q J,.cell r E]) (L:Array Value) (w:World) (g Z I:Nat) (t t' V:TypeId) (Y F D:Array Value) (fr O N:Nat×Nat) (d d' M:TypeDesc)
  (hp:L.getD p undef=.pointer g) (hq:L.getD q undef=.pointer Z) (hr:L.getD r undef=.pointer I) (hg:w.heap[g]?=some (.cells Y t fr)) (hg':w.heap[Z]?=some (.cells F t' O)) (JAV:w.heap[I]?=some (.cells D V N))
  (hu:P.underlying ty=some d) (hd:(match d with | .struct _ | .array _ _=>true | _=>false)=true) (hi:(P.info? ty).map (·.size)=some Y.size)
  (hu':P.underlying J=some d') (hd':(match d' with | .struct _ | .array _ _=>true | _=>false)=true) (hi':(P.info? J).map (·.size)=some F.size)
  (JBz:P.underlying E=some M) (JAS:(match M with | .struct _ | .array _ _=>true | _=>false)=true) (JBb:(P.info? E).map (·.size)=some D.size) :
  (results fn L).run P w=.ok (.tuple #[.agg Y,.agg F,.agg D]) w:=by
 have hp':L[p]?.getD undef=.pointer g:=Qw;have hq':L[q]?.getD undef=.pointer Z:=Qx;have hr':L[r]?.getD undef=.pointer I:=QE;simp [results,h,hp',hq',hr',asAddr,run_loadVar_row w g t ty Y fr d hg hu hd hi,run_loadVar_row w Z t' J F O d' hg' hu' hd' hi',run_loadVar_row w I V E D N M JAV JBz JAS JBb]
theorem jX {base R E:Nat} {F S:List Nat} {w w':World} {m:i9} (h:(bh base R E).At F w m) (o:ae S w w') (D:∀ g∈S,g∉F):(bh base R E).At F w' m:=by
 obtain ⟨ov,rfl,I⟩:=h;exact ⟨ov,rfl,I.only o D⟩
theorem oK {base R E:Nat} {F:List Nat} {w:World} {m:i9} (h:(bh base R E).At F w m):∀ g∈F,base<=g:=by
 obtain ⟨ov,rfl,I⟩:=h;exact fun g D=>(I.lt g D).1
theorem zX {base R E:Nat} {F:List Nat} {w:World} {m:i9} (h:(bh base R E).At F w m) (I:m.n<=1000000000):w.cell? ⟨R,1,none⟩=some (.pointer E) /\
  Calls prog 44 #[.pointer E] w fun e w'=>∃ v',e=.returned v'/\f9 .u8 5 w.heap.size w' v' (jk m)/\ae [] w w':=by
 obtain ⟨ov,rfl,D⟩:=h;exact ⟨D.row.cells.2.1,JM D.enc (j0 D.ok.n4) I⟩
section
theorem JL {lo hi lo' hi':Nat} {sv pv:Value} {src prev:ah} {w:World} (key:Bool) (qp reach:Int) (hs:aj .i64 lo hi w sv src.pix) (hp:aj .i64 lo' hi' w pv prev.pix) (hh:hi<=w.heap.size) (hh':hi'<=w.heap.size) :
  Calls prog 10 #[.agg #[src.W,src.H,sv],.agg #[prev.W,prev.H,pv],.bool key,qp,reach] w (IH src prev key qp reach w):=by
 refine aK fun Q QF=>?_
 have Xm:=lh (fun (W:World) (o:ae [] w W)=>Gv key qp reach (hs.quiet o) (hp.quiet o));have HS:=lh hs;have HP:=lh hp;obtain ⟨sa,sc,rfl,-⟩:=hs.open;obtain ⟨pa,pc,rfl,-⟩:=hp.open;obtain ⟨RF,L,N,V,Ti,Z,I⟩:=NA w (sT src sa sc) (sT prev pa pc) (.cells #[(),d8] 31) (.cells #[(),(),d8] 24) (.cells #[(),d8] 39);have HQ:=lh RF;have HHi:=lh (VL hh hh');obtain ⟨a0,a1,a2⟩:=ag L;obtain ⟨b0,b1,b2⟩:=ag N;clear hs hp hh hh' RF;go_enter func10,ntmps10;go_wp2_with fail;generalize ZI:World.alloc (World.alloc (World.alloc (World.alloc (World.alloc w _) _) _) _) _=W5 at *
 clear ZI a0 a1 a2 b0 b1 b2;refine (Xm.out W5 HQ).mono ?_;rintro e w6 ⟨rfl,D⟩;have VN:Hid (w.heap.size+1+1+1+1<w6.heap.size):=lh (l6 D.size I.out);replace L:=lh (D.row L);replace N:=lh (D.row N);replace V:=lh (D.row V);replace Ti:=lh (D.row Ti);replace Z:=lh (D.row Z);replace HQ:=lh (HQ.q D);clear D Xm I;cases TN:cy src prev key qp reach with
 | some k =>
  have RA:=Ek TN;have HCK:=lh TN;have Hk0:Hid ((k == 0)=false):=lh (dn A5 RA);rw [show JN (some k)=.agg #[k,d8] from rfl];clear TN RA;have hn:=ae.new w6 (.cells #[k,d8] 39);have J:Hid ((w6.alloc (.cells #[k,d8] 39)).heap[w6.heap.size]?=some (.cells #[k,d8] 39)):=Sd w6 _;replace L:=lh (hn.row L);replace N:=lh (hn.row N);replace V:=lh (hn.row V);replace Ti:=lh (hn.row Ti);replace Z:=lh (hn.row Z);replace HQ:=lh (HQ.q hn);have TD:=VN;obtain ⟨BE,ZG⟩:=bu w6.heap.size
  rw [<- ZG] at TD J;obtain ⟨e0,e1,-⟩:=aL J;go_wp2_with fail;clear hn e0 e1;refine (cZ _ _ _).mono ?_;rintro e w7 ⟨rfl,D⟩;rw [Hk0.out];replace L:=lh (D.row L);replace N:=lh (D.row N);replace V:=lh (D.row V);replace Ti:=lh (D.row Ti);replace Z:=lh (D.row Z);replace J:=lh (D.row J);replace HQ:=lh (HQ.q D);clear D;go_wp2_with fail;rw [<- ZG];clear ZG;refine Tf (S:=(fun wz=>wz.heap[BE]?=some (.cells #[k,d8] 39))) Qc ?_ (fun hHeld=>?_)
  ·exact J
  refine e9 0 33 ⟨rfl,by intro wz Rb;go_simp;try with_reducible rfl⟩ ?_;refine e9 1 34 ⟨rfl,by intro wz Rb;go_simp;try with_reducible rfl⟩ ?_;refine e9 2 35 ⟨rfl,by intro wz Rb;obtain ⟨e0,e1,-⟩:=aL Rb;go_simp;try with_reducible rfl⟩ ?_;refine j9 3 fun K hK=>?_
  refine aM (.tmp 10) (.tmp 33) 31 rfl (g:=(w.heap.size+1+1)) (c':=#[(),d8]) rfl rfl V (dG _ _) rfl mi (fun wy0 Ro Jbj=>?_);replace Ro:ae [(w.heap.size+1+1)] w7 wy0:=lZZ Ro
  have r01:=Ro.rowAt Ti Qi;have r02:=Ro.rowAt Z Qi;have sa0:=Ro.rowAt J (eW TD);refine ko hK sa0 fun hHeld=>?_;clear hK K
  refine j9 4 fun K hK=>?_
  refine aM (.tmp 11) (.tmp 34) 24 rfl (g:=(w.heap.size+1+1+1)) (c':=#[(),(),d8]) rfl rfl r01 (di _ _ _) rfl mi (fun wy1 Rp Jbk=>?_);replace Rp:ae [(w.heap.size+1+1+1)] wy0 wy1:=lZZ Rp
  have r10:=Rp.rowAt Jbj Qi;have r12:=Rp.rowAt r02 Qi;have sa1:=Rp.rowAt sa0 (eW TD);refine ko hK sa1 fun hHeld=>?_;clear hK K
  refine j9 5 fun K hK=>?_
  refine aM (.tmp 12) (.tmp 35) 39 rfl (g:=(w.heap.size+1+1+1+1)) (c':=#[k,d8]) rfl rfl r12 (dh _ _) rfl mi (fun wy2 Rq Jbl=>?_);replace Rq:ae [(w.heap.size+1+1+1+1)] wy1 wy2:=lZZ Rq
  have r20:=Rq.rowAt r10 Qi;have r21:=Rq.rowAt Jbk Qi;have sa2:=Rq.rowAt sa1 (eW TD);refine ko hK sa2 fun hHeld=>?_;clear hK K
  refine Wn Qc ?_ _;go_wp2_with fail;have Rx:ae [] w _:=((HQ.trans Ro (U:=[]) Qb (fun g hg hl=>Qd)).trans Rp (U:=[]) Qb (fun g hg hl=>Qd)).trans Rq (U:=[]) Qb (fun g hg hl=>Qd);refine TV (fQ results10 _ _ (w.heap.size+1+1) (w.heap.size+1+1+1) (w.heap.size+1+1+1+1) _ _ _ _ _ _ _ _ _ _ _ _ rfl rfl rfl r20 r21 Jbl underlying31 rfl (dG _ _) underlying24 rfl (di _ _ _) underlying39 rfl (dh _ _)) rfl (QF.out _ _ ?_);unfold IH;rw [HCK.out];exact ⟨Rx,rfl⟩
 | none =>
  obtain ⟨SN,Zn,UH,QI,Vg,Tt⟩:=eN TN;obtain ⟨q,rfl⟩:=A0 UH;obtain ⟨r,rfl⟩:=A0 Vg;have D:q<=15:=Qa;have hr:r<=7:=Qa;have Jfu:=lh D;have Hr7:=lh hr;have Jdr:Hid (∀ e w',ae [] w w'->(∃ dv fv,e=.returned (.tuple #[.agg #[.int .i64 (bP src prev key q r).kind,dv],.agg #[src.W,src.H,fv],.agg #[(),d8]])/\aj .u8 w.heap.size w'.heap.size w' dv (bP src prev key q r).data/\aj .i64 w.heap.size w'.heap.size w' fv (dJ src prev key q r).1.pix)->Q e w'):=lh (fun e w' o h=>QF.out _ _ (by unfold IH;rw [TN];exact ⟨o,by rw [Int.toNat_natCast];exact h⟩));have hdr:=(nl (q:=q) (reach:=r) SN Zn D hr).2;have hpk:key=false->FrOk prev/\prev.W=src.W/\prev.H=src.H:=fun h=>iO (Zn h)
  have Us:=lh hpk;have hn:jJ src.W src.H 128=true:=iP.2 ⟨⟨SN.w0,SN.w1,SN.w8⟩,⟨SN.h0,SN.h1,SN.h8⟩,Ql,Ql⟩;have HSf:=lh SN;have Jgx:Hid (bP src prev key q r=⟨if key then 1 else 2,(q:Int) :: jk (dJ src prev key q r).2⟩):=lh rfl;have XI:Hid ((jk (dJ src prev key q r).2).length<65536):=lh (by have h2:(jk (dJ src prev key q r).2).length+1<=65000:=hdr;omega);have JgB:Hid (dJ src prev key q r=encGo key prev q (aT src prev key q r) (src.W*src.H / 64).toNat 0 (ed src.W src.H 128) gy):=lh rfl;have HNw:=lh (fun (W:World)=>(zZ src.W src.H 128 W).mono (R':=fun e w'=>ae [] W w'/\∃ g cap,e=.returned (.tuple #[.agg #[src.W,src.H,.slice (some ⟨g,0,none⟩) (ed src.W src.H 128).pix.length cap],.agg #[(),d8]])/\f9 .i64 3 W.heap.size w' (.slice (some ⟨g,0,none⟩) (ed src.W src.H 128).pix.length cap) (ed src.W src.H 128).pix) (fun e w' h=>by unfold qX at h;rw [hn] at h;exact h));have HF0:=lh (nM hn);have HF1:Hid ((ed src.W src.H 128).W=src.W/\(ed src.W src.H 128).H=src.H):=lh ⟨rfl,rfl⟩;have hbw:8<=src.W/\src.W<=32/\src.W % 8=0:=⟨SN.w0,SN.w1,SN.w8⟩
  have hbh:8<=src.H/\src.H<=32/\src.H % 8=0:=⟨SN.h0,SN.h1,SN.h8⟩
  have Xh:=lh (VL hbw hbh);rw [show JN none=.agg #[(),d8] from rfl];clear TN UH QI Vg Tt Zn hdr SN hpk hn QF D hr hbw hbh;have hn:=ae.new w6 (.cells #[(),d8] 39);have J:Hid ((w6.alloc (.cells #[(),d8] 39)).heap[w6.heap.size]?=some (.cells #[(),d8] 39)):=Sd w6 _;replace L:=lh (hn.row L);replace N:=lh (hn.row N);replace V:=lh (hn.row V);replace Ti:=lh (hn.row Ti);replace Z:=lh (hn.row Z);replace HQ:=lh (HQ.q hn);obtain ⟨BE,ZG⟩:=bu w6.heap.size
  have HBE:=lh ZG;have HZE:Hid (BE<(w6.alloc (.cells #[(),d8] 39)).heap.size):=lh (by rw [ZG];simp);rw [<- ZG] at J VN;obtain ⟨e0,e1,-⟩:=aL J;go_wp2_with fail;clear hn e0 e1;rw [<- ZG];clear ZG;generalize World.alloc w6 _=W6 at *
  refine (cZ _ _ _).mono ?_;rintro e w7 ⟨rfl,D⟩;rw [show ((0:Int) == 0)=true from rfl];replace HZE:Hid (BE<w7.heap.size):=lh (l6 HZE.out D.size);replace L:=lh (D.row L);replace N:=lh (D.row N);replace V:=lh (D.row V);replace Ti:=lh (D.row Ti);replace Z:=lh (D.row Z);replace J:=lh (D.row J);replace HQ:=lh (HQ.q D);clear D;obtain ⟨s0,s1,s2⟩:=ag L;go_wp2_with fail;clear s0 s1 s2;refine (HNw.out _).mono ?_;rintro e w8 ⟨D,g0,TA,rfl,QL⟩;have HO:=lh QL;have HG0:=lh (QL.at g0 rfl);replace HZE:Hid (BE<w8.heap.size):=lh (l6 HZE.out D.size);have Yg:Hid (w.heap.size+1+1+1+1<g0):=lh (by have:=HG0.out;have:=VN.out;have:=HZE.out;have:=D.size;have h7:=(l8.1 J).1;omega);replace L:=lh (D.row L);replace N:=lh (D.row N);replace V:=lh (D.row V);replace Ti:=lh (D.row Ti);replace Z:=lh (D.row Z);replace J:=lh (D.row J);replace HQ:=lh (HQ.q D);clear D QL HNw;generalize ed src.W src.H 128=F0 at *
  obtain ⟨NL,hNL⟩:=bu F0.pix.length
  have HNL:=lh hNL;rw [<- hNL] at HO |-
  clear hNL;obtain ⟨f1,f2,f3,f4,f5,f6⟩:=xN w8 #[(),(),d8] #[src.W,src.H,.slice g0 NL TA] 24 #[(),d8] #[(),d8] 39;have F1:=lh f1;have F2:=lh f2;have F3:=lh f3;have HA:=lh f4;have HF6:=lh f6;clear f1 f2 f3 f4 f5 f6;go_upto_region 5 with (first
   | (refine am rfl (.tmp 14) (.tmp 42) 24 rfl rfl rfl F1 (di _ _ _) rfl mi ?_)
   | (refine am rfl (.tmp 15) (.tmp 43) 39 rfl rfl rfl F2 (dh _ _) rfl mi ?_)
   | fail)
  generalize JaR:World.setRow (World.setRow _ _ _) _ _=Xj at *
  clear JaR F1 F2;replace L:=lh (F3.row L);replace N:=lh (F3.row N);replace V:=lh (F3.row V);replace Ti:=lh (F3.row Ti);replace Z:=lh (F3.row Z);replace J:=lh (F3.row J);replace HQ:=lh (HQ.q F3);replace HO:=lh (HO.quiet F3);obtain ⟨AB,hAB⟩:=bu w8.heap.size
  rw [<- hAB] at HA HF6 HZE |-
  replace HG0:Hid (g0<AB):=lh (j0 HG0.out);clear F3 hAB HBE;go_wp2_with fail;refine (GH Xj).mono ?_;rintro e VQ ⟨R,E,ov,rfl,Xf,D⟩;obtain ⟨F00,JtD⟩:=bu (t7 R E ov)
  have HAt:Hid ((bh Xj.heap.size R E).At F00 VQ gy):=lh ⟨ov,JtD,Xf⟩;obtain ⟨BW,hBW⟩:=bu Xj.heap.size
  rw [<- hBW] at HAt HF6;have HIx:=lh (zN (HO.quiet D).ints);have Jjm:=lh (D.row HA);have Sr:=lh (D.mono (U:=[AB]) Qb);have HBW:=lh hBW;clear D Xf JtD hBW HO HA;have I:Hid (w.heap.size+1+1+1+1<BE/\BE<AB/\AB<BW/\g0<AB/\BW=Xj.heap.size/\w.heap.size+1+1+1+1<g0):=lh ⟨VN,HZE.out,by have:=HF6.out;omega,HG0.out,HBW.out,Yg.out⟩;clear VN HZE HF6 HG0 HBW Yg;have Jzb:=lh (HS.quiet HQ);have JyF:=lh (HP.quiet HQ);have hbd:=Xh.out;have Jkl:0<=src.W*src.H/\src.W*src.H<=32*32:=⟨Int.mul_nonneg Qa Qa,A3 hbd.1.2.1 hbd.2.2.1 Qa Qa⟩
  obtain ⟨NN,hNN⟩:∃ NN,NN=src.W*src.H:=⟨_,rfl⟩
  obtain ⟨C,hC⟩:∃ C:Nat,C=(src.W*src.H / 64).toNat:=⟨_,rfl⟩
  have Hcl:Hid ((C:Int)=src.W*src.H / 64):=lh (by rw [hC];omega);have HWH:Hid (wrap64 (src.W*src.H)=NN):=lh (by rw [<- hNN] at Jkl |-;unfold wrap64;omega);have Hcc:Hid (NN / 64=(C:Int)):=lh (by rw [Hcl.out,<- hNN]);have Xz:0<=NN:=Qa;have Zo:NN<=1024:=Qa;have JIJ:C<=16:=Qa;rw [<- hC] at JgB;have hw1:8<=src.W:=hbd.1.1;have hw2:src.W<=32:=hbd.1.2.1;obtain ⟨U,hU⟩:∃ U:Nat,(U:Int)=src.W / 8/\src.W=8*(U:Int)/\1<=U/\U<=4:=⟨(src.W / 8).toNat,Qa,Qa,Qa,Qa⟩
  have HU:=lh hU;clear hNN hC Jkl hbd hU;go_wp2_with fail;go_loopw [17] (fun i wr=>∃ (k:Nat) (O:ah) (Fk:List Nat) (mk:i9) (gk gc:Nat),k<=C/\i=.int .i64 k/\Hid (FrOk O/\O.W=src.W/\O.H=src.H/\O.pix.length=NL)/\Hid (wr.heap[AB]?=some (.cells #[src.W,src.H,.slice gk NL gc] 24))/\Hid (aj .i64 gk (gk+1) wr (.slice gk NL gc) O.pix)/\Hid (gk≠AB/\gk∉Fk/\gk<wr.heap.size/\w.heap.size+1+1+1+1<gk)/\Hid ((bh BW R E).At Fk wr mk)/\Hid (l5 (4+2788*k) mk)/\Hid (encGo key prev q (aT src prev key q r) (C-k) k O mk=dJ src prev key q r)/\Hid (ae [AB] Xj wr)) (fun i _=>C-(intOf i).toNat)
  case atStart=>exact ⟨0,F0,F00,gy,g0,TA,Qa,rfl,lh ⟨HF0,HF1.1,HF1.2,HNL.symm⟩,Jjm,HIx,lh ⟨by have:=I.out;omega,fun h=>by have:=oK HAt _ h;have:=I.out;omega,by have:=Sr.size;have:=I.out;omega,I.2.2.2.2.2⟩,HAt,lh ⟨jw,by show 4<=_;omega⟩,lh JgB.symm,Sr⟩
  case round =>
   obtain ⟨k,O,Fk,mk,gk,gc,hk,rfl,Yn,Xm,HIk,HNk,HTk,HWk,Tk,QP⟩:=hrel;clear Jjm HIx HAt Sr;replace L:=lh (QP.rowAt L (eW I));replace N:=lh (QP.rowAt N (eW I));replace V:=lh (QP.rowAt V (eW I));replace Ti:=lh (QP.rowAt Ti (eW I));replace Z:=lh (QP.rowAt Z (eW I));replace J:=lh (QP.rowAt J (eW I));have hwh:=HWH.out;obtain ⟨s0,s1,s2⟩:=ag L;by_cases QH:k<C
   ·have Rt:(k:Int)<NN / 64:=eC Hcc
    have RA:(0:Int)<=(k:Int):=Qa;have Sj:=lh QH;go_upto_region 9 with (fail)
    clear Rt hwh;obtain ⟨K8,hK8⟩:∃ K8,K8=(k:Int)*8:=⟨_,rfl⟩
    obtain ⟨XX,hX⟩:∃ X,X=K8 % src.W:=⟨_,rfl⟩
    obtain ⟨YY,hY⟩:∃ Y,Y=K8 / src.W*8:=⟨_,rfl⟩
    have hu:=HU.out;have e1:src.W.tdiv 8=(U:Int):=by rw [TY Qa];omega
    have e1':src.W / 8=(U:Int):=Qa;obtain ⟨XU,hXU⟩:=bu ((k:Int) % (U:Int))
    obtain ⟨YU,hYU⟩:=bu ((k:Int) / (U:Int))
    have e2:(k:Int).tmod (U:Int)=XU:=by rw [hXU,PR Qa]
    have e3:(k:Int).tdiv (U:Int)=YU:=by rw [hYU,TY Qa]
    have hXX:XU*8=XX/\YU*8=YY/\0<=XU/\XU<=3/\0<=YU/\YU<=16:=by
     have JDO:k<=16:=Qa;rw [hX,hY,hXU,hYU,hK8,hu.2.1];rcases (by omega:U=1\/U=2\/U=3\/U=4) with rfl | rfl | rfl | rfl <;> omega
    have e4:IntKind.i64.wrap (XU*8)=XX:=Qe;have e4':wrap64 (XU*8)=XX:=by unfold wrap64;omega
    have e5:IntKind.i64.wrap (YU*8)=YY:=Qe;have e5':wrap64 (YU*8)=YY:=by unfold wrap64;omega
    have e6:IntKind.i64.wrap YU=YU:=Qe;have e6':wrap64 YU=YU:=by unfold wrap64;omega
    have e7:IntKind.i64.wrap (U:Int)=(U:Int):=Qe;have hUn:¬ (U:Int)=0:=Qa;have JAD:¬ U=0:=Qa;have hUb:((U:Int) == 0)=false:=dn A5 hUn
    obtain ⟨p1,p2,p3,p4⟩:=Io (W:=src.W) (H:=src.H) (i:=k) Xh.1.1 Xh.1.2.1 Xh.1.2.2 Xh.2.1 Xh.2.2.1 Xh.2.2.2 (l6 Hcl.out Sj.out);rw [<- hK8,<- hX] at p1 p2;rw [<- hK8,<- hY] at p3 p4;have M:=lh (VL p1 (VL p2 (VL p3 p4)));have Tm:Hid (encGo key prev q (aT src prev key q r) (C-k) k O mk=encGo key prev q (aT src prev key q r) (C-(k+1)) (k+1) (bk O prev XX YY q (aT src prev key q r O XX YY)) (dE i6 key (dB (aT src prev key q r O XX YY)) mk).2):=lh (by
     have hfw:=Yn.2.1;rw [hX,hY,hK8,<- hfw,show C-k=(C-(k+1))+1 by omega]
     rfl)
    clear hK8 hX hY p1 p2 p3 p4 hXX hXU hYU hu;go_cut [18,19] (fun s18 s19 wx=>s18=.int .i64 XX/\s19=.int .i64 YY/\Hid (ae [] wr wx))
    case first =>
     refine Tf (S:=(fun wz=>wz.cell? ⟨w.heap.size,0,none⟩=some (.int .i64 src.W))) Qc ?_ (fun hHeld=>?_)
     ·exact s0
     refine tk 0 55 ?_;refine tk 1 56 ?_;refine tk 2 57 ?_;refine tk 3 58 ?_;refine tk 4 59 ?_;refine tk 5 60 ?_;refine tk 6 61 ?_;refine tk 7 62 ?_;refine tk 8 63 ?_;refine tk 9 64 ?_;refine tk 10 65 ?_;refine tk 11 66 ?_;refine tk 12 18 ?_;refine tk 13 19 ?_;refine Wn Qc ?_ _;go_wp2_with fail;go_meet;exact ⟨rfl,rfl,lh (by first | exact AY | exact (AY).drew)⟩
    case rest =>
     have HBw:Hid (Xj.heap.size<=wc.heap.size):=lh (l6 QP.size hcut.2.2.out.size);obtain ⟨rfl,rfl,SP⟩:=hcut;clear e1 e1' e2 e3 e4 e4' e5 e5' e6 e6' e7 hUn JAD hUb s0 s1 s2;replace L:=lh (SP.row L);replace N:=lh (SP.row N);replace V:=lh (SP.row V);replace Ti:=lh (SP.row Ti);replace Z:=lh (SP.row Z);replace J:=lh (SP.row J);replace Xm:=lh (SP.row Xm);replace HIk:=lh (HIk.quiet SP);replace HNk:Hid (gk≠AB/\gk∉Fk/\gk<wc.heap.size/\w.heap.size+1+1+1+1<gk):=lh ⟨HNk.1,HNk.2.1,by have:=HNk.2.2.1;have:=SP.size;omega,HNk.2.2.2⟩;replace HTk:=lh (jX HTk SP Qb);replace QP:=lh (QP.trans SP (U:=[AB]) (fun g h _=>h) Qb);clear SP;have Xi:=lh (Jzb.only QP (fun g hg=>by rw [i5] at hg;subst hg;have:=HHi.out;have:=I.out;right;omega));have JjJ:=lh (JyF.only QP (fun g hg=>by rw [i5] at hg;subst hg;have:=HHi.out;have:=I.out;right;omega));have hzw:w.heap.size<=wc.heap.size:=dT HNk
     have Zr:=JT (q:=q) (r:=r) (src:=src) (cur:=O) (prev:=prev) key HSf Yn.1 Us Yn.2.1 Yn.2.2.1 Xi HIk JjJ XX YY ⟨M.1,M.2.1⟩ ⟨M.2.2.1,M.2.2.2⟩ Jfu Hr7 (j0 HHi.out) (j0 HNk.out);have Xf:=nj (src:=src) (prev:=prev) (cur:=O) (key:=key) (q:=q) (reach:=r) HSf.sam Yn.1.sam (fun h=>(Us.out h).1.sam) Jfu Hr7 XX YY;obtain ⟨F,hSQ⟩:=bu (aT src prev key q r O XX YY)
     rw [<- hSQ] at Zr Xf Tm;rw [Yn.2.1,Yn.2.2.1] at Zr;have HSq:=lh Zr;have YG:=lh Xf;clear hSQ Zr Xf hzw;obtain ⟨s0,s1,s2⟩:=ag L;obtain ⟨p0,p1,p2⟩:=ag N;obtain ⟨t0,t1,t2⟩:=ag Xm;go_wp2_with fail;clear s0 s1 s2 p0 p1 p2 t0 t1 t2;refine HSq.mono ?_;rintro e Uy ⟨lv,vs,rfl,RQ,QS,D⟩;have JjS:Hid (wc.heap.size<=Uy.heap.size):=lh D.size;have TS:=lh D;have Tg:=lh QS;have Tv:=lh RQ;have HI:=lh (eE (k:=(F.kind:Int)) (mo:=(F.mode:Int)) (vx:=F.vx) (vy:=F.vy) (lv:=lv) RQ QS.len);have Vq:=lh (eh (k:=(F.kind:Int)) (mo:=(F.mode:Int)) (ms:=F.modes) (vx:=F.vx) (vy:=F.vy) (lv:=lv) (vs:=vs) QS.one.1 QS.one.2);have YE:=lh (dD (k:=0) (mo:=0) (ms:=[0,0,0,0]) (vx:=0) (vy:=0) (lv:=ai) (vs:=[ai,ai,ai,ai]) (k':=(F.kind:Int)) (mo':=(F.mode:Int)) (ms':=F.modes) (vx':=F.vx) (vy':=F.vy) (lv':=lv) (vs':=vs) rfl rfl RQ QS.len);have RT:=lh underlying91;clear RQ QS D HSq;obtain ⟨CA,Vt⟩:=bu ((j1 (F.kind:Int) (F.mode:Int) F.modes F.vx F.vy lv vs).toArray)
     have HCA:=lh Vt;rw [<- Vt] at HI Vq YE |-
     clear Vt;have Wo:=lh (Sd Uy (.cells (j1 0 0 [0,0,0,0] 0 0 ai [ai,ai,ai,ai]).toArray 91));have HNr:=lh (m7 (Uy.alloc (.cells (j1 0 0 [0,0,0,0] 0 0 ai [ai,ai,ai,ai]).toArray 91)) Uy.heap.size _ CA _ _ Wo);have HNo:Hid (ae [] Uy ((Uy.alloc (.cells (j1 0 0 [0,0,0,0] 0 0 ai [ai,ai,ai,ai]).toArray 91)).setRow Uy.heap.size CA)):=lh (((ae.new Uy _).trans (ae.setRow (S:=[Uy.heap.size]) (AY) (g:=Uy.heap.size) (fun _=>Qb) CA) (U:=[]) Qb (fun g hg QH=>Qd)));have HNz:Hid (Uy.heap.size<((Uy.alloc (.cells (j1 0 0 [0,0,0,0] 0 0 ai [ai,ai,ai,ai]).toArray 91)).setRow Uy.heap.size CA).heap.size):=lh (by rw [size_setRow];simp)
     go_wp2_with (first
      | (refine am rfl (.tmp 20) (.tmp 75) 91 rfl rfl rfl Wo HI YE Vq ?_)
      | (refine az rfl (.tmp 20) 91 rfl rfl HNr RT rfl HI ?_)
      | fail)
     have JvD:(Uy.alloc (.cells xT 91)).setRow Uy.heap.size CA=(Uy.alloc (.cells (j1 0 0 [0,0,0,0] 0 0 ai [ai,ai,ai,ai]).toArray 91)).setRow Uy.heap.size CA:=rfl;rw [JvD];clear JvD Wo;generalize World.setRow (World.alloc Uy _) _ _=W12 at *
     obtain ⟨BQ,hBQ⟩:=bu Uy.heap.size
     rw [<- hBQ] at HNr HNz JjS |-
     have Ss:Hid (ae [] wc W12):=TS.q HNo;have Jrd:=lh (jX HTk Ss Qb);have Jao:ep wc.heap.size BQ W12 lv vs F.large F.small:=by rw [hBQ];exact Tg.only HNo Qb
     clear hBQ HNo TS Tg;have hFl:∀ x∈Fk,x<wc.heap.size:=fun x hx=>(bh BW R E).lt HTk x hx
     have Vp:=lh hFl;have HGe:=lh (oK HTk);have Zr:=JU Jrd YG Jao Tv (fun x hx=>.inl (hFl x hx)) (j0 HNz.out) HWk Qa;rw [<- HCA.out] at Zr;have JjR:=lh Zr;have Yy:=lh Jao;clear Zr Jao hFl;refine JjR.mono ?_;rintro e w13 ⟨⟨ev,rfl⟩,F13,JtS,Juz⟩;have JmL:=lh JtS;have Wt:=lh Juz;clear JtS Juz JjR HTk Jrd;have Jyr:=lh (Wt.1.rowAt HNr (fun h=>by have:=Vp.out _ h;have:=JjS.out;omega));have hge:=HGe.out;replace L:=lh (Wt.1.rowAt (Ss.row L) (fun h=>by have:=hge _ h;have:=I.out;omega));replace N:=lh (Wt.1.rowAt (Ss.row N) (fun h=>by have:=hge _ h;have:=I.out;omega));replace V:=lh (Wt.1.rowAt (Ss.row V) (fun h=>by have:=hge _ h;have:=I.out;omega));replace Ti:=lh (Wt.1.rowAt (Ss.row Ti) (fun h=>by have:=hge _ h;have:=I.out;omega));replace Z:=lh (Wt.1.rowAt (Ss.row Z) (fun h=>by have:=hge _ h;have:=I.out;omega));replace J:=lh (Wt.1.rowAt (Ss.row J) (fun h=>by have:=hge _ h;have:=I.out;omega));replace Xm:=lh (Wt.1.rowAt (Ss.row Xm) (fun h=>by have:=hge _ h;have:=I.out;omega));replace HIk:=lh ((HIk.quiet Ss).only Wt.1 (fun x hx=>by have:=HNk.2.1;rcases Nat.lt_trichotomy x gk with h | h | h;exact .inl h;exact absurd (h ▸ hx) this;exact .inr h));have JrE:=lh (Yy.only Wt.1 (fun g hg=>.inl (Vp.out g hg)));replace QP:Hid (ae [AB] Xj w13):=lh ((QP.trans Ss (U:=[AB]) (fun g h _=>h) Qb).trans Wt.1 (fun g h _=>h) (fun g hg QH=>absurd QH (l6 (hge g hg) I.out)));replace JjJ:=lh ((JjJ.quiet Ss).only Wt.1 (fun g hg=>.inr (C5 (hge g hg) HHi.out I.out)));have JFT:Hid (∀ x∈F13,x∈Fk\/wc.heap.size<=x):=lh (fun x hx=>(Wt.2 x hx).imp_right (fun h=>Pw Ss.size h));have Xg:=Wt.1.size;have JBJ:=Ss.size;have ZA:Hid (wc.heap.size<=BQ/\BQ<w13.heap.size):=lh ⟨JjS,by have:=HNz.out;omega⟩;clear Wt Ss HNr HNz JjS Yy JBJ;have TW:F.kind<2->FrOk prev:=fun hk=>(Us.out (by cases hke:key with | false=>rfl | true=>have:=YG.key_ hke;omega)).1
     have hB:=De (f:=O) (prev:=prev) (s:=F) (x:=XX) (y:=YY) (q:=q) (mo:=(F.mode:Int)) (w:=w13) (lv:=lv) (vs:=vs) Yn.1 HIk (l6 HNk.out ZA.out) JjJ JrE TW ⟨YG.kind,YG.mode,YG.large,YG.vec,YG.small⟩ (fun _=>rfl) Tv Jfu M.1 (by rw [Yn.2.1];exact M.2.1) M.2.2.1 (by rw [Yn.2.2.1];exact M.2.2.2);rw [Yn.2.1,Yn.2.2.1,<- HCA.out] at hB;have HB_:=lh hB;have hlo:=wu (prev:=prev) Yn.1 (fun hk=>(TW hk).sam) M.1 (by rw [Yn.2.1];exact M.2.1) M.2.2.1 (by rw [Yn.2.2.1];exact M.2.2.2) ⟨YG.kind,YG.mode,YG.large,YG.vec,YG.small⟩ (q:Int);have hlw:=rY O prev XX YY q F;have Vv:Hid (FrOk (bk O prev XX YY q F)/\(bk O prev XX YY q F).W=src.W/\(bk O prev XX YY q F).H=src.H/\(bk O prev XX YY q F).pix.length=NL):=lh ⟨hlo,hlw.1.trans Yn.2.1,hlw.2.trans Yn.2.2.1,by
      have t1:=hlo.len;have t2:=Yn.1.len;rw [hlw.1,hlw.2] at t1;have:=Yn.2.2.2;omega⟩
     have HNp:Hid (0<NL):=lh (by have h1:=Yn.1.len;have h2:=Yn.2.2.2;have h3:=Xh.out;have h4:8*8<=O.W*O.H:=A3 (by rw [Yn.2.1];exact h3.1.1) (by rw [Yn.2.2.1];exact h3.2.1) Qa (by rw [Yn.2.1];omega);omega);clear hB hlo hlw TW hge Xg;obtain ⟨p0,p1,p2⟩:=ag N;obtain ⟨t0,t1,t2⟩:=ag Xm
     go_wp2_with (first
      | (refine az rfl (.tmp 20) 91 rfl rfl Jyr RT rfl HI ?_)
      | fail)
     clear t0 t1 t2 p0 p1 p2;refine HB_.mono ?_;rintro e TC ⟨nv,rfl,QL,D⟩;obtain ⟨ng,ngc,rfl,JuY,JuZ,hni⟩:=Dt QL (by rw [Vv.2.2.2];exact HNp);rw [Vv.2.2.2] at hni |-
     have Jre:=lh (D.row Xm);have hso:=ae.setRow (S:=[AB]) (ae.refl _ TC) (g:=AB) (fun _=>Qb) #[src.W,src.H,.slice ng NL ngc];have QK:=m7 TC AB _ #[src.W,src.H,.slice ng NL ngc] _ _ Jre;have Xg:=ZA.out;have Jem:=hso.size;have JgF:=lh (hni.only hso (fun x hx=>by rw [i5] at hx;have:=I.out;have:=HBw.out;left;omega));have SA:=lh QK;have VU:=lh hso;have HNg:=lh (VL JuY JuZ);have WR:=lh D;clear QL D hni QK hso HB_ JuY JuZ Xg Jem
     go_wp2_with (first | (refine am rfl (.tmp 14) (.tmp 86) 24 rfl rfl rfl Jre (di _ _ _) rfl mi ?_) | fail)
     have hng:=HNg.out;have hz:=I.out;have Xg:=ZA.out;have hzs:=VU.size;have hbw:=HBw.out;refine ⟨⟨k+1,bk O prev XX YY q F,F13,(dE i6 key (dB F) mk).2,ng,ngc,by have:=Sj.out;omega,Qh,Vv,SA,JgF,lh ⟨Qa,fun h=>?_,Qa,Qa⟩,lh ?_,lh ((pn key (dB F) HWk).le Qa),lh (na Tm Tk),lh ?_⟩,by simp [intOf];have:=Sj.out;omega⟩
     ·have:=(bh BW R E).lt JmL _ h;omega
     ·exact jX (jX JmL WR Qb) VU (fun x hx hm=>by rw [i5] at hx;subst hx;have:=oK JmL _ hm;omega)
     ·exact (QP.trans WR (U:=[AB]) (fun g h _=>h) Qb).trans VU (fun g h _=>h) (fun g h _=>h)
   ·obtain rfl:k=C:=Qa
    have Rt:¬ (k:Int)<NN / 64:=eC Hcc
    have RA:(0:Int)<=(k:Int):=Qa;have hgo:=Tk.out;rw [Nat.sub_self] at hgo;have Vu:Hid (dJ src prev key q r=(O,mk)):=lh hgo.symm;clear hgo;obtain ⟨hrc,hen⟩:=zX HTk (j0 HWk.2);have JyX:=lh hrc;have Vi:=lh hen;rw [Vu.out] at XI;clear hrc hen;go_upto_if 87 with (fail)
    clear Rt hwh s0 s1 s2;go_cut [21] (fun s21 wx=>s21=.int .i64 (if key then 1 else 2)/\wr=wx)
    case first =>
     cases key with
     | true =>
      go_wp2_with fail;go_meet;exact ⟨rfl,rfl⟩
     | false =>
      go_wp2_with fail;go_meet;exact ⟨rfl,rfl⟩
    case rest =>
     obtain ⟨rfl,hwc⟩:=hcut;subst hwc;obtain ⟨KK,hKK⟩:∃ z:Int,z=if key then 1 else 2:=⟨_,rfl⟩
     rw [<- hKK];have JhV:KK=1\/KK=2:=by rw [hKK];cases key <;> simp
     have HKK:=lh hKK;clear hKK;have c1:=JyX.out;go_wp2_with fail;clear c1;refine Vi.mono ?_;rintro e w13 ⟨v13,rfl,QL,JcC⟩;have Jct:=QL.ints;obtain ⟨d3,c3,rfl,-⟩:=Jct.open;have VR:=lh JcC;have hpk:=Ac (k:=KK) (q:=(q:Int)) Jct XI JhV ⟨Qa,by have:=Jfu.out;omega⟩;obtain ⟨N3,hN3⟩:=bu ((jk mk).length)
     rw [<- hN3] at hpk |-
     have Jff:=lh hpk;clear QL Jct JcC hN3 Vi JhV hpk;go_wp2_with fail;refine Jff.mono ?_;rintro e TC ⟨v14,rfl,JdZ,Ve⟩;obtain ⟨d4,c4,rfl,-⟩:=JdZ.open;have Xn:=lh JdZ;have WR:=lh (VR.q Ve);have ZA:=lh VR.size;clear JdZ Ve Jff VR;obtain ⟨N4,hN4⟩:=bu (((q:Int) :: jk mk).length)
     rw [<- hN4] at Xn |-
     clear hN4;obtain ⟨f1,f2,f3,f4,f5,f6⟩:=xN TC #[(),d8] #[KK,.slice d4 N4 c4] 31 #[(),d8] #[(),d8] 39;have F1:=lh f1;have F2:=lh f2;have F3:=lh f3;have HV:=lh f4;clear f1 f2 f3 f4 f5 f6;go_upto_region 17 with (first
      | (refine am rfl (.tmp 22) (.tmp 98) 31 rfl rfl rfl F1 (dG _ _) rfl mi ?_)
      | (refine am rfl (.tmp 23) (.tmp 99) 39 rfl rfl rfl F2 (dh _ _) rfl mi ?_)
      | fail)
     generalize JoI:World.setRow (World.setRow _ _ _) _ _=W15 at *
     clear JoI F1 F2;have SH:=lh (WR.q F3);replace L:=lh (SH.row L);replace N:=lh (SH.row N);replace V:=lh (SH.row V);replace Ti:=lh (SH.row Ti);replace Z:=lh (SH.row Z);replace J:=lh (SH.row J);replace Xm:=lh (SH.row Xm);have HIf:=lh (HIk.quiet SH);have HId:=lh (Xn.quiet F3);have TL:Hid (ae [] w W15):=lh ((HQ.trans QP (U:=[]) Qb (fun g hg QH=>by rw [i5] at hg;have:=I.out;omega)).q SH);have Jem:=WR.size;have hzr:=QP.size;have hz:=I.out;have Xg:=ZA.out;have hnk:=HNk.out;obtain ⟨BV,hBV⟩:=bu TC.heap.size
     rw [<- hBV] at HV |-
     have TD:Hid (w.heap.size+1+1+1+1<BV/\w.heap.size+1+1+1+1<AB/\w.heap.size+1+1+1+1<BE):=lh Qa;have HZy:Hid (w.heap.size+1+1+1+1<gk/\w.heap.size+1+1+1+1<w13.heap.size/\gk+1<=W15.heap.size/\TC.heap.size<=W15.heap.size):=lh (by have h5:=F3.size;omega);clear Jem hzr hz Xg hnk hBV;refine Tf (S:=(fun wz=>wz.heap[BV]?=some (.cells #[KK,.slice d4 N4 c4] 31)/\wz.heap[AB]?=some (.cells #[src.W,src.H,.slice gk NL gc] 24)/\wz.heap[BE]?=some (.cells #[(),d8] 39))) Qc ?_ (fun hHeld=>?_)
     ·exact ⟨HV,Xm.out,J.out⟩
     refine e9 0 100 ⟨rfl,by intro wz Rb;obtain ⟨v0,v1,-⟩:=aL Rb.1;go_simp;try with_reducible rfl⟩ ?_;refine e9 1 101 ⟨rfl,by intro wz Rb;obtain ⟨v0,v1,v2⟩:=ag Rb.2.1;go_simp;try with_reducible rfl⟩ ?_;refine e9 2 102 ⟨rfl,by intro wz Rb;obtain ⟨v0,v1,-⟩:=aL Rb.2.2;go_simp;try with_reducible rfl⟩ ?_;refine j9 3 fun K hK=>?_
     refine aM (.tmp 10) (.tmp 100) 31 rfl (g:=(w.heap.size+1+1)) (c':=#[KK,.slice d4 N4 c4]) rfl rfl V (dG _ _) rfl mi (fun wy0 Ro Jbj=>?_);replace Ro:ae [(w.heap.size+1+1)] W15 wy0:=lZZ Ro
     have r01:=Ro.rowAt Ti Qi;have r02:=Ro.rowAt Z Qi;have sa0:=Ro.rowAt HV (eW TD);have sb0:=Ro.rowAt Xm (eW TD);have sc0:=Ro.rowAt J (eW TD);refine ko hK ⟨sa0,sb0,sc0⟩ fun hHeld=>?_;clear hK K
     refine j9 4 fun K hK=>?_
     refine aM (.tmp 11) (.tmp 101) 24 rfl (g:=(w.heap.size+1+1+1)) (c':=#[src.W,src.H,.slice gk NL gc]) rfl rfl r01 (di _ _ _) rfl mi (fun wy1 Rp Jbk=>?_);replace Rp:ae [(w.heap.size+1+1+1)] wy0 wy1:=lZZ Rp
     have r10:=Rp.rowAt Jbj Qi;have r12:=Rp.rowAt r02 Qi;have sa1:=Rp.rowAt sa0 (eW TD);have sb1:=Rp.rowAt sb0 (eW TD);have sc1:=Rp.rowAt sc0 (eW TD);refine ko hK ⟨sa1,sb1,sc1⟩ fun hHeld=>?_;clear hK K
     refine j9 5 fun K hK=>?_
     refine aM (.tmp 12) (.tmp 102) 39 rfl (g:=(w.heap.size+1+1+1+1)) (c':=#[(),d8]) rfl rfl r12 (dh _ _) rfl mi (fun wy2 Rq Jbl=>?_);replace Rq:ae [(w.heap.size+1+1+1+1)] wy1 wy2:=lZZ Rq
     have r20:=Rq.rowAt r10 Qi;have r21:=Rq.rowAt Jbk Qi;have sa2:=Rq.rowAt sa1 (eW TD);have sb2:=Rq.rowAt sb1 (eW TD);have sc2:=Rq.rowAt sc1 (eW TD);refine ko hK ⟨sa2,sb2,sc2⟩ fun hHeld=>?_;clear hK K
     refine Wn Qc ?_ _;go_wp2_with fail;have Rx:ae [] w _:=((TL.trans Ro (U:=[]) Qb (fun g hg hl=>Qd)).trans Rp (U:=[]) Qb (fun g hg hl=>Qd)).trans Rq (U:=[]) Qb (fun g hg hl=>Qd);refine TV (fQ results10 _ _ (w.heap.size+1+1) (w.heap.size+1+1+1) (w.heap.size+1+1+1+1) _ _ _ _ _ _ _ _ _ _ _ _ rfl rfl rfl r20 r21 Jbl underlying31 rfl (dG _ _) underlying24 rfl (di _ _ _) underlying39 rfl (dh _ _)) rfl (Jdr.out _ _ Rx ?_);have hzy:=HZy.out;have n0:∀ g∈[w.heap.size+1+1],g<w13.heap.size/\g<gk:=fun g hg=>by rw [i5] at hg;omega
     have n1:∀ g∈[w.heap.size+1+1+1],g<w13.heap.size/\g<gk:=fun g hg=>by rw [i5] at hg;omega
     have n2:∀ g∈[w.heap.size+1+1+1+1],g<w13.heap.size/\g<gk:=fun g hg=>by rw [i5] at hg;omega
     have Zg:=Ro.size;have JpE:=Rp.size;have JpF:=Rq.size;refine ⟨.slice d4 N4 c4,.slice gk NL gc,by rw [Jgx.out,<- HKK.out],?_,?_⟩
     ·rw [Jgx.out,Vu.out]
      exact (((HId.only Ro (fun g hg=>.inl (n0 g hg).1)).only Rp (fun g hg=>.inl (n1 g hg).1)).only Rq (fun g hg=>.inl (n2 g hg).1)).mono Qa Qa
     ·rw [Vu.out]
      exact (((HIf.only Ro (fun g hg=>.inl (n0 g hg).2)).only Rp (fun g hg=>.inl (n1 g hg).2)).only Rq (fun g hg=>.inl (n2 g hg).2)).mono Qa Qa
end
theorem wj (c:j3) (w:World) :
  Calls prog 52 #[c.v] w fun e w'=>e=.returned (.bool (fM c))/\ae [] w w':=by
 obtain ⟨a0,a1,a2,a3,a4,a5,a6,a7⟩:=c;unfold j3.v;go_enter func52,ntmps52;go_wp2_with fail
 all_goals
  go_ret;refine ⟨aC ?_,(AY).alloc _⟩;unfold fM;rw [m9];simp
  try omega
theorem AQ {p:Prop} (h:p:=by intro wz Rb;obtain ⟨v0,v1,v2⟩:=ag Rb.2.1;go_simp;try with_reducible rfl):p:=h
def Nh (src prev:ah) (key:Bool) (c:j3) (most:Int) (w:World) (e:Ending) (w':World):Prop :=
 ae [] w w'/\match kG src prev key c most with
  | .error k=>e=.returned (.tuple #[.agg #[(),d8],.agg #[(),(),d8],.agg #[k,d8]])
  | .ok x=>∃ dv fv,e=.returned (.tuple #[.agg #[x.1.kind,dv],.agg #[x.2.W,x.2.H,fv],.agg #[(),d8]])/\aj .u8 w.heap.size w'.heap.size w' dv x.1.data/\aj .i64 w.heap.size w'.heap.size w' fv x.2.pix
theorem sN (src prev:ah) (key:Bool) (q:Int) (r:Nat):(dJ src prev key q r).1.W=src.W/\(dJ src prev key q r).1.H=src.H:=by
 unfold dJ
 suffices h:∀ (k i:Nat) (f:ah) (m:i9),(encGo key prev q (aT src prev key q r) k i f m).1.W=f.W/\(encGo key prev q (aT src prev key q r) k i f m).1.H=f.H from h _ _ _ _
 intro k
 induction k with
 | zero=>intro i f m;exact ⟨rfl,rfl⟩
 | succ k ih =>
  intro i f m;rw [encGo,(ih _ _ _).1,(ih _ _ _).2];exact rY _ _ _ _ _ _
section
theorem EY {p:Prop} (h:p:=by
 obtain ⟨Ro,Rp,Rq⟩:=QW.out;have Rx:ae [] w _:=((HQ.trans Ro (U:=[]) Qb (fun g hg hl=>Qd)).trans Rp (U:=[]) Qb (fun g hg hl=>Qd)).trans Rq (U:=[]) Qb (fun g hg hl=>Qd);have R0:=HT0.out;have R1:=HT1.out;have R2:=HT2.out;refine TV (fQ results17 _ _ (w.heap.size+1+1+1) (w.heap.size+1+1+1+1) (w.heap.size+1+1+1+1+1) _ _ _ _ _ _ _ _ _ _ _ _ rfl rfl rfl R0 R1 R2 underlying31 rfl (dG _ _) underlying24 rfl (di _ _ _) underlying39 rfl (dh _ _)) rfl (QF.out _ _ ?_);rw [HE.out];exact ⟨Rx,rfl⟩):p:=h
theorem EZ {p:Prop} (h:p:=by
 exact (((HIf.only Ro (fun g hg=>by rw [i5] at hg;left;omega)).only Rp (fun g hg=>by rw [i5] at hg;left;omega)).only Rq (fun g hg=>by rw [i5] at hg;left;omega)).mono Qa Qa):p:=h
theorem JO {lo hi lo' hi':Nat} {sv pv:Value} {src prev:ah} {w:World} (key:Bool) (c:j3) (most:Int) (hs:aj .i64 lo hi w sv src.pix) (hp:aj .i64 lo' hi' w pv prev.pix) (hh:hi<=w.heap.size) (hh':hi'<=w.heap.size) :
  Calls prog 17 #[.agg #[src.W,src.H,sv],.agg #[prev.W,prev.H,pv],.bool key,c.v,most] w (Nh src prev key c most w):=by
 refine aK fun Q QF=>?_
 have HEn:=lh (fun (W:World) (q:Int) (o:ae [] w W)=>JL key q c.reach (hs.quiet o) (hp.quiet o) (Pw hh o.size) (Pw hh' o.size));have HMy:=lh (fun (W:World)=>wj c W);have HCp:=lh (fun (W:World) (o:ae [] w W) (hl:prev.pix.length<=1000000000)=>ly (hp.quiet o) hl);have Tr:Hid (kG src prev key c most=if fM c=false then .error 11 else if most<8 then .error 3 else gN src prev key c.reach most (c.qmax+1-c.qmin).toNat c.qmin):=lh rfl;have JbT:=lh (fun (h:fM c=true)=>rZ h);obtain ⟨sa,sc,rfl,-⟩:=hs.open;obtain ⟨pa,pc,rfl,-⟩:=hp.open;unfold Nh at QF;generalize kG src prev key c most=FE at *
 generalize fM c=MC at *
 obtain ⟨a0,a1,a2,a3,a4,a5,a6,a7⟩:=c;simp only at HEn Tr JbT;unfold j3.v at HMy |-
 simp only at HMy |-
 obtain ⟨Sl,Z,Tj,Y,I,M,L,HZ⟩:=NB w (sT src sa sc) (sT prev pa pc) (.cells #[a0,a1,a2,a3,a4,a5,a6,a7] 47) (.cells #[(),d8] 31) (.cells #[(),(),d8] 24) (.cells #[(),d8] 39);have HQ:=lh Sl;obtain ⟨k0,k1,k2,k3,k4,k5,k6,k7⟩:=bJ Y;clear hs hp hh hh' Sl;go_enter func17,ntmps17;go_wp2_with fail;generalize hW6:World.alloc (World.alloc (World.alloc (World.alloc (World.alloc (World.alloc w _) _) _) _) _) _=W6 at *
 clear hW6 k0 k1 k2 k3 k4 k5 k6 k7;refine (HMy.out W6).mono ?_;rintro e w2 ⟨rfl,D⟩;have E:Hid (w.heap.size+1+1+1+1+1<w2.heap.size):=lh (l6 D.size HZ.out);replace Z:=lh (D.row Z);replace Tj:=lh (D.row Tj);replace Y:=lh (D.row Y);replace I:=lh (D.row I);replace M:=lh (D.row M);replace L:=lh (D.row L);replace HQ:=lh (HQ.q D);clear D HMy HZ;cases MC with
 | false =>
  have HE:Hid (FE=.error 11):=lh Tr;clear Tr JbT HEn HCp;go_wp2_with fail;refine (fo 11 _).mono ?_;rintro e w3 ⟨rfl,D⟩;replace I:=lh (D.row I);replace M:=lh (D.row M);replace L:=lh (D.row L);replace HQ:=lh (HQ.q D);clear D;have UH:=ae.setRow (S:=[w.heap.size+1+1+1]) (ae.refl _ w3) (g:=w.heap.size+1+1+1) (fun _=>Qb) #[(),d8];have Su:=lh (UH.rowAt M Qi);have QI:=ae.setRow (S:=[w.heap.size+1+1+1+1]) (ae.refl _ (w3.setRow (w.heap.size+1+1+1) #[(),d8])) (g:=w.heap.size+1+1+1+1) (fun _=>Qb) #[(),(),d8];have Te:=lh (QI.rowAt (UH.rowAt L Qi) Qi);have QN:=ae.setRow (S:=[w.heap.size+1+1+1+1+1]) (ae.refl _ ((w3.setRow (w.heap.size+1+1+1) #[(),d8]).setRow (w.heap.size+1+1+1+1) #[(),(),d8])) (g:=w.heap.size+1+1+1+1+1) (fun _=>Qb) #[.int .i64 11,d8];have HT0:=lh (QN.rowAt (QI.rowAt (m7 w3 (w.heap.size+1+1+1) _ #[(),d8] _ _ I) Qi) Qi);have HT1:=lh (QN.rowAt (m7 (w3.setRow (w.heap.size+1+1+1) #[(),d8]) (w.heap.size+1+1+1+1) _ #[(),(),d8] _ _ Su) Qi);have HT2:=lh (m7 ((w3.setRow (w.heap.size+1+1+1) #[(),d8]).setRow (w.heap.size+1+1+1+1) #[(),(),d8]) (w.heap.size+1+1+1+1+1) _ #[.int .i64 11,d8] _ _ Te);have QW:=lh (VL UH (VL QI QN));clear UH QI QN
  go_wp2_with (first
   | (refine am rfl (.tmp 10) (.tmp 22) 31 rfl rfl rfl I (dG _ _) rfl mi ?_)
   | (refine am rfl (.tmp 11) (.tmp 23) 24 rfl rfl rfl Su (di _ _ _) rfl mi ?_)
   | (refine am rfl (.tmp 12) (.tmp 24) 39 rfl rfl rfl Te (dh _ _) rfl mi ?_)
   | fail)
  exact EY
 | true =>
  obtain ⟨m0,m1,m2,m3,m4⟩:=JbT.out rfl;have HM:=lh (VL m0 (VL m1 (VL m2 (VL m3 m4))));clear m0 m1 m2 m3 m4 JbT;by_cases Jmn:most<8
  ·have HE:Hid (FE=.error 3):=lh (by rw [Tr.out];exact if_pos Jmn)
   clear Tr HEn HCp;go_wp2_with fail;refine (fo 3 _).mono ?_;rintro e w3 ⟨rfl,D⟩;replace I:=lh (D.row I);replace M:=lh (D.row M);replace L:=lh (D.row L);replace HQ:=lh (HQ.q D);clear D;have UH:=ae.setRow (S:=[w.heap.size+1+1+1]) (ae.refl _ w3) (g:=w.heap.size+1+1+1) (fun _=>Qb) #[(),d8];have Su:=lh (UH.rowAt M Qi);have QI:=ae.setRow (S:=[w.heap.size+1+1+1+1]) (ae.refl _ (w3.setRow (w.heap.size+1+1+1) #[(),d8])) (g:=w.heap.size+1+1+1+1) (fun _=>Qb) #[(),(),d8];have Te:=lh (QI.rowAt (UH.rowAt L Qi) Qi);have QN:=ae.setRow (S:=[w.heap.size+1+1+1+1+1]) (ae.refl _ ((w3.setRow (w.heap.size+1+1+1) #[(),d8]).setRow (w.heap.size+1+1+1+1) #[(),(),d8])) (g:=w.heap.size+1+1+1+1+1) (fun _=>Qb) #[.int .i64 3,d8];have HT0:=lh (QN.rowAt (QI.rowAt (m7 w3 (w.heap.size+1+1+1) _ #[(),d8] _ _ I) Qi) Qi);have HT1:=lh (QN.rowAt (m7 (w3.setRow (w.heap.size+1+1+1) #[(),d8]) (w.heap.size+1+1+1+1) _ #[(),(),d8] _ _ Su) Qi);have HT2:=lh (m7 ((w3.setRow (w.heap.size+1+1+1) #[(),d8]).setRow (w.heap.size+1+1+1+1) #[(),(),d8]) (w.heap.size+1+1+1+1+1) _ #[.int .i64 3,d8] _ _ Te);have QW:=lh (VL UH (VL QI QN));clear UH QI QN
   go_wp2_with (first
    | (refine am rfl (.tmp 10) (.tmp 27) 31 rfl rfl rfl I (dG _ _) rfl mi ?_)
    | (refine am rfl (.tmp 11) (.tmp 28) 24 rfl rfl rfl Su (di _ _ _) rfl mi ?_)
    | (refine am rfl (.tmp 12) (.tmp 29) 39 rfl rfl rfl Te (dh _ _) rfl mi ?_)
    | fail)
   exact EY
  ·have HE:Hid (FE=gN src prev key a2 most (a1+1-a0).toNat a0):=lh (by rw [Tr.out];exact if_neg Jmn)
   have hm8:8<=most:=Qa;clear Tr;obtain ⟨k0,k1,k2,k3,k4,k5,k6,k7⟩:=bJ Y;go_wp2_with fail;clear k0 k1 k2 k3 k4 k5 k6 k7;go_loopw [13] (fun i wr=>∃ q:Int,a0<=q/\q<=a1+1/\i=.int .i64 q/\Hid (FE=gN src prev key a2 most (a1+1-q).toNat q)/\Hid (a0<q->∃ p,cy src prev key p a2=none)/\Hid (ae [] w2 wr)) (fun i _=>(17-intOf i).toNat)
   case atStart=>exact ⟨a0,Qa,by have:=HM.out;omega,rfl,HE,lh (fun h=>absurd h Qa),lh (AY)⟩
   case round =>
    obtain ⟨q,hqa,hqb,rfl,HEq,YD,Tz⟩:=hrel;replace Z:=lh (Tz.row Z);replace Tj:=lh (Tz.row Tj);replace Y:=lh (Tz.row Y);replace I:=lh (Tz.row I);replace M:=lh (Tz.row M);replace L:=lh (Tz.row L);replace HQ:=lh (HQ.q Tz);replace E:Hid (w.heap.size+1+1+1+1+1<wr.heap.size):=lh (l6 E.out Tz.size);have hmm:=HM.out;obtain ⟨k0,k1,k2,k3,k4,k5,k6,k7⟩:=bJ Y;by_cases QH:q<=a1
    ·obtain ⟨s0,s1,s2⟩:=ag Z
     obtain ⟨p0,p1,p2⟩:=ag Tj;have HEx:=lh (HEn.out wr q HQ);go_wp2_with fail;clear s0 s1 s2 p0 p1 p2 k0 k1 k2 k3 k4 k5 k6 k7;refine HEx.mono ?_;rintro e w8 ⟨D,hm⟩;have hz8:=D.size;have Wo:=lh hz8;replace Z:=lh (D.row Z);replace Tj:=lh (D.row Tj);replace Y:=lh (D.row Y);replace I:=lh (D.row I);replace M:=lh (D.row M);replace L:=lh (D.row L);replace HQ:=lh (HQ.q D);have HQe:=lh D;clear D hz8 HEx;cases TN:cy src prev key q a2 with
     | some k =>
      rw [TN] at hm;obtain rfl:=hm;have Hk0:Hid ((k == 0)=false):=lh (by rw [A5];exact Ek TN);have HEr:Hid (FE=.error k):=lh (by rw [HEq.out,show (a1+1-q).toNat=((a1-q).toNat+1) by omega];exact np TN);clear TN;obtain ⟨D,N,J,F,-⟩:=kp w8 (.cells #[(),d8] 31) (.cells #[(),(),d8] 24) (.cells #[k,d8] 39);have F4:=lh D;clear D hmm;go_upto_region 9 with (fail)
      generalize hW9:World.alloc (World.alloc (World.alloc w8 _) _) _=W9 at *
      clear hW9;replace Z:=lh (F4.row Z);replace Tj:=lh (F4.row Tj);replace Y:=lh (F4.row Y);replace I:=lh (F4.row I);replace M:=lh (F4.row M);replace L:=lh (F4.row L);replace HQ:=lh (HQ.q F4);obtain ⟨BV,hBV⟩:=bu w8.heap.size
      rw [<- hBV] at N J F |-
      replace E:Hid (w.heap.size+1+1+1+1+1<BV):=lh (l6 E.out Wo.out);clear hBV;obtain ⟨e0,e1,-⟩:=aL F;go_wp2_with fail;clear e0 e1;refine (cZ _ _ _).mono ?_;rintro e VQ ⟨rfl,D⟩;rw [Hk0.out];replace Z:=lh (D.row Z);replace Tj:=lh (D.row Tj);replace Y:=lh (D.row Y);replace I:=lh (D.row I);replace M:=lh (D.row M);replace L:=lh (D.row L);replace N:=lh (D.row N);replace J:=lh (D.row J);replace F:=lh (D.row F);replace HQ:=lh (HQ.q D);have Sr:=lh (F4.q D);clear D F4;go_wp2_with fail;refine Tf (S:=(fun wz=>wz.heap[BV]?=some (.cells #[(),d8] 31)/\wz.heap[BV+1]?=some (.cells #[(),(),d8] 24)/\wz.heap[BV+1+1]?=some (.cells #[k,d8] 39))) Qc ?_ (fun hHeld=>?_)
      ·exact ⟨N,J.out,F.out⟩
      refine e9 0 60 ⟨rfl,by intro wz Rb;obtain ⟨v0,v1,-⟩:=aL Rb.1;go_simp;try with_reducible rfl⟩ ?_;refine e9 1 61 ⟨rfl,AQ⟩ ?_;refine e9 2 62 ⟨rfl,by intro wz Rb;obtain ⟨v0,v1,-⟩:=aL Rb.2.2;go_simp;try with_reducible rfl⟩ ?_;refine j9 3 fun K hK=>?_
      refine aM (.tmp 10) (.tmp 60) 31 rfl (g:=(w.heap.size+1+1+1)) (c':=#[(),d8]) rfl rfl I (dG _ _) rfl mi (fun O Ro Jbj=>?_);replace Ro:ae [(w.heap.size+1+1+1)] VQ O:=lZZ Ro
      have r01:=Ro.rowAt M Qi;have r02:=Ro.rowAt L Qi;have sa0:=Ro.rowAt N (eW E);have sb0:=Ro.rowAt J (eW E);have sc0:=Ro.rowAt F (eW E);refine ko hK ⟨sa0,sb0,sc0⟩ fun hHeld=>?_;clear hK K
      refine j9 4 fun K hK=>?_
      refine aM (.tmp 11) (.tmp 61) 24 rfl (g:=(w.heap.size+1+1+1+1)) (c':=#[(),(),d8]) rfl rfl r01 (di _ _ _) rfl mi (fun V Rp Jbk=>?_);replace Rp:ae [(w.heap.size+1+1+1+1)] O V:=lZZ Rp
      have r10:=Rp.rowAt Jbj Qi;have r12:=Rp.rowAt r02 Qi;have sa1:=Rp.rowAt sa0 (eW E);have sb1:=Rp.rowAt sb0 (eW E);have sc1:=Rp.rowAt sc0 (eW E);refine ko hK ⟨sa1,sb1,sc1⟩ fun hHeld=>?_;clear hK K
      refine j9 5 fun K hK=>?_
      refine aM (.tmp 12) (.tmp 62) 39 rfl (g:=(w.heap.size+1+1+1+1+1)) (c':=#[k,d8]) rfl rfl r12 (dh _ _) rfl mi (fun wy2 Rq Jbl=>?_);replace Rq:ae [(w.heap.size+1+1+1+1+1)] V wy2:=lZZ Rq
      have r20:=Rq.rowAt r10 Qi;have r21:=Rq.rowAt Jbk Qi;have sa2:=Rq.rowAt sa1 (eW E);have sb2:=Rq.rowAt sb1 (eW E);have sc2:=Rq.rowAt sc1 (eW E);refine ko hK ⟨sa2,sb2,sc2⟩ fun hHeld=>?_;clear hK K
      refine Wn Qc ?_ _;go_wp2_with fail;have Rx:ae [] w _:=((HQ.trans Ro (U:=[]) Qb (fun g hg hl=>Qd)).trans Rp (U:=[]) Qb (fun g hg hl=>Qd)).trans Rq (U:=[]) Qb (fun g hg hl=>Qd);have R0:=r20;have R1:=r21;have R2:=Jbl;refine TV (fQ results17 _ _ (w.heap.size+1+1+1) (w.heap.size+1+1+1+1) (w.heap.size+1+1+1+1+1) _ _ _ _ _ _ _ _ _ _ _ _ rfl rfl rfl R0 R1 R2 underlying31 rfl (dG _ _) underlying24 rfl (di _ _ _) underlying39 rfl (dh _ _)) rfl (QF.out _ _ ?_);rw [HEr.out];exact ⟨Rx,rfl⟩
     | none =>
      have HWs:Hid (w.heap.size<=wr.heap.size/\wr.heap.size<=w8.heap.size/\w.heap.size+1+1+1+1+1<wr.heap.size):=lh ⟨by have:=E.out;omega,Wo.out,E.out⟩;rw [TN] at hm;obtain ⟨dv,fv,rfl,hd,hf⟩:=hm;obtain ⟨d4,c4,rfl,-⟩:=hd.open;obtain ⟨f4,fc,rfl,-⟩:=hf.open;have HD:=lh hd;have HF:=lh hf;have XH:=lh TN;have HNl:Hid ((bP src prev key q a2.toNat).data.length<=65000):=vM TN;obtain ⟨NL,hNL⟩:=bu ((bP src prev key q a2.toNat).data.length)
      obtain ⟨NP,hNP⟩:=bu ((dJ src prev key q a2.toNat).1.pix.length)
      obtain ⟨KD,hKD⟩:=bu ((bP src prev key q a2.toNat).kind)
      have HNL:=lh hNL;have HKD:=lh hKD;rw [<- hNL] at HNl;rw [<- hNL,<- hNP,<- hKD];rw [<- hNL] at HD;rw [<- hNP] at HF;clear hNL hNP hKD hd hf TN;obtain ⟨D,N,J,F,-⟩:=kp w8 (.cells #[KD,.slice d4 NL c4] 31) (.cells #[src.W,src.H,.slice f4 NP fc] 24) (.cells #[(),d8] 39);have F4:=lh D;clear D hmm;go_upto_region 9 with (fail)
      generalize hW9:World.alloc (World.alloc (World.alloc w8 _) _) _=W9 at *
      clear hW9;replace Z:=lh (F4.row Z);replace Tj:=lh (F4.row Tj);replace Y:=lh (F4.row Y);replace I:=lh (F4.row I);replace M:=lh (F4.row M);replace L:=lh (F4.row L);replace HQ:=lh (HQ.q F4);obtain ⟨BV,hBV⟩:=bu w8.heap.size
      rw [<- hBV] at N J F |-
      replace E:Hid (w.heap.size+1+1+1+1+1<BV):=lh (l6 E.out Wo.out);clear hBV;obtain ⟨e0,e1,-⟩:=aL F;go_wp2_with fail;clear e0 e1;refine (cZ _ _ _).mono ?_;rintro e VQ ⟨rfl,D⟩;rw [show ((0:Int) == 0)=true from rfl];replace Z:=lh (D.row Z);replace Tj:=lh (D.row Tj);replace Y:=lh (D.row Y);replace I:=lh (D.row I);replace M:=lh (D.row M);replace L:=lh (D.row L);replace N:=lh (D.row N);replace J:=lh (D.row J);replace F:=lh (D.row F);replace HQ:=lh (HQ.q D);have Sr:=lh (F4.q D);clear D F4;replace HD:=lh (HD.quiet Sr);replace HF:=lh (HF.quiet Sr);have HZs:=lh Sr.size;have hnl:(NL:Int)<=65000:=dT HNl
      obtain ⟨v0,v1,-⟩:=aL N;by_cases JEv:8+(NL:Int)<=most
      ·have HEr:Hid (FE=.ok ((bP src prev key q a2.toNat),(dJ src prev key q a2.toNat).1)):=lh (by rw [HEq.out,show (a1+1-q).toNat=((a1-q).toNat+1) by omega];exact pC XH (by rw [<- HNL.out];omega))
       go_wp2_with fail;clear hnl;clear v0 v1;refine Tf (S:=(fun wz=>wz.heap[BV]?=some (.cells #[KD,.slice d4 NL c4] 31)/\wz.heap[BV+1]?=some (.cells #[src.W,src.H,.slice f4 NP fc] 24)/\wz.heap[BV+1+1]?=some (.cells #[(),d8] 39))) Qc ?_ (fun hHeld=>?_)
       ·exact ⟨N,J.out,F.out⟩
       refine e9 0 60 ⟨rfl,by intro wz Rb;obtain ⟨v0,v1,-⟩:=aL Rb.1;go_simp;try with_reducible rfl⟩ ?_;refine e9 1 61 ⟨rfl,AQ⟩ ?_;refine e9 2 62 ⟨rfl,by intro wz Rb;obtain ⟨v0,v1,-⟩:=aL Rb.2.2;go_simp;try with_reducible rfl⟩ ?_;refine j9 3 fun K hK=>?_
       refine aM (.tmp 10) (.tmp 60) 31 rfl (g:=(w.heap.size+1+1+1)) (c':=#[KD,.slice d4 NL c4]) rfl rfl I (dG _ _) rfl mi (fun O Ro Jbj=>?_);replace Ro:ae [(w.heap.size+1+1+1)] VQ O:=lZZ Ro
       have r01:=Ro.rowAt M Qi;have r02:=Ro.rowAt L Qi;have sa0:=Ro.rowAt N (eW E);have sb0:=Ro.rowAt J (eW E);have sc0:=Ro.rowAt F (eW E);refine ko hK ⟨sa0,sb0,sc0⟩ fun hHeld=>?_;clear hK K
       refine j9 4 fun K hK=>?_
       refine aM (.tmp 11) (.tmp 61) 24 rfl (g:=(w.heap.size+1+1+1+1)) (c':=#[src.W,src.H,.slice f4 NP fc]) rfl rfl r01 (di _ _ _) rfl mi (fun V Rp Jbk=>?_);replace Rp:ae [(w.heap.size+1+1+1+1)] O V:=lZZ Rp
       have r10:=Rp.rowAt Jbj Qi;have r12:=Rp.rowAt r02 Qi;have sa1:=Rp.rowAt sa0 (eW E);have sb1:=Rp.rowAt sb0 (eW E);have sc1:=Rp.rowAt sc0 (eW E);refine ko hK ⟨sa1,sb1,sc1⟩ fun hHeld=>?_;clear hK K
       refine j9 5 fun K hK=>?_
       refine aM (.tmp 12) (.tmp 62) 39 rfl (g:=(w.heap.size+1+1+1+1+1)) (c':=#[(),d8]) rfl rfl r12 (dh _ _) rfl mi (fun wy2 Rq Jbl=>?_);replace Rq:ae [(w.heap.size+1+1+1+1+1)] V wy2:=lZZ Rq
       have r20:=Rq.rowAt r10 Qi;have r21:=Rq.rowAt Jbk Qi;have sa2:=Rq.rowAt sa1 (eW E);have sb2:=Rq.rowAt sb1 (eW E);have sc2:=Rq.rowAt sc1 (eW E);refine ko hK ⟨sa2,sb2,sc2⟩ fun hHeld=>?_;clear hK K
       refine Wn Qc ?_ _;go_wp2_with fail;have Rx:ae [] w _:=((HQ.trans Ro (U:=[]) Qb (fun g hg hl=>Qd)).trans Rp (U:=[]) Qb (fun g hg hl=>Qd)).trans Rq (U:=[]) Qb (fun g hg hl=>Qd);have R0:=r20;have R1:=r21;have R2:=Jbl;refine TV (fQ results17 _ _ (w.heap.size+1+1+1) (w.heap.size+1+1+1+1) (w.heap.size+1+1+1+1+1) _ _ _ _ _ _ _ _ _ _ _ _ rfl rfl rfl R0 R1 R2 underlying31 rfl (dG _ _) underlying24 rfl (di _ _ _) underlying39 rfl (dh _ _)) rfl (QF.out _ _ ?_);rw [HEr.out];have hzx:=E.out;have hzr:=Wo.out;have hzs:=HZs.out;have Zg:=Ro.size;have JpE:=Rp.size;have JpF:=Rq.size;have hw:=HWs.out;refine ⟨Rx,.slice d4 NL c4,.slice f4 NP fc,by rw [HKD.out,(sN src prev key q a2.toNat).1,(sN src prev key q a2.toNat).2],?_,?_⟩
       ·exact (((HD.only Ro (fun g hg=>by rw [i5] at hg;left;omega)).only Rp (fun g hg=>by rw [i5] at hg;left;omega)).only Rq (fun g hg=>by rw [i5] at hg;left;omega)).mono Qa Qa
       ·exact (((HF.only Ro (fun g hg=>by rw [i5] at hg;left;omega)).only Rp (fun g hg=>by rw [i5] at hg;left;omega)).only Rq (fun g hg=>by rw [i5] at hg;left;omega)).mono Qa Qa
      ·have hmm:=HM.out
       have HNx:Hid (FE=gN src prev key a2 most (a1+1-(q+1)).toNat (q+1)):=lh (by rw [HEq.out,show (a1+1-q).toNat=((a1+1-(q+1)).toNat+1) by omega];exact jG XH (by rw [<- HNL.out];omega));have hqq:IntKind.i64.wrap (q+1)=q+1:=Qe;go_wp2_with fail;exact ⟨⟨q+1,Qa,Qa,by first | rfl | rw [hqq],HNx,lh (fun _=>⟨q,XH.out⟩),lh ((Tz.q HQe).q Sr)⟩,by simp only [intOf];omega⟩
    ·obtain rfl:q=a1+1:=Qa
     obtain ⟨p,hp⟩:=YD.out Qa;have hc:=eN hp;have SN:=hc.1;have HMt:=lh hc.2.1;have HX:Hid (FE=.ok (if key then (⟨4,[]⟩,ed src.W src.H 128) else (⟨3,[]⟩,prev))):=lh (by rw [HEq.out,show (a1+1-(a1+1)).toNat=0 by omega];rfl);clear hc hp YD HEq HEn;obtain ⟨s0,s1,s2⟩:=ag Z;cases key with
     | true =>
      have hn:jJ src.W src.H 128=true:=iP.2 ⟨⟨SN.w0,SN.w1,SN.w8⟩,⟨SN.h0,SN.h1,SN.h8⟩,Ql,Ql⟩;have HNw:=lh ((zZ src.W src.H 128 wr).mono (R':=fun e w'=>ae [] wr w'/\∃ g cap,e=.returned (.tuple #[.agg #[src.W,src.H,.slice (some ⟨g,0,none⟩) (ed src.W src.H 128).pix.length cap],.agg #[(),d8]])/\f9 .i64 3 wr.heap.size w' (.slice (some ⟨g,0,none⟩) (ed src.W src.H 128).pix.length cap) (ed src.W src.H 128).pix) (fun e w' h=>by unfold qX at h;rw [hn] at h;exact h));have HF1:Hid ((ed src.W src.H 128).W=src.W/\(ed src.W src.H 128).H=src.H):=lh ⟨rfl,rfl⟩;have HEr:Hid (FE=.ok (⟨4,[]⟩,ed src.W src.H 128)):=lh HX;clear hn SN HX HMt;generalize ed src.W src.H 128=F0 at *
      obtain ⟨NL,hNL⟩:=bu F0.pix.length
      rw [<- hNL] at HNw;clear hNL;go_wp2_with fail;clear s0 s1 s2 k0 k1 k2 k3 k4 k5 k6 k7;refine HNw.mono ?_;rintro e w8 ⟨D,g0,TA,rfl,QL⟩;have HIf:=lh QL.ints;have Wo:=lh D.size;replace Z:=lh (D.row Z);replace Tj:=lh (D.row Tj);replace Y:=lh (D.row Y);replace I:=lh (D.row I);replace M:=lh (D.row M);replace L:=lh (D.row L);replace HQ:=lh (HQ.q D);clear D QL HNw;obtain ⟨f1,f2,f3,f4,f5,f6⟩:=xN w8 #[(),(),d8] #[src.W,src.H,.slice g0 NL TA] 24 #[(),d8] #[(),d8] 39;have F1:=lh f1;have F2:=lh f2;have F3:=lh f3;have J:=lh f4;have F:=lh f5;clear f1 f2 f3 f4 f5 f6;go_upto_region 13 with (first
       | (refine am rfl (.tmp 17) (.tmp 70) 24 rfl rfl rfl F1 (di _ _ _) rfl mi ?_)
       | (refine am rfl (.tmp 18) (.tmp 71) 39 rfl rfl rfl F2 (dh _ _) rfl mi ?_)
       | fail)
      generalize hW9:World.setRow (World.setRow _ _ _) _ _=W9 at *
      clear hW9 F1 F2;replace Z:=lh (F3.row Z);replace Tj:=lh (F3.row Tj);replace Y:=lh (F3.row Y);replace I:=lh (F3.row I);replace M:=lh (F3.row M);replace L:=lh (F3.row L);replace HQ:=lh (HQ.q F3);replace HIf:=lh (HIf.quiet F3);have HZs:=lh F3.size;clear F3;obtain ⟨BV,hBV⟩:=bu w8.heap.size
      rw [<- hBV] at J F |-
      have hzx:=E.out;have YG:Hid (w.heap.size+1+1+1+1+1<wr.heap.size):=E;replace E:Hid (w.heap.size+1+1+1+1+1<BV):=lh (j0 Wo.out);clear hBV hzx;refine Tf (S:=(fun wz=>wz.heap[BV]?=some (.cells #[src.W,src.H,.slice g0 NL TA] 24)/\wz.heap[BV+1]?=some (.cells #[(),d8] 39))) Qc ?_ (fun hHeld=>?_)
      ·exact ⟨J,F.out⟩
      refine e9 0 72 ⟨rfl,by intro wz Rb;go_simp;try with_reducible rfl⟩ ?_;refine e9 1 73 ⟨rfl,by intro wz Rb;obtain ⟨v0,v1,v2⟩:=ag Rb.1;go_simp;try with_reducible rfl⟩ ?_;refine e9 2 74 ⟨rfl,by intro wz Rb;obtain ⟨v0,v1,-⟩:=aL Rb.2;go_simp;try with_reducible rfl⟩ ?_;refine j9 3 fun K hK=>?_
      refine aM (.tmp 10) (.tmp 72) 31 rfl (g:=(w.heap.size+1+1+1)) (c':=#[.int .i64 4,d8]) rfl rfl I (dG _ _) rfl mi (fun O Ro Jbj=>?_);replace Ro:ae [(w.heap.size+1+1+1)] W9 O:=lZZ Ro
      have r01:=Ro.rowAt M Qi;have r02:=Ro.rowAt L Qi;have sa0:=Ro.rowAt J (eW E);have sb0:=Ro.rowAt F (eW E);refine ko hK ⟨sa0,sb0⟩ fun hHeld=>?_;clear hK K
      refine j9 4 fun K hK=>?_
      refine aM (.tmp 11) (.tmp 73) 24 rfl (g:=(w.heap.size+1+1+1+1)) (c':=#[src.W,src.H,.slice g0 NL TA]) rfl rfl r01 (di _ _ _) rfl mi (fun V Rp Jbk=>?_);replace Rp:ae [(w.heap.size+1+1+1+1)] O V:=lZZ Rp
      have r10:=Rp.rowAt Jbj Qi;have r12:=Rp.rowAt r02 Qi;have sa1:=Rp.rowAt sa0 (eW E);have sb1:=Rp.rowAt sb0 (eW E);refine ko hK ⟨sa1,sb1⟩ fun hHeld=>?_;clear hK K
      refine j9 5 fun K hK=>?_
      refine aM (.tmp 12) (.tmp 74) 39 rfl (g:=(w.heap.size+1+1+1+1+1)) (c':=#[(),d8]) rfl rfl r12 (dh _ _) rfl mi (fun wy2 Rq Jbl=>?_);replace Rq:ae [(w.heap.size+1+1+1+1+1)] V wy2:=lZZ Rq
      have r20:=Rq.rowAt r10 Qi;have r21:=Rq.rowAt Jbk Qi;have sa2:=Rq.rowAt sa1 (eW E);have sb2:=Rq.rowAt sb1 (eW E);refine ko hK ⟨sa2,sb2⟩ fun hHeld=>?_;clear hK K
      refine Wn Qc ?_ _;go_wp2_with fail;have Rx:ae [] w _:=((HQ.trans Ro (U:=[]) Qb (fun g hg hl=>Qd)).trans Rp (U:=[]) Qb (fun g hg hl=>Qd)).trans Rq (U:=[]) Qb (fun g hg hl=>Qd);have R0:=r20;have R1:=r21;have R2:=Jbl;refine TV (fQ results17 _ _ (w.heap.size+1+1+1) (w.heap.size+1+1+1+1) (w.heap.size+1+1+1+1+1) _ _ _ _ _ _ _ _ _ _ _ _ rfl rfl rfl R0 R1 R2 underlying31 rfl (dG _ _) underlying24 rfl (di _ _ _) underlying39 rfl (dh _ _)) rfl (QF.out _ _ ?_);rw [HEr.out];have Xf:=YG.out;have hzr:=Wo.out;have hzs:=HZs.out;have Zg:=Ro.size;have JpE:=Rp.size;have JpF:=Rq.size;refine ⟨Rx,.slice none 0 0,.slice g0 NL TA,by rw [HF1.1,HF1.2],aj.nil _ _ _ _,?_⟩;exact EZ
     | false =>
      have hpf:=(iO (HMt.out rfl)).1;have WF:prev.pix.length<=1000000000:=by have h1:(prev.pix.length:Int)=prev.W*prev.H:=hpf.len;have h2:prev.W*prev.H<=32*32:=A3 hpf.w1 hpf.h1 (j0 hpf.h0) Qa;omega
      have HEr:Hid (FE=.ok (⟨3,[]⟩,prev)):=lh HX;have Jrr:=lh (HCp.out wr HQ WF);clear hpf WF SN HX HMt;obtain ⟨p0,p1,p2⟩:=ag Tj;go_wp2_with fail;clear s0 s1 s2 p0 p1 p2 k0 k1 k2 k3 k4 k5 k6 k7;refine Jrr.mono ?_;rintro e w8 ⟨v8,rfl,QL,D⟩;have QS:=QL.ints;obtain ⟨pa8,pc8,rfl,-⟩:=QS.open;have HIf:=lh QS;obtain ⟨NP8,hNP⟩:=bu prev.pix.length
      rw [<- hNP] at HIf |-
      have Wo:=lh D.size;replace I:=lh (D.row I);replace M:=lh (D.row M);replace L:=lh (D.row L);replace HQ:=lh (HQ.q D);clear D QL QS Jrr HCp hNP Z Tj Y;have UH:=ae.setRow (S:=[w.heap.size+1+1+1]) (ae.refl _ w8) (g:=w.heap.size+1+1+1) (fun _=>Qb) #[.int .i64 3,d8];have Su:=lh (UH.rowAt M Qi);have QI:=ae.setRow (S:=[w.heap.size+1+1+1+1]) (ae.refl _ (w8.setRow (w.heap.size+1+1+1) #[.int .i64 3,d8])) (g:=w.heap.size+1+1+1+1) (fun _=>Qb) #[prev.W,prev.H,.slice pa8 NP8 pc8];have Te:=lh (QI.rowAt (UH.rowAt L Qi) Qi);have QN:=ae.setRow (S:=[w.heap.size+1+1+1+1+1]) (ae.refl _ ((w8.setRow (w.heap.size+1+1+1) #[.int .i64 3,d8]).setRow (w.heap.size+1+1+1+1) #[prev.W,prev.H,.slice pa8 NP8 pc8])) (g:=w.heap.size+1+1+1+1+1) (fun _=>Qb) #[(),d8];have HT0:=lh (QN.rowAt (QI.rowAt (m7 w8 (w.heap.size+1+1+1) _ #[.int .i64 3,d8] _ _ I) Qi) Qi);have HT1:=lh (QN.rowAt (m7 (w8.setRow (w.heap.size+1+1+1) #[.int .i64 3,d8]) (w.heap.size+1+1+1+1) _ #[prev.W,prev.H,.slice pa8 NP8 pc8] _ _ Su) Qi);have HT2:=lh (m7 ((w8.setRow (w.heap.size+1+1+1) #[.int .i64 3,d8]).setRow (w.heap.size+1+1+1+1) #[prev.W,prev.H,.slice pa8 NP8 pc8]) (w.heap.size+1+1+1+1+1) _ #[(),d8] _ _ Te);have QW:=lh (VL UH (VL QI QN));clear UH QI QN
      go_wp2_with (first
       | (refine am rfl (.tmp 10) (.tmp 75) 31 rfl rfl rfl I (dG _ _) rfl mi ?_)
       | (refine am rfl (.tmp 11) (.tmp 77) 24 rfl rfl rfl Su (di _ _ _) rfl mi ?_)
       | (refine am rfl (.tmp 12) (.tmp 78) 39 rfl rfl rfl Te (dh _ _) rfl mi ?_)
       | fail)
      obtain ⟨Ro,Rp,Rq⟩:=QW.out;have Rx:ae [] w _:=((HQ.trans Ro (U:=[]) Qb (fun g hg hl=>Qd)).trans Rp (U:=[]) Qb (fun g hg hl=>Qd)).trans Rq (U:=[]) Qb (fun g hg hl=>Qd);have R0:=HT0.out;have R1:=HT1.out;have R2:=HT2.out;refine TV (fQ results17 _ _ (w.heap.size+1+1+1) (w.heap.size+1+1+1+1) (w.heap.size+1+1+1+1+1) _ _ _ _ _ _ _ _ _ _ _ _ rfl rfl rfl R0 R1 R2 underlying31 rfl (dG _ _) underlying24 rfl (di _ _ _) underlying39 rfl (dh _ _)) rfl (QF.out _ _ ?_);rw [HEr.out];have Xf:=E.out;have hzr:=Wo.out;have Zg:=Ro.size;have JpE:=Rp.size;have JpF:=Rq.size;refine ⟨Rx,.slice none 0 0,.slice pa8 NP8 pc8,rfl,aj.nil _ _ _ _,?_⟩;exact EZ
end
def Gb (src prev:ah) (key:Bool) (c:j3) (most:Int):Option Int:=match kG src prev key c most with
 | .error k=>some k
 | .ok _=>none
theorem Mj (src prev:ah) (key:Bool) (c:j3) (most:Int):sU src prev key c most=iL (Gb src prev key c most):=by
 unfold sU Gb;cases kG src prev key c most <;> rfl
theorem Gx {lo hi lo' hi':Nat} {sv pv:Value} {src prev:ah} {w:World} (key:Bool) (c:j3) (most:Int) (O:aj .i64 lo hi w sv src.pix) (N:aj .i64 lo' hi' w pv prev.pix) (M:hi<=w.heap.size) (E:hi'<=w.heap.size) :
  Calls prog 17 #[.agg #[src.W,src.H,sv],.agg #[prev.W,prev.H,pv],.bool key,c.v,most] w (Me (mH src prev key c most) (lq src prev key c most) (.agg #[.int .i64 ((Gb src prev key c most).getD 0),d8]) w):=by
 refine (JO key c most O N M E).mono ?_;rintro e w' ⟨J,D⟩;unfold mH lq Gb;cases h:kG src prev key c most with
 | error k =>
  rw [h] at D;exact ⟨J,none,0,none,0,D,aj.nil _ _ _ _,aj.nil _ _ _ _⟩
 | ok x =>
  rw [h] at D;obtain ⟨Y,Z,rfl,F,I⟩:=D;obtain ⟨d,n,rfl,-⟩:=F.open;obtain ⟨L,V,rfl,-⟩:=I.open;exact ⟨J,d,n,L,V,rfl,F,I⟩
theorem FP {o:Option Int} (D:∀ c,o=some c->c≠0) {W:World} (hE:po W):Calls prog 13 #[iL o,.agg #[.int .i64 (o.getD 0),d8]] W fun e w'=>e=.returned (.bool true)/\ae [] W w':=by
 cases o with
 | some c=>exact ur (v:=.iface 36 (.int .i64 c)) (sv:=.slice none 0 0) (o:=some ⟨[],c⟩) (c:=c) (p:=[]) (w:=W) (lo:=0) (hi:=0) (lo':=0) (hi':=0) (eK.code 0 0 W c) (PX _) hE Qb (cf.nil _ _ _ _) (by have:=D c rfl;simp [this]) rfl rfl
 | none=>exact ur (v:=.nilIface) (sv:=.slice none 0 0) (o:=none) (c:=0) (p:=[]) (w:=W) (lo:=0) (hi:=0) (lo':=0) (hi':=0) rfl (PX _) hE Qb (cf.nil _ _ _ _) rfl rfl rfl
end Go.Proofs.YthcafdfdglfabaaGreatDoor
