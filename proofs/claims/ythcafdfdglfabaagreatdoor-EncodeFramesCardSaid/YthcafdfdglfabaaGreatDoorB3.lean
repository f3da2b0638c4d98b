/- Joined texts: EEnQ, DRkA, DRkP, DRkPk, DRkEn, CfgM, EFitC, DRkFi, EKQ. Conditions: each part names its own. -/
import Derived.Test.YthcafdfdglfabaaGreatDoorF1
import Derived.Test.YthcafdfdglfabaaGreatDoorF2
import Derived.Test.YthcafdfdglfabaaGreatDoorA8
import Derived.Test.YthcafdfdglfabaaGreatDoorA9
namespace Go.Proofs.YthcafdfdglfabaaGreatDoor
open Go.RowKit
set_option linter.unusedVariables false
set_option linter.unusedSimpArgs false
set_option maxRecDepth 100000
set_option maxHeartbeats 16000000
def yX (lo hi:Nat) (w:World) (dv:Value) (D:List Int) (fv:Value) (P:List Int):Prop:=ah .u8 lo hi w dv D/\ah .i64 lo hi w fv P
theorem yX.only {lo hi:Nat} {w w':World} {dv fv:Value} {D P:List Int} {S:List Nat} (h:yX lo hi w dv D fv P) (o:ae S w w') (hS:∀ g∈S,g<lo\/hi<=g):yX lo hi w' dv D fv P:=⟨h.1.only o hS,h.2.only o hS⟩
theorem yX.quiet {lo hi:Nat} {w w':World} {dv fv:Value} {D P:List Int} (h:yX lo hi w dv D fv P) (o:ae [] w w'):yX lo hi w' dv D fv P:=h.only o Mg
def IU (c:kH) (f:ai) (v:Value) (w:World) (e:Ending) (w':World):Prop :=
 ae [] w w'/\∃ d n f0 n0,e=.returned (.tuple #[.agg #[c.kind,.slice d c.data.length n],.agg #[f.W,f.H,.slice f0 f.pix.length n0],v])/\yX w.heap.size w'.heap.size w' (.slice d c.data.length n) c.data (.slice f0 f.pix.length n0) f.pix
def Ai (src prev:ai) (key:Bool) (qp reach:Int):kH:=match bP src prev key qp reach with
 | some _=>⟨0,[]⟩
 | none=>bT src prev key qp reach.toNat
def Ah (src prev:ai) (key:Bool) (qp reach:Int):ai:=match bP src prev key qp reach with
 | some _=>dQ
 | none=>(cG src prev key qp reach.toNat).1
theorem uV {src prev:ai} {key:Bool} {qp reach:Int} (h:bP src prev key qp reach=none):Ai src prev key qp reach=bT src prev key qp reach.toNat/\Ah src prev key qp reach=(cG src prev key qp reach.toNat).1:=by
 unfold Ai Ah;rw [h];exact ⟨rfl,rfl⟩
theorem uW {src prev:ai} {key:Bool} {qp reach k:Int} (h:bP src prev key qp reach=some k):Ai src prev key qp reach=⟨0,[]⟩/\Ah src prev key qp reach=dQ:=by
 unfold Ai Ah;rw [h];exact ⟨rfl,rfl⟩
theorem nH {src prev:ai} {key:Bool} {qp reach:Int} (h:bP src prev key qp reach=none):FrOk (cG src prev key qp reach.toNat).1/\(cG src prev key qp reach.toNat).1.W=src.W/\(cG src prev key qp reach.toNat).1.H=src.H:=by
 obtain ⟨Pb,Zr,QH,MP,RQ,Pz⟩:=fK h;have hpe:=wJ (q:=qp.toNat) (reach:=reach.toNat) Pb (fun h=>jE (Zr h)) Mf Mf;rw [Int.toNat_of_nonneg QH] at hpe;exact ⟨hpe.1,hpe.2.1,hpe.2.2.1⟩
theorem wK {lo hi lo' hi':Nat} {sv pv:Value} {src prev:ai} {w:World} (key:Bool) (qp reach:Int) (hs:ah .i64 lo hi w sv src.pix) (hp:ah .i64 lo' hi' w pv prev.pix) (hh:hi<=w.heap.size) (UZ:hi'<=w.heap.size) :
  Calls Tryz.prog 9 #[.agg #[src.W,src.H,sv],.agg #[prev.W,prev.H,pv],.bool key,qp,reach] w (IU (Ai src prev key qp reach) (Ah src prev key qp reach) (mG (bP src prev key qp reach)) w):=by
 refine (jV key qp reach hs hp hh UZ).mono ?_;rintro e w' ⟨hq,hm⟩;cases h:bP src prev key qp reach with
 | some k =>
  rw [h] at hm;rw [(uW h).1,(uW h).2];exact ⟨hq,none,0,none,0,hm,ah.nil _ _ _ _,ah.nil _ _ _ _⟩
 | none =>
  rw [h] at hm;obtain ⟨dv,fv,rfl,hd,hf⟩:=hm;rw [(uV h).1,(uV h).2];obtain ⟨d,n,rfl,-⟩:=hd.open;obtain ⟨f0,n0,rfl,-⟩:=hf.open;exact ⟨hq,d,n,f0,n0,by rw [(nH h).2.1,(nH h).2.2];rfl,hd,hf⟩
def EQ (src prev:ai) (key:Bool) (c:Cfg) (most:Int):kH:=match kE src prev key c most with
 | .error _=>⟨0,[]⟩
 | .ok x=>x.1
def EP (src prev:ai) (key:Bool) (c:Cfg) (most:Int):ai:=match kE src prev key c most with
 | .error _=>dQ
 | .ok x=>x.2
def ER (src prev:ai) (key:Bool) (c:Cfg) (most:Int):Value:=match kE src prev key c most with
 | .error k=>mG (some k)
 | .ok _=>mG none
theorem EW {lo hi lo' hi':Nat} {sv pv:Value} {src prev:ai} {w:World} (key:Bool) (c:Cfg) (most:Int) (hs:ah .i64 lo hi w sv src.pix) (hp:ah .i64 lo' hi' w pv prev.pix) (hh:hi<=w.heap.size) (UZ:hi'<=w.heap.size) :
  Calls Tryz.prog 16 #[.agg #[src.W,src.H,sv],.agg #[prev.W,prev.H,pv],.bool key,c.v,most] w (IU (EQ src prev key c most) (EP src prev key c most) (ER src prev key c most) w):=by
 refine (qM key c most hs hp hh UZ).mono ?_;rintro e w' ⟨hq,hm⟩;unfold EQ EP ER;cases h:kE src prev key c most with
 | error k =>
  rw [h] at hm;exact ⟨hq,none,0,none,0,hm,ah.nil _ _ _ _,ah.nil _ _ _ _⟩
 | ok x =>
  rw [h] at hm;obtain ⟨dv,fv,rfl,hd,hf⟩:=hm;obtain ⟨d,n,rfl,-⟩:=hd.open;obtain ⟨f0,n0,rfl,-⟩:=hf.open;exact ⟨hq,d,n,f0,n0,rfl,hd,hf⟩
theorem qW {W:World} {f p:ai} {pv pu:Value} {lo hi lo' hi':Nat} (hp:ah .i64 lo hi W pv f.pix) (hu:ah .i64 lo' hi' W pu p.pix) :
  eJ 0 (max (max hi hi') (W.heap.size+1)) (W.alloc (.cells #[f.W,f.H,pv,p.W,p.H,pu] 24)) (.slice (some ⟨W.heap.size,0,none⟩) 2 2) [f,p]:=by
 have hr:=heap_alloc_new W (.cells #[f.W,f.H,pv,p.W,p.H,pu] 24);refine ⟨fun i j=>if i=0 then (if j=0 then .int .i64 f.W else if j=1 then .int .i64 f.H else pv) else (if j=0 then .int .i64 p.W else if j=1 then .int .i64 p.H else pu),⟨some ⟨W.heap.size,0,none⟩,2,rfl,Lm _,Mo,fun _=>⟨W.heap.size,0,rfl,Mf,Mf,fun i j hi hj=>?_⟩⟩,fun i hi=>?_⟩
 ·have hi0:i=0\/i=1:=by simp at hi;omega
  rw [cell_of_row _ _ _ _ _ _ hr];rcases hi0 with rfl | rfl <;> rcases (by omega:j=0\/j=1\/j=2) with rfl | rfl | rfl <;> rfl
 ·have hi0:i=0\/i=1:=by simp at hi;omega
  rcases hi0 with rfl | rfl
  ·exact ⟨rfl,rfl,(hp.quiet (ae.new W _)).mono Mf Mf⟩
  ·exact ⟨rfl,rfl,(hu.quiet (ae.new W _)).mono Mf Mf⟩
section
theorem rk {lo hi:Nat} {v:Value} {l:List Int} {w:World} (h:ah .i64 lo hi w v l) (N:Nat) (hN:N=16\/N=64) (hl:l.length=N) (Nj:cu l) :
  Calls Tryz.prog 160 #[v,N] w fun e w'=>e=.returned (.agg #[(),JEu])/\ae [] w w':=by
 refine aN fun Q MM=>?_
 have hn:=ae.new w (.cells #[(),JEu] 39);have HW:=lh (bS (-16320) 16320 (h.quiet hn));rw [show aX l (-16320) 16320=true by unfold aX;rw [List.all_eq_true];intro x hx;have:=Nj x hx;simp;omega] at HW;obtain ⟨a,c,rfl,-⟩:=h.open;rw [hl] at HW |-
 have HE:Hid ((w.alloc (.cells #[(),JEu] 39)).heap[w.heap.size]?=some (.cells #[(),JEu] 39 (0,0))):=lh (heap_alloc_new w _);have HO:=lh hn;clear h hl Nj hn;go_enter Tryz.func160,Tryz.ntmps160;go_wp2_with fail;go_at_call 61;refine HW.mono ?_;rintro e w1 ⟨rfl,rfl⟩;go_wp2_with fail;exact bodyPost_ret (results_cell_row Tryz.results160 _ _ w.heap.size _ _ _ _ rfl HE Tryz.underlying39 rfl (aR _ rfl)) rfl (MM.out _ _ ⟨rfl,HO.out⟩)
theorem xl {B:Nat} {w:World} {k mo:Int} {ms:List Int} {vx vy:Int} {lv:Value} {vs:List Value} (h:w.heap[B]?=some (.cells (sqL k mo ms vx vy lv vs).toArray 91 (0,0))) (hm:ms.length=4) (hr:∀ x∈ms,0<=x/\x<=3):ah .i64 B (B+1) w (.slice (some ⟨B,2,none⟩) 4 4) ms:=by
 refine ⟨⟨by rw [Lt,hm],some ⟨B,2,none⟩,4,by rw [hm],by rw [hm];exact Lm _,Mo,fun _=>⟨B,2,rfl,Lm _,Nat.lt_succ_self _,fun j u hu=>?_⟩⟩,fun x hx=>by have:=hr x hx;simp only [InK];omega⟩;have hj:j<4:=by
  rcases Nat.lt_or_ge j 4 with h | h
  ·exact h
  ·rw [List.getElem?_eq_none (by simp [hm];exact h)] at hu;cases hu
 rw [cell_of_row _ _ _ _ _ _ h,gw hm hj,<- hu,LG,Lf Mf,Le,Lf Mf]
 rfl
theorem ve {key:Bool} {s:SqD} {lv:Value} {vs:List Value} {w:World} (hs:gC key s) (NV:s.modes.length=4) (hvl:vs.length=4) :
  Calls Tryz.prog 159 #[.agg (sqL s.kind s.mode s.modes s.vx s.vy lv vs).toArray] w fun e w'=>e=.returned (.bool true)/\ae [] w w':=by
 refine aN fun Q MM=>?_
 obtain ⟨kd,mo,ms,vx,vy,LL,SS⟩:=s;simp only at NV |-
 have XG:kd=0\/kd=1\/kd=2\/kd=3:=by have:=hs.kind;simp only at this;omega
 obtain ⟨CA,Rx⟩:∃ z,z=(sqL (kd:Int) (mo:Int) ms vx vy lv vs).toArray:=⟨_,rfl⟩
 have Oi:Hid (∀ wx:World,wx.heap[w.heap.size]?=some (.cells CA 91 (0,0))->wx.heap[w.heap.size]?=some (.cells (sqL kd mo ms vx vy lv vs).toArray 91 (0,0))):=lh (fun wx h=>by rw [Rx] at h;exact h);have HI:=lh (dY (k:=(kd:Int)) (mo:=(mo:Int)) (vx:=vx) (vy:=vy) (lv:=lv) NV hvl);rw [<- Rx] at HI |-
 clear Rx;have HB:Hid ((w.alloc (.cells CA 91)).heap[w.heap.size]?=some (.cells CA 91 (0,0))):=lh (heap_alloc_new w _);have HQ:=lh (ae.new w (.cells CA 91));have HS:=lh hs;have PA:=lh NV;have hr:=Oi.out _ HB;have b0:(w.alloc (.cells CA 91)).cell? ⟨w.heap.size,0,none⟩=some (.int .i64 (kd:Int)):=by rw [cell_of_row _ _ _ _ _ _ hr];rfl
 have b1:(w.alloc (.cells CA 91)).cell? ⟨w.heap.size,1,none⟩=some (.int .i64 (mo:Int)):=by rw [cell_of_row _ _ _ _ _ _ hr];rfl
 have b6:(w.alloc (.cells CA 91)).cell? ⟨w.heap.size,6,none⟩=some (.int .i64 vx):=by rw [cell_of_row _ _ _ _ _ _ hr];obtain ⟨a,b,c,d,rfl⟩:=gH NV;rfl
 have b7:(w.alloc (.cells CA 91)).cell? ⟨w.heap.size,7,none⟩=some (.int .i64 vy):=by rw [cell_of_row _ _ _ _ _ _ hr];obtain ⟨a,b,c,d,rfl⟩:=gH NV;rfl
 clear hs NV hvl hr;rcases XG with rfl | rfl | rfl | rfl
 ·clear b1 b6 b7
  go_enter Tryz.func159,Tryz.ntmps159;go_wp2_with fail;exact MM.out _ _ ⟨rfl,HQ.out⟩
 ·obtain ⟨vx0,vx1,vy0,vy1⟩:=HS.vec rfl
  simp only at vx0 vx1 vy0 vy1;have Na:=lh (HQ.q (ae.new (w.alloc (.cells CA 91)) (.cells #[vx,vy] 73)));have HV:Hid (((w.alloc (.cells CA 91)).alloc (.cells #[vx,vy] 73)).heap[w.heap.size+1]?=some (.cells #[vx,vy] 73 (0,0))):=lh (ak Mg);obtain ⟨c0,c1,-⟩:=aJ HV;clear b1;go_enter Tryz.func159,Tryz.ntmps159;go_wp2_with fail;exact MM.out _ _ ⟨rfl,Na.out⟩
 ·have hm:=HS.mode rfl
  simp only at hm;have hm0:(0:Int)<=(mo:Int):=Mf;have hm3:(mo:Int)<=3:=Mf;clear b6 b7;go_enter Tryz.func159,Tryz.ntmps159;go_wp2_with fail;exact MM.out _ _ ⟨rfl,HQ.out⟩
 ·obtain ⟨-,-,QU,-⟩:=HS.small rfl
  simp only at QU;have HC:=lh (bS 0 3 (xl (Oi.out _ HB) PA QU));rw [show aX ms 0 3=true by unfold aX;rw [List.all_eq_true];intro x hx;have:=QU x hx;simp;omega] at HC;clear b1 b6 b7 QU;go_enter Tryz.func159,Tryz.ntmps159;go_wp2_with fail;go_at_call 61;refine HC.mono ?_;rintro e w1 ⟨rfl,rfl⟩;go_wp2_with fail;exact MM.out _ _ ⟨rfl,HQ.out⟩
theorem GK {p:Prop} (h:p:=by
 clear Qg YQ;go_wp2_with fail;exact bodyPost_ret (results_cell_row Tryz.results101 _ _ (w.heap.size+1) _ _ _ _ rfl HEz Tryz.underlying39 rfl (aR _ rfl)) rfl (MM.out _ _ ⟨rfl,HQz.out⟩)):p:=h
theorem GJ {p:Prop} (h:p:=by
 have hlg:=HS.large Mg;simp only at hlg;have b8:w3.cell? ⟨w.heap.size,8,none⟩=some lv:=by rw [cell_of_row _ _ _ _ _ _ (Oi.out _ Ss)];exact jL PA
 have Vm:=lh (fun (W:World) (o:ae [] w3 W)=>rk ((PX.large.quiet Nf).quiet o) 64 (.inr rfl) hlg.1 hlg.2);have Vl:=lh hlg.1;clear hlg;obtain ⟨la,lc,WE,-⟩:=PX.large.open;rw [WE] at b8 Vm;clear WE;go_wp2_with fail;go_at_call 160;refine (Vm.out _ (ae.refl _ _)).mono ?_;rintro e w4 ⟨rfl,Ng⟩;have HE4:=lh (Ng.row OG);have NI:=lh (Nf.q Ng);clear Ng b0 b8;obtain ⟨z0,z1,y0,y1,-⟩:=aJ HE4;obtain ⟨Qg,YQ⟩:=aH (x:=.int .i64 0) (y:=.slice none 0 0) HE4;have HEz:=lh Qg;have HQz:=lh (NI.trans YQ (U:=[]) Mg (fun g hg MO=>Mj));exact GK):p:=h
theorem Al {p:Prop} (h:p:=by
 obtain ⟨z0,z1,y0,y1,-⟩:=aJ HEn;obtain ⟨Qg,YQ⟩:=aH (x:=.int .i64 0) (y:=.slice none 0 0) HEn;have HEz:=lh Qg;have HQz:=lh (Oh.trans YQ (U:=[]) Mg (fun g hg MO=>Mj));exact GK):p:=h
theorem xe {key:Bool} {lo hi:Nat} {s:SqD} {lv:Value} {vs:List Value} {w:World} (hs:gC key s) (MX:dU lo hi w lv vs s.large s.small) (NV:s.modes.length=4) :
  Calls Tryz.prog 101 #[.bool key,.agg (sqL s.kind s.mode s.modes s.vx s.vy lv vs).toArray] w fun e w'=>e=.returned (.agg #[(),JEu])/\ae [] w w':=by
 refine aN fun Q MM=>?_
 have HPt:=lh (fun (W:World)=>ve (w:=W) (lv:=lv) hs NV MX.len);obtain ⟨kd,mo,ms,vx,vy,LL,SS⟩:=s;simp only at NV HPt MX |-
 have XG:kd=0\/kd=1\/kd=2\/kd=3:=by have:=hs.kind;simp only at this;omega
 have Un:=hs.key_;simp only at Un;obtain ⟨CA,Rx⟩:∃ z,z=(sqL (kd:Int) (mo:Int) ms vx vy lv vs).toArray:=⟨_,rfl⟩
 have Oi:Hid (∀ wx:World,wx.heap[w.heap.size]?=some (.cells CA 91 (0,0))->wx.heap[w.heap.size]?=some (.cells (sqL kd mo ms vx vy lv vs).toArray 91 (0,0))):=lh (fun wx h=>by rw [Rx] at h;exact h);have HI:=lh (dY (k:=(kd:Int)) (mo:=(mo:Int)) (vx:=vx) (vy:=vy) (lv:=lv) NV MX.len);rw [<- Rx] at HPt HI |-
 clear Rx;have NY:=lh Tryz.underlying91;have HB:Hid (((w.alloc (.cells CA 91)).alloc (.cells #[(),JEu] 39)).heap[w.heap.size]?=some (.cells CA 91 (0,0))):=lh ((ae.new _ _).row (heap_alloc_new w _));have HE:Hid (((w.alloc (.cells CA 91)).alloc (.cells #[(),JEu] 39)).heap[w.heap.size+1]?=some (.cells #[(),JEu] 39 (0,0))):=lh (ak Mg);have HQ:Hid (ae [] w ((w.alloc (.cells CA 91)).alloc (.cells #[(),JEu] 39))):=lh ((ae.new w _).alloc _);have HS:=lh hs;have PA:=lh NV;have PX:=lh MX;have b0:((w.alloc (.cells CA 91)).alloc (.cells #[(),JEu] 39)).cell? ⟨w.heap.size,0,none⟩=some (.int .i64 (kd:Int)):=by rw [cell_of_row _ _ _ _ _ _ (Oi.out _ HB)];rfl
 clear hs MX NV;have QS:key=true->kd=2\/kd=3:=fun h=>by have:=Un h;omega
 clear Un;rcases XG with rfl | rfl | rfl | rfl
 ·cases key with
  | true=>exact absurd (QS rfl) Mn
  | false =>
   clear QS;go_enter Tryz.func101,Tryz.ntmps101
   go_wp2_with (first | (refine az rfl (.tmp 3) 91 rfl rfl HB NY rfl HI ?_) | fail)
   go_at_call 159;refine (HPt.out _).mono ?_;rintro e w3 ⟨rfl,Nb⟩;have Nf:=lh (HQ.q Nb);have Ss:=lh (Nb.row HB);have OG:=lh (Nb.row HE);clear Nb b0 HPt;have b0:w3.cell? ⟨w.heap.size,0,none⟩=some (.int .i64 ((0:Nat):Int)):=by rw [cell_of_row _ _ _ _ _ _ (Oi.out _ Ss)];rfl
   go_wp2_with fail;go_loopw [5,6] (fun i _ wr=>∃ n:Nat,n<=4/\i=.int .i64 n/\Hid (ae [] w3 wr)) (fun i _ _=>4-(intOf i).toNat)
   case atStart=>exact ⟨0,Mf,rfl,lh (ae.refl _ _)⟩
   case round =>
    obtain ⟨n,hn,rfl,MW⟩:=hrel;have b0:=MW.cell b0 Mg;have HEn:=lh (MW.row OG);have Oh:=lh (Nf.q MW);by_cases MO:n<4
    ·have Ny:(n:Int)<4:=Mf
     exact Al
    ·have Ny:¬ (n:Int)<4:=Mf
     exact Al
 ·cases key with
  | true=>exact absurd (QS rfl) Mn
  | false =>
   clear QS;go_enter Tryz.func101,Tryz.ntmps101
   go_wp2_with (first | (refine az rfl (.tmp 3) 91 rfl rfl HB NY rfl HI ?_) | fail)
   go_at_call 159;refine (HPt.out _).mono ?_;rintro e w3 ⟨rfl,Nb⟩;have Nf:=lh (HQ.q Nb);have Ss:=lh (Nb.row HB);have OG:=lh (Nb.row HE);clear Nb b0 HPt;have b0:w3.cell? ⟨w.heap.size,0,none⟩=some (.int .i64 ((1:Nat):Int)):=by rw [cell_of_row _ _ _ _ _ _ (Oi.out _ Ss)];rfl
   exact GJ
 ·clear QS
  cases key
  all_goals
   go_enter Tryz.func101,Tryz.ntmps101
   go_wp2_with (first | (refine az rfl (.tmp 3) 91 rfl rfl HB NY rfl HI ?_) | fail)
   go_at_call 159;refine (HPt.out _).mono ?_;rintro e w3 ⟨rfl,Nb⟩;have Nf:=lh (HQ.q Nb);have Ss:=lh (Nb.row HB);have OG:=lh (Nb.row HE);clear Nb b0 HPt;have b0:w3.cell? ⟨w.heap.size,0,none⟩=some (.int .i64 ((2:Nat):Int)):=by rw [cell_of_row _ _ _ _ _ _ (Oi.out _ Ss)];rfl
   exact GJ
 ·clear QS
  cases key
  all_goals
   go_enter Tryz.func101,Tryz.ntmps101
   go_wp2_with (first | (refine az rfl (.tmp 3) 91 rfl rfl HB NY rfl HI ?_) | fail)
   go_at_call 159;refine (HPt.out _).mono ?_;rintro e w3 ⟨rfl,Nb⟩;have Nf:=lh (HQ.q Nb);have Ss:=lh (Nb.row HB);have OG:=lh (Nb.row HE);clear Nb b0 HPt;have b0:w3.cell? ⟨w.heap.size,0,none⟩=some (.int .i64 ((3:Nat):Int)):=by rw [cell_of_row _ _ _ _ _ _ (Oi.out _ Ss)];rfl
   obtain ⟨-,Uo,-,RS⟩:=HS.small rfl;simp only at Uo RS;have HSm:=lh (And.intro Uo RS);clear Uo RS;go_wp2_with fail;go_loopw [5,6] (fun i _ wr=>∃ n:Nat,n<=4/\i=.int .i64 n/\Hid (ae [] w3 wr)) (fun i _ _=>4-(intOf i).toNat)
   case atStart=>exact ⟨0,Mf,rfl,lh (ae.refl _ _)⟩
   case round =>
    obtain ⟨n,hn,rfl,MW⟩:=hrel;have b0:=MW.cell b0 Mg;have HEn:=lh (MW.row OG);have Oh:=lh (Nf.q MW);by_cases MO:n<4
    ·have Ny:(n:Int)<4:=Mf
     have NU:(0:Int)<=(n:Int):=Mf;have hr:=Oi.out _ (MW.row Ss);have e2:wr.cell? ⟨w.heap.size,9+n,none⟩=some (vs.getD n aj):=by rw [cell_of_row _ _ _ _ _ _ hr];exact dy PA PX.len MO
     have hli:SS.getD n []∈SS:=by rw [Le,Lf (by rw [HSm.1];exact MO)];exact LM _
     have WE:=HSm.2 _ hli;have i1:=(PX.small n MO).quiet Oh;obtain ⟨x1,z1,Rg,-⟩:=(PX.small n MO).open;rw [Rg] at e2 i1;have Vm:=lh (rk i1 16 (.inl rfl) WE.1 WE.2);clear hr hli i1 Rg WE;generalize (SS.getD n []).length=sl at *
     go_wp2_with fail;go_at_call 160;refine Vm.mono ?_;rintro e w4 ⟨rfl,Ng⟩;have Tj:=ae.new w4 (.cells #[(),JEu] 39);have HV5:Hid ((w4.alloc (.cells #[(),JEu] 39)).heap[w4.heap.size]?=some (.cells #[(),JEu] 39 (0,0))):=lh (heap_alloc_new w4 _);have Nz:=lh ((MW.q Ng).q Tj);clear Ng Tj e2 b0;obtain ⟨e0,e1,-⟩:=aJ HV5;go_wp2_with fail;clear e0 e1;go_at_call 37;refine (cK _ _ _).mono ?_;rintro e w6 ⟨rfl,Ob⟩;have OI:=lh (Nz.q Ob);clear Ob;rw [show ((0:Int) == 0)=true from rfl];go_wp2_with fail;exact ⟨⟨n+1,Mf,Mm,OI⟩,Mk⟩
    ·obtain rfl:n=4:=Mf
     have Ny:¬ ((4:Nat):Int)<4:=Mf;exact Al
end
theorem Js {p:Prop} (h:p:=by intro wz OP;rw [sR (.tmp 10) 91 (hr:=OP.1) (hu:=Tryz.underlying91) (hi:=Tx.out)] <;> rfl):p:=h
section
variable {base R E:Nat} {F:List Nat} {w:World} {m:Wrt} {n:Nat}
theorem rz {side lo' hi':Nat} (hs:side=4\/side=8) {lv:Value} {l:List Int} (h:(bi base R E).At F w m) (hl:ah .i64 lo' hi' w lv l) (MR:l.length=side*side) (Nj:cu l) (hF:∀ x∈F,x<lo'\/hi'<=x) (hw:hi'<=w.heap.size) (ok:WOk n m) (hn:n<=600000000) :
  Calls Tryz.prog 105 #[.pointer (some ⟨R,0,none⟩),lv] w fun e w'=>∃ g cap F',e=.returned (.tuple #[.slice (some ⟨g,0,none⟩) (side*side) cap,.agg #[(),JEu]])/\(bi base R E).At F' w' (aT wrC side l m).2/\bw F w F' w':=by
 have hv:(aT (bi base R E).C side l m).1=.ok l:=iK hs MR Nj m;have go:∀ e w',ks (bi base R E) F w (aT (bi base R E).C side l m) e w'->∃ g cap F',e=.returned (.tuple #[.slice (some ⟨g,0,none⟩) (side*side) cap,.agg #[(),JEu]])/\(bi base R E).At F' w' (aT wrC side l m).2/\bw F w F' w':=by
  intro e w' h;unfold ks at h;rw [hv] at h;obtain ⟨F',h1,h2,v',rfl,h3,-⟩:=h;obtain ⟨g,cap,rfl,-,-⟩:=h3.form (by rw [MR];rcases hs with rfl | rfl <;> omega);rw [MR];exact ⟨g,cap,F',rfl,h1,h2⟩
 rcases hs with rfl | rfl
 ·exact (zE (bi base R E) h hl MR Nj hF hw ok Mf).mono go
 ·exact (zF (bi base R E) h hl MR Nj hF hw ok Mf).mono go
theorem rB (h:(bi base R E).At F w m) (v:Int) (ok:WOk n m) (hn:n<=600000000) :
  Calls Tryz.prog 103 #[.pointer (some ⟨R,0,none⟩),v] w fun e w'=>e=.returned (.int .i64 (bR wrC v m).1)/\∃ F',(bi base R E).At F' w' (bR wrC v m).2/\bw F w F' w':=Dk (bi base R E) h v ok Mf
theorem rA (h:(bi base R E).At F w m) (v:Int) (ok:WOk n m) (hn:n<=600000000) :
  Calls Tryz.prog 104 #[.pointer (some ⟨R,0,none⟩),v] w fun e w'=>e=.returned (.int .i64 ((bN wrC v m).1:Int))/\∃ F',(bi base R E).At F' w' (bN wrC v m).2/\bw F w F' w':=Dj (bi base R E) h v ok Mf
structure KSt (base R E:Nat) (F:List Nat) (w:World) (CA:Array Value) (lo hi O:Nat) (lv:Value) (vs:List Value) (L:List Int) (S:List (List Int)) (kd:Nat) (Fx:List Nat) (wx:World) (sx:Wrt):Prop where
 at_:(bi base R E).At Fx wx sx
 went:bw F w Fx wx
 ask:wx.heap[w.heap.size]?=some (.cells CA 91 (0,0))
 r1:wx.heap[w.heap.size+1]?=some (.cells #[(),(),(),(),(),(),(),(),JEu,JEu,JEu,JEu,JEu] 91 (0,0))
 r2:wx.heap[w.heap.size+1+1]?=some (.cells #[(),JEu] 39 (0,0))
 row:∃ C:Array Value,wx.heap[O]?=some (.cells C 91 (0,0))/\C.size=13/\C.all (·.oneCell')=true/\C[0]?=some (.int .i64 kd)
 err:wx.heap[O+1]?=some (.cells #[(),JEu] 39 (0,0))
 ins:dU lo hi wx lv vs L S
 sz:hi<=w.heap.size/\w.heap.size+2<O/\base<=w.heap.size
 ap:∀ x∈Fx,(x∈F/\x<w.heap.size)\/(w.heap.size+2<x/\x≠O/\x≠O+1)
 apF:∀ x∈F,x<lo\/hi<=x
section
variable {CA:Array Value} {lo hi O:Nat} {lv:Value} {vs:List Value} {L:List Int} {S:List (List Int)} {kd:Nat} {Fx F':List Nat} {wx w':World} {sx s':Wrt}
theorem KSt.lt (h:KSt base R E F w CA lo hi O lv vs L S kd Fx wx sx):O+1<wx.heap.size:=(Array.getElem?_eq_some_iff.1 h.err).1
theorem KSt.apart (h:KSt base R E F w CA lo hi O lv vs L S kd Fx wx sx):∀ x∈Fx,x<lo\/hi<=x:=fun x hx=>by
 rcases h.ap x hx with e | e
 ·exact h.apF x e.1
 ·have:=h.sz;right;omega
theorem KSt.size (h:KSt base R E F w CA lo hi O lv vs L S kd Fx wx sx):hi<=wx.heap.size:=by have:=h.sz;have:=h.lt;omega
theorem KSt.step (h:KSt base R E F w CA lo hi O lv vs L S kd Fx wx sx) (a:(bi base R E).At F' w' s') (g:bw Fx wx F' w'):KSt base R E F w CA lo hi O lv vs L S kd F' w' s':=by
 have hs:=h.sz;have ha:=h.ap;have hl:=h.lt;have no:∀ b,b=w.heap.size\/b=w.heap.size+1\/b=w.heap.size+2\/b=O\/b=O+1->b∉Fx:=fun b h1 hx=>by rcases ha b hx with e | e <;> omega
 obtain ⟨C,c1,c2⟩:=h.row;refine ⟨a,h.went.trans g,g.1.rowAt h.ask (no _ Mf),g.1.rowAt h.r1 (no _ Mf),g.1.rowAt h.r2 (no _ Mf),⟨C,g.1.rowAt c1 (no _ Mf),c2⟩,g.1.rowAt h.err (no _ Mf),h.ins.only g.1 h.apart,hs,fun x hx=>?_,h.apF⟩;rcases g.2 x hx with e | e
 ·exact ha x e
 ·right;omega
theorem KSt.only (h:KSt base R E F w CA lo hi O lv vs L S kd Fx wx sx) {U:List Nat} (g:ae U wx w') (hU:∀ x∈U,x=O\/x=O+1) (hr:∃ C:Array Value,w'.heap[O]?=some (.cells C 91 (0,0))/\C.size=13/\C.all (·.oneCell')=true/\C[0]?=some (.int .i64 kd)) (he:w'.heap[O+1]?=some (.cells #[(),JEu] 39 (0,0))):KSt base R E F w CA lo hi O lv vs L S kd Fx w' sx:=by
 have hs:=h.sz;have no:∀ b,b<O->b∉U:=fun b h1 hx=>by rcases hU b hx with e | e <;> omega
 refine ⟨(bi base R E).only h.at_ g (fun x hx=>⟨by show base<=x;rcases hU x hx with e | e <;> omega,fun hf=>by rcases h.ap x hf with e | e <;> rcases hU x hx with e2 | e2 <;> omega⟩),⟨h.went.1.trans g (fun x hx _=>hx) (fun x hx hl=>by rcases hU x hx with e | e <;> omega),h.went.2⟩,g.rowAt h.ask (no _ Mf),g.rowAt h.r1 (no _ Mf),g.rowAt h.r2 (no _ Mf),hr,he,h.ins.only g (fun x hx=>by right;rcases hU x hx with e | e <;> omega),hs,h.ap,h.apF⟩
theorem KSt.quiet (h:KSt base R E F w CA lo hi O lv vs L S kd Fx wx sx) (g:ae [] wx w'):KSt base R E F w CA lo hi O lv vs L S kd Fx w' sx:=by
 obtain ⟨C,c1,c2⟩:=h.row;exact h.only g Mg ⟨C,g.row c1,c2⟩ (g.row h.err)
theorem KSt.store (h:KSt base R E F w CA lo hi O lv vs L S kd Fx wx sx) {i:Nat} (h1:1<=i) (YG:i<13) {v:Value} (hv:v.oneCell'=true):KSt base R E F w CA lo hi O lv vs L S kd Fx (wx.setCell ⟨O,i,none⟩ v) sx/\(∃ u,wx.cell? ⟨O,i,none⟩=some u)/\wx.frozen? ⟨O,i,none⟩=false:=by
 obtain ⟨C,c1,c2,c3,c4⟩:=h.row;have ho:ae [O] wx (wx.setCell ⟨O,i,none⟩ v):=(ae.refl _ _).setCell Mg _;refine ⟨h.only ho (fun x hx=>.inl (mSg.1 hx)) ⟨_,heap_setCell_same wx O i _ _ v c1,by simpa using c2,?_,?_⟩ (ho.rowAt h.err Mg),⟨C[i]'Mf,by rw [cell_of_row _ _ _ _ _ _ c1,Array.getElem?_eq_getElem Mf]⟩,frozen_of_row _ _ _ _ _ c1⟩
 ·rw [Array.all_eq_true] at c3 |-
  intro j hj;rw [Array.getElem_setIfInBounds]
  split
  ·exact hv
  ·exact c3 j (by simpa using hj)
 ·rw [Array.getElem?_setIfInBounds_ne Mf];exact c4
theorem KSt.estore (h:KSt base R E F w CA lo hi O lv vs L S kd Fx wx sx):KSt base R E F w CA lo hi O lv vs L S kd Fx ((wx.setCell ⟨O+1,0,none⟩ (.int .i64 0)).setCell ⟨O+1,1,none⟩ (.slice none 0 0)) sx:=by
 obtain ⟨a,b⟩:=aH (x:=.int .i64 0) (y:=.slice none 0 0) h.err;obtain ⟨C,c1,c2⟩:=h.row;exact h.only b (fun x hx=>.inr (mSg.1 hx)) ⟨C,b.rowAt c1 Mg,c2⟩ a
theorem KSt.kcell (h:KSt base R E F w CA lo hi O lv vs L S kd Fx wx sx):wx.cell? ⟨O,0,none⟩=some (.int .i64 kd):=by
 obtain ⟨C,c1,c2,c3,c4⟩:=h.row;rw [cell_of_row _ _ _ _ _ _ c1,c4]
end
theorem sR {P:Program} {w:World} {o:Oper} {ev:Operand->Value} (x:Operand) (t:TypeId) (ho:o.op=.load t x) {g:Nat} {c:Array Value} {ty:TypeId} {fr:Nat×Nat} {d:TypeDesc} (hx:ev x=.pointer (some ⟨g,0,none⟩)) (hr:w.heap[g]?=some (.cells c ty fr)) (hu:P.underlying t=some d)
  (hd:(match d with | .struct _ | .array _ _=>true | _=>false)=true) (hi:(P.info? t).map (·.size)=some c.size):(execOp ev o).run P w=.ok (Next.value (.agg c)) w:=by
 unfold execOp;simp only [ho,hx,Instr.loadAt,Instr.sureAddr,Sem.run_bind,Sem.run_pure,Result.andThen_ok,run_loadVar_row w g ty t c fr d hr hu hd hi]
theorem GV {p:Prop} (h:p:=by
 have HKe:=HKk;clear HKk;obtain ⟨e0,e1,-⟩:=aJ HKe.err;go_wp2_with fail;go_at_call 37;refine (cK _ _ _).mono ?_;rintro e w7 ⟨rfl,Tl⟩;rw [show ((0:Int) == 0)=true from rfl];have ZF:=lh (HKe.quiet Tl);clear Tl e0 e1 k0;obtain ⟨CC,hC,hCs,hC1,-⟩:=ZF.row;have HC:=lh hC;have HE7:=lh ZF.err;have Tx:Hid ((Tryz.prog.info? 91).map (·.size)=some CC.size):=lh (by rw [hCs];kernel_rfl);have Vy:=lh hC1;have JsE:Hid ((#[(),(),(),(),(),(),(),(),JEu,JEu,JEu,JEu,JEu]:Array Value).size=CC.size):=lh hCs.symm;clear hC hCs hC1;go_wp2_with fail;refine wp_region_held_drew (S:=(fun wz=>wz.heap[O]?=some (.cells CC 91 (0,0))/\wz.heap[O+1]?=some (.cells #[(),JEu] 39 (0,0)))) Mh ?_ (fun hHeld=>?_)
 ·exact ⟨HC,HE7.out⟩
 refine tkw 0 125 ⟨rfl,Js⟩ ?_;refine tkw 1 126 ⟨rfl,by intro wz OP;obtain ⟨e0,e1,-⟩:=aJ OP.2;go_simp;try with_reducible rfl⟩ ?_;refine rdy (rdn 2 (fun K hK=>?_) .nil);refine aL (.tmp 6) (.tmp 125) 91 rfl (g:=w.heap.size+1) (c':=CC) rfl rfl ZF.r1 Tx JsE Vy (fun w8 RZ hr8=>?_);replace RZ:ae [w.heap.size+1] w7 w8:=by first | exact RZ | exact ((ae.refl [] w7).drew.mono (U:=[w.heap.size+1]) Mg).trans RZ (fun g h _=>h) (fun g h _=>h)
 have YT:=ZF.sz;have h8O:=RZ.rowAt HC Ml;have h8E:=RZ.rowAt HE7 Ml;have h8r:=RZ.rowAt ZF.r2 Ml;refine hK.out _ _ ?_ (fun hHeld=>?_)
 ·exact ⟨h8O,h8E⟩
 clear hK K;refine rdy (rdn 3 (fun K hK=>?_) .nil);refine aL (.tmp 7) (.tmp 126) 39 rfl (g:=w.heap.size+1+1) (c':=#[(),JEu]) rfl rfl h8r (aR _ rfl) rfl (by first | kernel_rfl | simp [Value.oneCell']) (fun w9 Rm hr9=>?_);replace Rm:ae [w.heap.size+1+1] w8 w9:=by first | exact Rm | exact ((ae.refl [] w8).drew.mono (U:=[w.heap.size+1+1]) Mg).trans Rm (fun g h _=>h) (fun g h _=>h)
 have h9O:=Rm.rowAt h8O Ml;have h9E:=Rm.rowAt h8E Ml;have h9q:=Rm.rowAt hr8 Ml;refine hK.out _ _ ?_ (fun hHeld=>?_)
 ·exact ⟨h9O,h9E⟩
 clear hK K;refine wpAnyH_done Mh ?_ _;go_wp2_with fail;refine bodyPost_ret (dg Tryz.results41 _ _ (w.heap.size+1) (w.heap.size+1+1) _ _ _ _ _ _ _ _ rfl rfl h9q hr9 Tryz.underlying91 rfl Tx Tryz.underlying39 rfl (aR _ rfl)) rfl (MM.out _ _ ⟨⟨_,rfl⟩,?_⟩);rw [Rq.out];have hap:=ZF.ap;have a8:=(bi base R E).only (S:=[w.heap.size+1]) ZF.at_ RZ (fun x hx=>by rw [mSg] at hx;subst hx;exact ⟨by show base<=_;omega,fun hf=>by rcases hap _ hf with e | e <;> omega⟩);have a9:=(bi base R E).only (S:=[w.heap.size+1+1]) a8 Rm (fun x hx=>by rw [mSg] at hx;subst hx;exact ⟨by show base<=_;omega,fun hf=>by rcases hap _ hf with e | e <;> omega⟩);exact ⟨_,a9,⟨(ZF.went.1.trans RZ (fun x hx _=>hx) (fun x hx hl=>Mr)).trans Rm (fun x hx _=>hx) (fun x hx hl=>Mr),ZF.went.2⟩⟩):p:=h
theorem FI {lo hi:Nat} {key:Bool} {s:SqD} {lv:Value} {vs:List Value} (hA:(bi base R E).At F w m) (hs:gC key s) (MX:dU lo hi w lv vs s.large s.small) (NV:s.modes.length=4) (hF:∀ x∈F,x<lo\/hi<=x) (hw:hi<=w.heap.size) (ok:WOk n m) (hn:n<=90000000) :
  Calls Tryz.prog 41 #[.pointer (some ⟨R,0,none⟩),.bool key,.agg (sqL s.kind s.mode s.modes s.vx s.vy lv vs).toArray] w fun e w'=>((∃ v,e=.returned v)/\∃ F',(bi base R E).At F' w' (di wrC key (df s) m).2/\bw F w F' w'):=by
 refine aN fun Q MM=>?_
 have Tm:=uA hs m;rw [Tm] at MM;clear Tm;have hkv:=lG (key:=key) (k:=(s.kind:Int)) Mf (by have:=hs.kind;omega) (fun e=>by have:=hs.key_ e;omega) m;have PR:=lh (yQ key (s.kind:Int) ok);have Tt:=lh (fun (W:World) (o:ae [] w W)=>xe hs (MX.only o Mg) NV);have HS:=lh hs;have PA:=lh NV;have PX:=lh MX;have HFa:=lh hF;have Qu:=lh (show ∀ x∈F,x<w.heap.size from fun x hx=>(bi base R E).lt hA x hx);have HN:=lh (And.intro hw ((bi base R E).base_le hA:base<=w.heap.size));have HI:=lh (dY (k:=(s.kind:Int)) (mo:=(s.mode:Int)) (vx:=s.vx) (vy:=s.vy) (lv:=lv) NV MX.len);have Nc:=lh ok;have Hn:=lh hn;obtain ⟨kd,hkd⟩:∃ z,z=s.kind:=⟨_,rfl⟩
 have HKd:=lh hkd;rw [<- hkd] at MM hkv PR;obtain ⟨CA,Rx⟩:∃ z,z=(sqL (s.kind:Int) (s.mode:Int) s.modes s.vx s.vy lv vs).toArray:=⟨_,rfl⟩
 have Oi:Hid (∀ wx:World,wx.heap[w.heap.size]?=some (.cells CA 91 (0,0))->wx.heap[w.heap.size]?=some (.cells (sqL (s.kind:Int) (s.mode:Int) s.modes s.vx s.vy lv vs).toArray 91 (0,0))):=lh (fun wx h=>by rw [Rx] at h;exact h);have OY:Hid (∀ wx:World,wx.heap[w.heap.size]?=some (.cells CA 91 (0,0))->wx.cell? ⟨w.heap.size,0,none⟩=some (.int .i64 kd)):=lh (fun wx h=>by rw [cell_of_row _ _ _ _ _ _ (Oi.out wx h),hkd];rfl);rw [<- Rx] at Tt HI |-
 clear Rx hkd;have NY:=lh Tryz.underlying91;obtain ⟨MP,Yl,Nq,Px,Hz⟩:=gD w (.cells CA 91) (.cells #[(),(),(),(),(),(),(),(),JEu,JEu,JEu,JEu,JEu] 91) (.cells #[(),JEu] 39);have c0:=(bi base R E).cell ((bi base R E).quiet hA MP);rw [show (bi base R E).reads=false from rfl] at c0;have Od:=lh ((bi base R E).quiet hA MP);have MT:=lh MP;clear hA hs MX NV hF hw ok hn MP;go_enter Tryz.func41,Tryz.ntmps41;go_upto_region 1 with (fail)
 generalize NB:World.alloc (World.alloc (World.alloc w _) _) _=W1 at *
 clear NB
 go_wp2_with (first | (refine az rfl (.tmp 5) 91 rfl rfl Yl NY rfl HI ?_) | fail)
 go_at_call 101;refine (Tt.out _ MT).mono ?_;rintro e w4 ⟨rfl,Ng⟩;have Tj:=ae.new w4 (.cells #[(),JEu] 39);have HV5:Hid ((w4.alloc (.cells #[(),JEu] 39)).heap[w4.heap.size]?=some (.cells #[(),JEu] 39 (0,0))):=lh (heap_alloc_new w4 _);have Nz:=lh (Ng.q Tj);clear Ng Tj c0 Tt;obtain ⟨e0,e1,-⟩:=aJ HV5;go_wp2_with fail;clear e0 e1;go_at_call 37;refine (cK _ _ _).mono ?_;rintro e w6 ⟨rfl,Ob⟩;have OI:=lh (Nz.q Ob);clear Ob HV5 Nz;rw [show ((0:Int) == 0)=true from rfl];have b0:=OY.out _ (OI.row Yl);have HKn:=lh (wU (bi base R E) ((bi base R E).quiet Od OI) key (kd:Int) Nc (by have:=Hn.out;omega));go_wp2_with fail;go_at_call 102;refine HKn.mono ?_;rintro e w3 ⟨rfl,F3,Qd,Zo⟩;simp only at Qd |-
 rw [show ((bK (bi base R E).C key (kd:Int) m).1:Int)=(kd:Int) from hkv];obtain ⟨m1,YL⟩:∃ z,z=(bK wrC key (kd:Int) m).2:=⟨_,rfl⟩
 rw [<- YL] at MM PR;have Hk3:Hid ((bi base R E).At F3 w3 m1):=lh (by rw [YL];exact Qd);have Hg3:=lh (bw.ahead (MT.q OI) Zo);have Hg6:=lh Zo;clear Qd Zo b0 YL hkv HKn Nc;have Vj:=lh (fun (wx:World)=>(by kernel_rfl:(Instr.build 91 #[(0,.int .i64 (kd:Int))]).run Tryz.prog wx=.ok (.agg (sqL (kd:Int) 0 [0,0,0,0] 0 0 aj [aj,aj,aj,aj]).toArray) wx));have HAl:Hid ((w3.alloc (.cells #[(),(),(),(),(),(),(),(),JEu,JEu,JEu,JEu,JEu] 91)).heap[w3.heap.size]?=some (.cells #[(),(),(),(),(),(),(),(),JEu,JEu,JEu,JEu,JEu] 91 (0,0))):=lh (heap_alloc_new w3 _);have RV:=lh (And.intro (dY (k:=kd) (mo:=0) (ms:=[0,0,0,0]) (vx:=0) (vy:=0) (lv:=aj) (vs:=[aj,aj,aj,aj]) rfl rfl) (dO (k:=kd) (mo:=0) (ms:=[0,0,0,0]) (vx:=0) (vy:=0) (lv:=aj) rfl iP))
 rename_i K0 hK0
 try simp only []
 refine hK0 _ _ ?_;clear hK0;refine kq rfl 91 [(0,.tmp 39)] rfl (Vj.out _) ?_;go_upto_region 12 with (first
  | (refine aq rfl (.tmp 10) (.tmp 40) 91 rfl rfl rfl HAl RV.1 rfl RV.2 ?_)
  | fail)
 have hO4:(((w3.alloc (.cells #[(),(),(),(),(),(),(),(),JEu,JEu,JEu,JEu,JEu] 91)).setRow w3.heap.size (sqL (kd:Int) 0 [0,0,0,0] 0 0 aj [aj,aj,aj,aj]).toArray).alloc (.cells #[(),JEu] 39)).heap[w3.heap.size]?=some (.cells (sqL (kd:Int) 0 [0,0,0,0] 0 0 aj [aj,aj,aj,aj]).toArray 91 (0,0)):=(ae.new _ _).rowAt (setRow_heap _ _ _ _ _ _ HAl) Mg;have hE4:(((w3.alloc (.cells #[(),(),(),(),(),(),(),(),JEu,JEu,JEu,JEu,JEu] 91)).setRow w3.heap.size (sqL (kd:Int) 0 [0,0,0,0] 0 0 aj [aj,aj,aj,aj]).toArray).alloc (.cells #[(),JEu] 39)).heap[w3.heap.size+1]?=some (.cells #[(),JEu] 39 (0,0)):=ak (by rw [size_setRow];simp);have JdT:ae [w3.heap.size] w3 (((w3.alloc (.cells #[(),(),(),(),(),(),(),(),JEu,JEu,JEu,JEu,JEu] 91)).setRow w3.heap.size (sqL (kd:Int) 0 [0,0,0,0] 0 0 aj [aj,aj,aj,aj]).toArray).alloc (.cells #[(),JEu] 39)):=(((ae.new w3 _).mono (U:=[w3.heap.size]) Mg).setRow (fun _=>Mg) _).alloc _;have Ng:ae [] w3 _:=JdT.mono (U:=[]) (fun x hx hl=>Mr);have HK4:Hid (KSt base R E F w CA lo hi w3.heap.size lv vs s.large s.small kd F3 (((w3.alloc (.cells #[(),(),(),(),(),(),(),(),JEu,JEu,JEu,JEu,JEu] 91)).setRow w3.heap.size (sqL (kd:Int) 0 [0,0,0,0] 0 0 aj [aj,aj,aj,aj]).toArray).alloc (.cells #[(),JEu] 39)) m1):=lh (by
  have hz1:=Hz.out;have hz6:=OI.size;have hz3:=Hg6.1.size;have hn:=HN.out;have hno:∀ b,w.heap.size<=b->b∉F:=fun b h1 hx=>by have:=Qu.out b hx;omega
  have RQ:=Ng.row (Hg6.1.rowAt (OI.row Yl) (hno _ Mf));have Pz:=Ng.row (Hg6.1.rowAt (OI.row Nq) (hno _ Mf));have Rn:=Ng.row (Hg6.1.rowAt (OI.row Px) (hno _ Mf));refine ⟨(bi base R E).quiet Hk3 Ng,Hg3.q Ng,RQ,Pz,Rn,⟨_,hO4,by rw [List.size_toArray,jM rfl rfl],RV.2,rfl⟩,hE4,(PX.only Hg3.1 HFa).only Ng Mg,⟨hn.1,Mf,hn.2⟩,fun x hx=>?_,HFa.out⟩;rcases Hg6.2 x hx with e | e
  ·exact .inl ⟨e,Qu.out x e⟩
  ·have:=(bi base R E).lt Hk3 x hx
   exact .inr ⟨Mf,Mf,Mf⟩)
 clear hO4 hE4 JdT Ng Vj HAl RV Hk3 Hg3 Hg6 Yl Nq Px Od MT OI Hz HFa Qu PX HN;generalize World.alloc (World.setRow _ _ _) _=W4 at *
 generalize w3.heap.size=O at *
 have k0:=HK4.kcell;go_upto_if 44 with (fail)
 go_cut [] (fun wx=>∃ (Fa:List Nat) (ma:Wrt),Hid (KSt base R E F w CA lo hi O lv vs s.large s.small kd Fa wx ma)/\Hid ((if kd=1 then (bR wrC s.vy (bR wrC s.vx m1).2).2 else m1)=ma)/\Hid (WOk (n+3+32) ma))
 case first =>
  by_cases Pr:kd=1
  ·have Ny:((kd:Int) == 1)=true:=by rw [Pr];rfl
   have Ti:(kd:Int)=1:=Mf;clear k0;have b1:W4.cell? ⟨w.heap.size,6,none⟩=some (.int .i64 s.vx):=by rw [cell_of_row _ _ _ _ _ _ (Oi.out _ HK4.ask)];obtain ⟨a,b,c,d,hl⟩:=gH PA;rw [hl];rfl
   have HM:=lh (rB HK4.at_ s.vx PR (by have:=Hn.out;omega));go_wp2_with fail;go_at_call 103;refine HM.mono ?_;rintro e w5 ⟨rfl,F5,ha5,Zp⟩;obtain ⟨XJ,⟨u5,x5⟩,y5⟩:=(HK4.step ha5 Zp).store (i:=6) Mf Mf (v:=.int .i64 (bR wrC s.vx m1).1) rfl;have ZB:=lh XJ;clear HM ha5 Zp XJ b1;go_upto_region 14 with (fail)
   generalize hW5:World.setCell w5 _ _=W5 at *
   clear hW5 x5 y5;have Jfv:=lh (jQ s.vx PR);have b1:W5.cell? ⟨w.heap.size,7,none⟩=some (.int .i64 s.vy):=by rw [cell_of_row _ _ _ _ _ _ (Oi.out _ ZB.ask)];obtain ⟨a,b,c,d,hl⟩:=gH PA;rw [hl];rfl
   have HM:=lh (rB ZB.at_ s.vy Jfv (by have:=Hn.out;omega));go_wp2_with fail;go_at_call 103;refine HM.mono ?_;rintro e w7 ⟨rfl,F7,ha7,Qm⟩;obtain ⟨hp7,⟨u7,x7⟩,y7⟩:=(ZB.step ha7 Qm).store (i:=7) Mf Mf (v:=.int .i64 (bR wrC s.vy (bR wrC s.vx m1).2).1) rfl;have ZF:=lh hp7;clear HM ha7 Qm hp7 b1;have WO:=lh (jQ s.vy Jfv);go_wp2_with fail;go_meet;exact ⟨F7,_,ZF,lh (if_pos Pr),lh (WO.le Mf)⟩
  ·have Ny:((kd:Int) == 1)=false:=Mp
   have Ti:¬ (kd:Int)=1:=Mf;go_wp2_with fail;go_meet;exact ⟨F3,m1,HK4,lh (if_neg Pr),lh (PR.le Mf)⟩
 case rest =>
  obtain ⟨Fa,ma,HKa,Hma,Jfw⟩:=hcut;obtain ⟨Wa,hWx⟩:∃ z,z=wc:=⟨_,rfl⟩
  subst hWx;clear HK4 k0 PR;have k0:=HKa.kcell;go_upto_if 61 with (fail)
  go_cut [] (fun wx=>∃ (Fb:List Nat) (mb:Wrt),Hid (KSt base R E F w CA lo hi O lv vs s.large s.small kd Fb wx mb)/\Hid ((if kd=2 then (bN wrC s.mode ma).2 else ma)=mb)/\Hid (WOk (n+3+32+2) mb))
  case first =>
   by_cases Pr:kd=2
   ·have Ny:((kd:Int) == 2)=true:=by rw [Pr];rfl
    have Ti:(kd:Int)=2:=Mf;clear k0;have b1:Wa.cell? ⟨w.heap.size,1,none⟩=some (.int .i64 s.mode):=by rw [cell_of_row _ _ _ _ _ _ (Oi.out _ HKa.ask)];rfl
    have HM:=lh (rA HKa.at_ s.mode Jfw (by have:=Hn.out;omega));go_wp2_with fail;go_at_call 104;refine HM.mono ?_;rintro e w5 ⟨rfl,F5,ha5,Zp⟩;obtain ⟨XJ,⟨u5,x5⟩,y5⟩:=(HKa.step ha5 Zp).store (i:=1) Mf Mf (v:=.int .i64 ((bN wrC s.mode ma).1:Int)) rfl;have ZB:=lh XJ;clear HM ha5 Zp XJ b1;have WO:=lh (jP (s.mode:Int) Jfw);go_wp2_with fail;go_meet;exact ⟨F5,_,ZB,lh (if_pos Pr),WO⟩
   ·have Ny:((kd:Int) == 2)=false:=Mp
    have Ti:¬ (kd:Int)=2:=Mf;go_wp2_with fail;go_meet;exact ⟨Fa,ma,HKa,lh (if_neg Pr),lh (Jfw.le Mf)⟩
  case rest =>
   obtain ⟨Fb,mb,Nh,Hmb,Jfx⟩:=hcut;obtain ⟨Wb,hWx⟩:∃ z,z=wc:=⟨_,rfl⟩
   subst hWx;clear HKa k0 Jfw;have k0:=Nh.kcell;go_upto_region 17 with (fail)
   go_cut [74] (fun s74 wx=>∃ t:Bool,s74=.bool t/\Hid (t=true↔(kd=1\/kd=2))/\Wb=wx)
   case first =>
    by_cases h1:kd=1
    ·have Ny:((kd:Int) == 1)=true:=by rw [h1];rfl
     have Ti:(kd:Int)=1:=Mf;go_wp2_with fail;go_meet;exact ⟨true,rfl,lh (by simp [h1]),rfl⟩
    ·have Ny:((kd:Int) == 1)=false:=Mp
     have Ti:¬ (kd:Int)=1:=Mf;by_cases h2:kd=2
     ·have hkj:((kd:Int) == 2)=true:=by rw [h2];rfl
      have Jur:(kd:Int)=2:=Mf;go_wp2_with fail;go_meet;exact ⟨true,rfl,lh (by simp [h2]),rfl⟩
     ·have hkj:((kd:Int) == 2)=false:=Mp
      have Jur:¬ (kd:Int)=2:=Mf;go_wp2_with fail;go_meet;exact ⟨false,rfl,lh (by simp [h1,h2]),rfl⟩
   case rest =>
    obtain ⟨t,rfl,Ht,hwc⟩:=hcut;subst hwc;go_upto_if 74 with (fail)
    go_cut [] (fun wx=>∃ (Fc:List Nat) (mc:Wrt),Hid (KSt base R E F w CA lo hi O lv vs s.large s.small kd Fc wx mc)/\Hid ((if kd=1\/kd=2 then (aT wrC 8 s.large mb).2 else mb)=mc)/\Hid (WOk (n+3+32+2+2753) mc))
    case first =>
     cases t with
     | true =>
      have Pr:=Ht.1 rfl;have HLg:=lh (HS.large (by rw [<- HKd.out];omega));have c8:Wb.cell? ⟨w.heap.size,8,none⟩=some lv:=by rw [cell_of_row _ _ _ _ _ _ (Oi.out _ Nh.ask)];exact jL PA
      have HM:=lh (rz (side:=8) (.inr rfl) Nh.at_ Nh.ins.large HLg.1 HLg.2 Nh.apart Nh.size Jfx (by have:=Hn.out;omega));have WO:=lh (jN (side:=8) (.inr rfl) s.large Jfx);go_wp2_with fail;go_at_call 105;refine HM.mono ?_;rintro e w5 ⟨g5,cp5,F5,rfl,ha5,Zp⟩;have JkC:=Nh.step ha5 Zp;obtain ⟨XJ,⟨u5,x5⟩,y5⟩:=JkC.store (i:=8) Mf Mf (v:=.slice (some ⟨g5,0,none⟩) (8*8) cp5) rfl;have ZB:=lh XJ.estore;obtain ⟨z0,z1,v0,v1,-⟩:=aJ JkC.err;have h88:(8*8:Nat)=64:=rfl;rw [h88] at ZB |-
      clear HM ha5 Zp XJ c8 JkC h88;go_wp2_with fail;go_meet;exact ⟨F5,_,ZB,lh (if_pos Pr),WO⟩
     | false =>
      have Pr:¬ (kd=1\/kd=2):=fun h=>absurd (Ht.2 h) Mn
      go_wp2_with fail;go_meet;exact ⟨Fb,mb,Nh,lh (if_neg Pr),lh (Jfx.le Mf)⟩
    case rest =>
     obtain ⟨Fc,mc,HKc,Hmc,Jsg⟩:=hcut;obtain ⟨Wc,hWx⟩:∃ z,z=wc:=⟨_,rfl⟩
     subst hWx;clear Nh k0 Jfx Ht;have RA:Hid (∀ mz,(kd=3->(bn wrC s.modes s.small 4 [] [] mc).2=mz)->(kd≠3->mc=mz)->(cf wrC (df s) kd m1).2=mz):=lh (fun mz h1 h2=>by
      have a1:=Hma.out;have a2:=Hmb.out;have a3:=Hmc.out;have hk:=HS.kind;rw [<- HKd.out] at hk;rcases (by omega:kd=0\/kd=1\/kd=2\/kd=3) with rfl | rfl | rfl | rfl
      ·rw [if_neg Mn] at a1 a2 a3;rw [<- h2 Mn,<- a3,<- a2,<- a1];rfl
      ·rw [if_neg Mn] at a2;rw [if_pos Mn] at a1 a3;rw [<- h2 Mn,<- a3,<- a2,<- a1];exact tZ (df s) m1
      ·rw [if_neg Mn] at a1;rw [if_pos Mn] at a2 a3;rw [<- h2 Mn,<- a3,<- a2,<- a1];exact ua (df s) m1
      ·rw [if_neg Mn] at a1 a2 a3;rw [<- h1 rfl,<- a3,<- a2,<- a1];exact ub (df s) m1)
     clear Hma Hmb Hmc;go_wp2_with fail;go_loopw [12] (fun i wr=>∃ (k:Nat) (Fk:List Nat) (mk:Wrt),k<=4/\i=.int .i64 k/\Hid (KSt base R E F w CA lo hi O lv vs s.large s.small kd Fk wr mk)/\Hid (WOk (n+2790+691*k) mk)/\Hid ((kd=3/\bn wrC s.modes s.small (4-k) (s.modes.take k) (s.small.take k) mk=bn wrC s.modes s.small 4 [] [] mc)\/(kd≠3/\k=0/\mc=mk))) (fun i _=>4-(intOf i).toNat)
     case atStart =>
      refine ⟨0,Fc,mc,Mf,rfl,HKc,lh (Jsg.le Mf),lh ?_⟩;by_cases h3:kd=3
      ·exact .inl ⟨h3,rfl⟩
      ·exact .inr ⟨h3,rfl,rfl⟩
     case round =>
      obtain ⟨k,Fk,mk,hk,rfl,HKk,WP,JnK⟩:=hrel;have k0:=HKk.kcell;have hrl:=JnK.out;clear JnK;rcases hrl with ⟨h3,hgo⟩ | ⟨h3,rfl,rfl⟩
      ·have Pn:=lh hgo
       have Un:(kd:Int)=3:=Mf;have hkj:((kd:Int) == 3)=true:=by rw [Un];rfl
       clear hgo;by_cases MO:k<4
       ·have Ny:(k:Int)<4:=Mf
        have NU:(0:Int)<=(k:Int):=Mf;have Oq:=lh MO;have Qd:=HKd.out;rw [h3] at Qd;obtain ⟨Juu,Uo,QU,PQ⟩:=HS.small Qd.symm;have Rc:=QU (s.modes.getD k 0) (by have:=PA.out;rw [Le,Lf Mf];exact LM _);have HLk:=lh (PQ (s.small.getD k []) (by rw [Le,Lf Mf];exact LM _));have HMd:=lh (fun w F (h:(bi base R E).At F w mk)=>rA h (s.modes.getD k 0) WP (by have:=Hn.out;omega));have JmL:=lh (jP (s.modes.getD k 0) WP);have Jsf:=lh (jN (side:=4) (.inl rfl) (s.small.getD k []) JmL);have hmv:=nZ Rc.1 Rc.2 mk;have Wt:Hid (bn wrC s.modes s.small (4-k) (s.modes.take k) (s.small.take k) mk=bn wrC s.modes s.small (4-(k+1)) (s.modes.take (k+1)) (s.small.take (k+1)) (aT wrC 4 (s.small.getD k []) (bN wrC (s.modes.getD k 0) mk).2).2):=lh (by
         obtain ⟨k3,Qd⟩:∃ k3,4-k=k3+1:=⟨3-k,Mf⟩
         have l1:(s.modes.take k).length=k:=by have:=PA.out;rw [Lp];omega
         have l2:(s.small.take k).length=k:=Mw;have t1:s.modes.take (k+1)=s.modes.take k ++ [((bN wrC (s.modes.getD k 0) mk).1:Int)]:=by have:=PA.out;rw [List.take_succ_eq_append_getElem Mf,hmv,Le,Lf Mf];rfl
         have t2:s.small.take (k+1)=s.small.take k ++ [s.small.getD k []]:=by rw [List.take_succ_eq_append_getElem Mf,Le,Lf Mf];rfl
         rw [Qd,show 4-(k+1)=k3 by omega,t1,t2];have hcv:=iK (side:=4) (.inl rfl) HLk.1 HLk.2 (bN wrC (s.modes.getD k 0) mk).2;exact mP (C:=wrC) (m:=mk) (mo:=(bN wrC (s.modes.getD k 0) mk).1) (m1:=(bN wrC (s.modes.getD k 0) mk).2) (m2:=(aT wrC 4 (s.small.getD k []) (bN wrC (s.modes.getD k 0) mk).2).2) (by rw [l1]) (by rw [l2];exact Prod.ext hcv rfl))
        have PV:Hid (∀ wx:World,wx.heap[w.heap.size]?=some (.cells CA 91 (0,0))->wx.cell? ⟨w.heap.size,2+k,none⟩=some (.int .i64 (s.modes.getD k 0))):=lh (fun wx h=>by rw [cell_of_row _ _ _ _ _ _ (Oi.out _ h)];exact gw PA Oq);have Og:Hid (∀ wx:World,wx.heap[w.heap.size]?=some (.cells CA 91 (0,0))->wx.cell? ⟨w.heap.size,9+k,none⟩=some (vs.getD k aj)):=lh (fun wx h=>by rw [cell_of_row _ _ _ _ _ _ (Oi.out _ h)];exact dy PA HKk.ins.len Oq);clear hmv Rc Juu Uo QU PQ Qd;generalize s.modes.getD k 0=mg at *
        obtain ⟨vk,hvk⟩:∃ z,z=vs.getD k aj:=⟨_,rfl⟩
        have Hvk:=lh hvk;rw [<- hvk] at Og;clear hvk;obtain ⟨e0,e1,-⟩:=aJ HKk.err;go_wp2_with fail;go_at_call 37;refine (cK _ _ _).mono ?_;rintro e w7 ⟨rfl,Tl⟩;rw [show ((0:Int) == 0)=true from rfl];have ZF:=lh (HKk.quiet Tl);clear Tl e0 e1 k0;have b1:=PV.out _ ZF.ask;go_wp2_with fail;go_at_call 104;refine (HMd.out _ _ ZF.at_).mono ?_;rintro e w5 ⟨rfl,F5,ha5,Zp⟩;obtain ⟨XJ,⟨u5,x5⟩,y5⟩:=(ZF.step ha5 Zp).store (i:=2+k) Mf (by have:=Oq.out;omega) (v:=.int .i64 ((bN wrC mg mk).1:Int)) rfl;have ZB:=lh XJ;clear HMd ha5 Zp XJ b1;go_upto_region 23 with (fail)
        generalize hW5:World.setCell w5 _ _=W5 at *
        clear hW5 x5 y5;have b1:=Og.out _ ZB.ask;have RS:=ZB.ins.small k Oq;rw [<- Hvk.out] at RS;have HM:=lh (rz (side:=4) (.inl rfl) ZB.at_ RS HLk.1 HLk.2 ZB.apart ZB.size JmL (by have:=Hn.out;omega));clear RS;go_wp2_with fail;go_at_call 105;refine HM.mono ?_;rintro e w6 ⟨g6,cp6,F6,rfl,ha6,Xb⟩;have JkD:=ZB.step ha6 Xb;obtain ⟨hp6,⟨u6,x6⟩,y6⟩:=JkD.store (i:=9+k) Mf (by have:=Oq.out;omega) (v:=.slice (some ⟨g6,0,none⟩) (4*4) cp6) rfl;have HK6:=lh hp6.estore;obtain ⟨z0,z1,v0,v1,-⟩:=aJ JkD.err;have h88:(4*4:Nat)=16:=rfl;rw [h88] at HK6 |-
        clear HM ha6 Xb hp6 b1 JkD h88;go_wp2_with fail;refine ⟨⟨k+1,F6,_,Mf,Mm,HK6,lh (Jsf.le Mf),lh (.inl ⟨h3,?_⟩)⟩,Mk⟩;rw [<- Wt.out];exact Pn
       ·obtain rfl:k=4:=Mf
        have Ny:¬ ((4:Nat):Int)<4:=Mf;have Rq:Hid ((cf wrC (df s) kd m1).2=mk):=lh (RA.out mk (fun _=>by rw [<- Pn.out];rfl) (fun h=>absurd h3 h));exact GV
      ·have Ny:((kd:Int) == 3)=false:=Mp
       have Ti:¬ (kd:Int)=3:=Mf;have Rq:Hid ((cf wrC (df s) kd m1).2=mc):=lh (RA.out mc (fun h=>absurd h h3) (fun _=>rfl));exact GV
end
section
theorem xq {lo hi:Nat} {k q:Int} {dv:Value} {D:List Int} {w:World} (h:ah .u8 lo hi w dv D) (hl:D.length<65536) (hk:k=1\/k=2) (hq:0<=q/\q<=15) :
  Calls Tryz.prog 43 #[.agg #[k,q,dv]] w fun e w'=>(∃ v',e=.returned (.tuple #[.agg #[k,v'],.agg #[(),JEu]])/\ah .u8 w.heap.size w'.heap.size w' v' (q :: D)/\ae [] w w'):=by
 refine aN fun Q MM=>?_
 obtain ⟨da,dc,rfl,-⟩:=h.open;obtain ⟨Nb,Yl,Nq,Px,HZ⟩:=gD w (.cells #[k,q,.slice da D.length dc] 103) (.cells #[(),JEu] 31) (.cells #[(),JEu] 39);have Nf:=lh Nb;have HI3:=lh (h.quiet Nb);have hnl:(D.length:Int)<65536:=Mf;have Jux:¬ 65536<=D.length:=Mf;have JBQ:¬ (65536:Int)<=(D.length:Int):=Mf;obtain ⟨q0,q1⟩:=hq;have QH:¬ q<0:=Mf;have MP:¬ 15<q:=Mf;have hqw:IntKind.u8.wrap q=q:=by rw [IntKind.wrap_u8];omega
 have NU:¬ k<1:=Mf;have Pr:¬ 4<k:=Mf;have NK:¬ 2<k:=Mf;have MX:∀ z∈[q],InK .u8 z:=by simp only [mSg,forall_eq,InK];omega
 have Ye:=lh (fun (W:World)=>kW (k:=.u8) (w:=W) (t:=5) (l:=[q]) (vs:=#[.int .u8 q]) rfl Mo MX 1 rfl rfl);obtain ⟨N1,YC⟩:∃ z,z=(q :: D).length:=⟨_,rfl⟩
 have HN1:=lh YC;clear h hl MX YC Nb hk;obtain ⟨a0,a1,a2⟩:=fG Yl;go_enter Tryz.func43,Tryz.ntmps43;go_wp2_with fail;generalize PZ:World.alloc (World.alloc (World.alloc w _) _) _=W3 at *
 clear PZ;have RY:=lh (ae.new W3 (.cells #[.int .u8 q] 5)).drew;refine wp_region_held_drew (S:=(fun w'=>w'.cell? ⟨w.heap.size,0,none⟩=some (.int .i64 k)/\w'.cell? ⟨w.heap.size,1,none⟩=some (.int .i64 q)/\w'.cell? ⟨w.heap.size,2,none⟩=some (.slice da D.length dc))) Mh ?_ (fun hHeld=>?_)
 ·exact ⟨a0,a1,a2⟩
 refine tk 0 58 ?_;refine tk 1 59 ?_;refine tk 2 60 ?_;refine tk 3 61 ?_;refine tk 4 62 ?_;refine tk 6 64 ?_;refine tk 7 65 ?_;refine tk 10 68 ?_;refine rdy (rdc 5 63 (fun K hK=>?_) .nil);go_simp;refine hK.out _ _ ?_ (fun hHeld=>?_)
 ·exact ⟨RY.cell a0 Mg,RY.cell a1 Mg,RY.cell a2 Mg⟩
 clear hK K
 try simp only [Act.put,Lg,Lj,Lk]
 refine rdy (rdc 8 66 (fun K hK=>?_) .nil);refine ce rfl (.tmp 63) (.tmp 65) _ rfl E8 ((Ye.out W3).quiet (ae.refl [] _).drew) rfl (HI3.quiet RY) rfl Mq Mg (fun v1 w1 MN NH=>?_);have MP:ae [] W3 w1:=RY.acc NH (bB.lit (Lm _));obtain ⟨g1,Pc,Rg,OL,-⟩:=MN.form Mg;rw [show ([q] ++ D).length=N1 from HN1.symm] at Rg;subst Rg;have MT:=lh MP;have Oy:=lh MN;have Pz:=MP.row Nq;have Rn:=MP.row Px;obtain ⟨t0,t1,y0,y1,-⟩:=aJ Pz;obtain ⟨MS,Nd⟩:=aH (x:=.int .i64 k) (y:=.slice (some ⟨g1,0,none⟩) N1 Pc) Pz;have Jkx:=Nd.rowAt Rn Mg;obtain ⟨u0,u1,z0,z1,-⟩:=aJ Jkx;obtain ⟨Rf,Qr⟩:=aH (x:=.int .i64 0) (y:=.slice none 0 0) Jkx;have OJ:=lh (Qr.rowAt MS Mg);have Jnh:=lh Rf;have PS:=lh (Nd.trans Qr (U:=[w.heap.size+1,w.heap.size+1+1]) (fun g h _=>by rw [mSg] at h;subst h;simp) (fun g h _=>by rw [mSg] at h;subst h;simp));have d0:=MP.cell a0 Mg;have d1:=MP.cell a1 Mg;have d2:=MP.cell a2 Mg;have e0:=Nd.cell d0 Mg;have e1:=Nd.cell d1 Mg;have e2:=Nd.cell d2 Mg;have f0:=Qr.cell e0 Mq;have f1:=Qr.cell e1 Mq;have f2:=Qr.cell e2 Mq;clear MN NH Pz Rn Jkx MS Rf Nd Qr;refine hK.out _ _ ?_ (fun hHeld=>?_)
 ·exact ⟨d0,d1,d2⟩
 clear hK K
 try simp only [Act.put,Lg,Lj,Lk]
 refine tk 9 67 ?_;refine rdy (rdn 11 (fun K hK=>?_) .nil);go_simp;refine hK.out _ _ ?_ (fun hHeld=>?_)
 ·exact ⟨e0,e1,e2⟩
 clear hK K
 try simp only [Act.put,Lg,Lj,Lk]
 refine rdy (rdn 12 (fun K hK=>?_) .nil);go_simp;refine hK.out _ _ ?_ (fun hHeld=>?_)
 ·exact ⟨f0,f1,f2⟩
 clear hK K
 try simp only [Act.put,Lg,Lj,Lk]
 refine wpAnyH_done Mh ?_ _;go_wp2_with fail;refine bodyPost_ret (dg Tryz.results43 _ _ (w.heap.size+1) (w.heap.size+1+1) _ _ _ _ _ _ _ _ rfl rfl OJ Jnh Tryz.underlying31 rfl Mh Tryz.underlying39 rfl (aR _ rfl)) rfl (MM.out _ _ ⟨_,rfl,?_,?_⟩)
 ·have h3:=(Oy.only PS (fun g hg e=>by simp only [Lh,Li,or_false] at hg;simp only [Value.ownBlock,LU] at e;have:=HZ.out;omega)).ints
  exact h3.mono (by have:=HZ.out;omega) (Lm _)
 ·exact (Nf.q MT).trans PS Mg (fun g hg MO=>by simp only [Lh,Li,or_false] at hg;omega)
end
def Ep (src prev:ai) (key:Bool) (qp reach:Int) (w:World) (e:Ending) (w':World):Prop :=
 ae [] w w'/\match bP src prev key qp reach with
  | some k=>e=.returned (.tuple #[.agg #[(),JEu],.agg #[(),(),JEu],.agg #[k,JEu]])
  | none=>∃ dv fv,e=.returned (.tuple #[.agg #[.int .i64 (bT src prev key qp reach.toNat).kind,dv],.agg #[src.W,src.H,fv],.agg #[(),JEu]])/\ah .u8 w.heap.size w'.heap.size w' dv (bT src prev key qp reach.toNat).data/\ah .i64 w.heap.size w'.heap.size w' fv (cG src prev key qp reach.toNat).1.pix
theorem cR (a b c:Value):(Tryz.prog.info? 24).map (·.size)=some (#[a,b,c]:Array Value).size:=by show _=some 3;kernel_rfl
theorem dm (a b:Value):(Tryz.prog.info? 31).map (·.size)=some (#[a,b]:Array Value).size:=by show _=some 2;kernel_rfl
theorem cO (a b:Value):(Tryz.prog.info? 39).map (·.size)=some (#[a,b]:Array Value).size:=aR _ rfl
theorem uY (w:World) (a a':Array Value) (ta:TypeId) (b b':Array Value) (tb:TypeId) :
  ((w.alloc (.cells a ta)).alloc (.cells b tb)).heap[w.heap.size]?=some (.cells a ta (0,0))/\(((w.alloc (.cells a ta)).alloc (.cells b tb)).setRow w.heap.size a').heap[w.heap.size+1]?=some (.cells b tb (0,0)) /\
  ae [] w ((((w.alloc (.cells a ta)).alloc (.cells b tb)).setRow w.heap.size a').setRow (w.heap.size+1) b')/\((((w.alloc (.cells a ta)).alloc (.cells b tb)).setRow w.heap.size a').setRow (w.heap.size+1) b').heap[w.heap.size]?=some (.cells a' ta (0,0)) /\
  ((((w.alloc (.cells a ta)).alloc (.cells b tb)).setRow w.heap.size a').setRow (w.heap.size+1) b').heap[w.heap.size+1]?=some (.cells b' tb (0,0))/\((((w.alloc (.cells a ta)).alloc (.cells b tb)).setRow w.heap.size a').setRow (w.heap.size+1) b').heap.size=w.heap.size+1+1:=by
 have h1:((w.alloc (.cells a ta)).alloc (.cells b tb)).heap[w.heap.size]?=some (.cells a ta (0,0)):=(ae.new _ _).row (heap_alloc_new w _);have h2:((w.alloc (.cells a ta)).alloc (.cells b tb)).heap[w.heap.size+1]?=some (.cells b tb (0,0)):=ak Mg;have o1:ae [w.heap.size] ((w.alloc (.cells a ta)).alloc (.cells b tb)) (((w.alloc (.cells a ta)).alloc (.cells b tb)).setRow w.heap.size a'):=ae.setRow (ae.refl _ _) (fun _=>Mg) a';have h3:=o1.rowAt h2 Mg;have o2:ae [w.heap.size+1] (((w.alloc (.cells a ta)).alloc (.cells b tb)).setRow w.heap.size a') ((((w.alloc (.cells a ta)).alloc (.cells b tb)).setRow w.heap.size a').setRow (w.heap.size+1) b'):=ae.setRow (ae.refl _ _) (fun _=>Mg) b';refine ⟨h1,h3,?_,o2.rowAt (setRow_heap _ _ _ _ _ _ h1) Mg,setRow_heap _ _ _ _ _ _ h3,by rw [size_setRow,size_setRow];simp⟩;exact (((ae.new w _).alloc _).trans o1 (U:=[]) Mg (fun g hg hl=>Mj)).trans o2 (U:=[]) Mg (fun g hg hl=>Mj)
theorem eZ {P:Program} {fn:Func} {p q r:Tmp} {ty ty' JgO:TypeId} (h:fn.results=#[.cell p ty,.cell q ty',.cell r JgO]) (Oe:Array Value) (w:World) (g g' g'':Nat) (t t' t'':TypeId) (cs cs' JfT:Array Value) (fr fr' JnY:Nat×Nat) (d d' d'':TypeDesc)
  (hp:Oe.getD p undef=.pointer (some ⟨g,0,none⟩)) (hq:Oe.getD q undef=.pointer (some ⟨g',0,none⟩)) (hr:Oe.getD r undef=.pointer (some ⟨g'',0,none⟩)) (hg:w.heap[g]?=some (.cells cs t fr)) (hg':w.heap[g']?=some (.cells cs' t' fr')) (Juf:w.heap[g'']?=some (.cells JfT t'' JnY))
  (hu:P.underlying ty=some d) (hd:(match d with | .struct _ | .array _ _=>true | _=>false)=true) (hi:(P.info? ty).map (·.size)=some cs.size)
  (hu':P.underlying ty'=some d') (hd':(match d' with | .struct _ | .array _ _=>true | _=>false)=true) (hi':(P.info? ty').map (·.size)=some cs'.size)
  (JuG:P.underlying JgO=some d'') (Juc:(match d'' with | .struct _ | .array _ _=>true | _=>false)=true) (Jul:(P.info? JgO).map (·.size)=some JfT.size) :
  (results fn Oe).run P w=.ok (.tuple #[.agg cs,.agg cs',.agg JfT]) w:=by
 have hp':Oe[p]?.getD undef=.pointer (some ⟨g,0,none⟩):=MD;have hq':Oe[q]?.getD undef=.pointer (some ⟨g',0,none⟩):=ME;have hr':Oe[r]?.getD undef=.pointer (some ⟨g'',0,none⟩):=ML;simp [results,h,hp',hq',hr',asAddr,run_loadVar_row w g t ty cs fr d hg hu hd hi,run_loadVar_row w g' t' ty' cs' fr' d' hg' hu' hd' hi',run_loadVar_row w g'' t'' JgO JfT JnY d'' Juf JuG Juc Jul]
theorem jc {base R E:Nat} {F S:List Nat} {w w':World} {m:Wrt} (h:(bi base R E).At F w m) (o:ae S w w') (hS:∀ g∈S,g∉F):(bi base R E).At F w' m:=by
 obtain ⟨ov,rfl,hw⟩:=h;exact ⟨ov,rfl,hw.only o hS⟩
theorem mX {base R E:Nat} {F:List Nat} {w:World} {m:Wrt} (h:(bi base R E).At F w m):∀ g∈F,base<=g:=by
 obtain ⟨ov,rfl,hw⟩:=h;exact fun g hg=>(hw.lt g hg).1
theorem xj {base R E:Nat} {F:List Nat} {w:World} {m:Wrt} (h:(bi base R E).At F w m) (hn:m.n<=1000000000):w.cell? ⟨R,1,none⟩=some (.pointer (some ⟨E,0,none⟩)) /\
  Calls Tryz.prog 44 #[.pointer (some ⟨E,0,none⟩)] w fun e w'=>∃ v',e=.returned v'/\Own .u8 5 w.heap.size w' v' (gS m)/\ae [] w w':=by
 obtain ⟨ov,rfl,hw⟩:=h;exact ⟨hw.row.cells.2.1,Fw hw.enc (by have:=hw.ok.n4;omega) hn⟩
section
theorem xk {lo hi lo' hi':Nat} {sv pv:Value} {src prev:ai} {w:World} (key:Bool) (qp reach:Int) (hs:ah .i64 lo hi w sv src.pix) (hp:ah .i64 lo' hi' w pv prev.pix) (hh:hi<=w.heap.size) (UZ:hi'<=w.heap.size) :
  Calls Tryz.prog 10 #[.agg #[src.W,src.H,sv],.agg #[prev.W,prev.H,pv],.bool key,qp,reach] w (Ep src prev key qp reach w):=by
 refine aN fun Q MM=>?_
 have Tt:=lh (fun (W:World) (o:ae [] w W)=>Dp key qp reach (hs.quiet o) (hp.quiet o));have HS:=lh hs;have HP:=lh hp;obtain ⟨sa,sc,rfl,-⟩:=hs.open;obtain ⟨pa,pc,rfl,-⟩:=hp.open;obtain ⟨NF,Ou,Pl,OE,Pj,Pi,HZ⟩:=JV w (.cells #[src.W,src.H,.slice sa src.pix.length sc] 24) (.cells #[prev.W,prev.H,.slice pa prev.pix.length pc] 24) (.cells #[(),JEu] 31) (.cells #[(),(),JEu] 24) (.cells #[(),JEu] 39);have HQ:=lh NF;have XT:=lh (And.intro hh UZ);obtain ⟨a0,a1,a2⟩:=ag Ou;obtain ⟨b0,b1,b2⟩:=ag Pl;clear hs hp hh UZ NF;go_enter Tryz.func10,Tryz.ntmps10;go_wp2_with fail;generalize hW5:World.alloc (World.alloc (World.alloc (World.alloc (World.alloc w _) _) _) _) _=W5 at *
 clear hW5 a0 a1 a2 b0 b1 b2;go_at_call 36;refine (Tt.out W5 HQ).mono ?_;rintro e w6 ⟨rfl,hq⟩;have RX:Hid (w.heap.size+1+1+1+1<w6.heap.size):=lh (by have:=hq.size;have:=HZ.out;omega);replace Ou:=lh (hq.row Ou);replace Pl:=lh (hq.row Pl);replace OE:=lh (hq.row OE);replace Pj:=lh (hq.row Pj);replace Pi:=lh (hq.row Pi);replace HQ:=lh (HQ.q hq);clear hq Tt HZ;cases Ra:bP src prev key qp reach with
 | some k =>
  have NU:=qg Ra;have HCK:=lh Ra;have Hk0:Hid ((k == 0)=false):=lh (by rw [beq_eq_false_iff_ne];exact NU);rw [show Fy (some k)=.agg #[k,JEu] from rfl];clear Ra NU;have hn:=ae.new w6 (.cells #[k,JEu] 39);have HE:Hid ((w6.alloc (.cells #[k,JEu] 39)).heap[w6.heap.size]?=some (.cells #[k,JEu] 39 (0,0))):=lh (heap_alloc_new w6 _);replace Ou:=lh (hn.row Ou);replace Pl:=lh (hn.row Pl);replace OE:=lh (hn.row OE);replace Pj:=lh (hn.row Pj);replace Pi:=lh (hn.row Pi);replace HQ:=lh (HQ.q hn);have PM:=RX;obtain ⟨BE,XB⟩:∃ z,z=w6.heap.size:=⟨_,rfl⟩
  rw [<- XB] at PM HE;obtain ⟨e0,e1,-⟩:=aJ HE;go_wp2_with fail;clear hn e0 e1;go_at_call 37;refine (cK _ _ _).mono ?_;rintro e w7 ⟨rfl,hq⟩;rw [Hk0.out];replace Ou:=lh (hq.row Ou);replace Pl:=lh (hq.row Pl);replace OE:=lh (hq.row OE);replace Pj:=lh (hq.row Pj);replace Pi:=lh (hq.row Pi);replace HE:=lh (hq.row HE);replace HQ:=lh (HQ.q hq);clear hq;go_wp2_with fail;rw [<- XB];clear XB;refine wp_region_held_drew (S:=(fun wz=>wz.heap[BE]?=some (.cells #[k,JEu] 39 (0,0)))) Mh ?_ (fun hHeld=>?_)
  ·exact HE
  refine tkw 0 33 ⟨rfl,by intro wz OP;go_simp;try with_reducible rfl⟩ ?_;refine tkw 1 34 ⟨rfl,by intro wz OP;go_simp;try with_reducible rfl⟩ ?_;refine tkw 2 35 ⟨rfl,by intro wz OP;obtain ⟨e0,e1,-⟩:=aJ OP;go_simp;try with_reducible rfl⟩ ?_;refine rdy (rdn 3 (fun K hK=>?_) .nil);refine aL (.tmp 10) (.tmp 33) 31 rfl (g:=(w.heap.size+1+1)) (c':=#[(),JEu]) rfl rfl OE (dm _ _) rfl (by first | kernel_rfl | simp [Value.oneCell']) (fun Xq Nr Xl=>?_);replace Nr:ae [(w.heap.size+1+1)] w7 Xq:=by first | exact Nr | exact ((ae.refl [] w7).drew.mono (U:=[(w.heap.size+1+1)]) Mg).trans Nr (fun g h _=>h) (fun g h _=>h)
  have r01:=Nr.rowAt Pj Ml;have r02:=Nr.rowAt Pi Ml;have Zt:=Nr.rowAt HE (by rw [mSg];have:=PM.out;omega);refine hK.out _ _ ?_ (fun hHeld=>?_)
  ·exact Zt
  clear hK K;refine rdy (rdn 4 (fun K hK=>?_) .nil);refine aL (.tmp 11) (.tmp 34) 24 rfl (g:=(w.heap.size+1+1+1)) (c':=#[(),(),JEu]) rfl rfl r01 (cR _ _ _) rfl (by first | kernel_rfl | simp [Value.oneCell']) (fun Xr Ns Xm=>?_);replace Ns:ae [(w.heap.size+1+1+1)] Xq Xr:=by first | exact Ns | exact ((ae.refl [] Xq).drew.mono (U:=[(w.heap.size+1+1+1)]) Mg).trans Ns (fun g h _=>h) (fun g h _=>h)
  have r10:=Ns.rowAt Xl Ml;have r12:=Ns.rowAt r02 Ml;have sa1:=Ns.rowAt Zt (by rw [mSg];have:=PM.out;omega);refine hK.out _ _ ?_ (fun hHeld=>?_)
  ·exact sa1
  clear hK K;refine rdy (rdn 5 (fun K hK=>?_) .nil);refine aL (.tmp 12) (.tmp 35) 39 rfl (g:=(w.heap.size+1+1+1+1)) (c':=#[k,JEu]) rfl rfl r12 (cO _ _) rfl (by first | kernel_rfl | simp [Value.oneCell']) (fun wy2 Nt Xn=>?_);replace Nt:ae [(w.heap.size+1+1+1+1)] Xr wy2:=by first | exact Nt | exact ((ae.refl [] Xr).drew.mono (U:=[(w.heap.size+1+1+1+1)]) Mg).trans Nt (fun g h _=>h) (fun g h _=>h)
  have r20:=Nt.rowAt r10 Ml;have r21:=Nt.rowAt Xm Ml;have sa2:=Nt.rowAt sa1 (by rw [mSg];have:=PM.out;omega);refine hK.out _ _ ?_ (fun hHeld=>?_)
  ·exact sa2
  clear hK K;refine wpAnyH_done Mh ?_ _;go_wp2_with fail;have NQ:ae [] w _:=((HQ.trans Nr (U:=[]) Mg (fun g hg hl=>Mj)).trans Ns (U:=[]) Mg (fun g hg hl=>Mj)).trans Nt (U:=[]) Mg (fun g hg hl=>Mj);refine bodyPost_ret (eZ Tryz.results10 _ _ (w.heap.size+1+1) (w.heap.size+1+1+1) (w.heap.size+1+1+1+1) _ _ _ _ _ _ _ _ _ _ _ _ rfl rfl rfl r20 r21 Xn Tryz.underlying31 rfl (dm _ _) Tryz.underlying24 rfl (cR _ _ _) Tryz.underlying39 rfl (cO _ _)) rfl (MM.out _ _ ?_);unfold Ep;rw [HCK.out];exact ⟨NQ,rfl⟩
 | none =>
  obtain ⟨Pb,Zr,QH,MP,RQ,Pz⟩:=fK Ra;obtain ⟨q,rfl⟩:=Int.eq_ofNat_of_zero_le QH;obtain ⟨r,rfl⟩:=Int.eq_ofNat_of_zero_le RQ;have hq:q<=15:=Mf;have hr:r<=7:=Mf;have Jbz:=lh hq;have Hr7:=lh hr;have ZK:Hid (∀ e w',ae [] w w'->(∃ dv fv,e=.returned (.tuple #[.agg #[.int .i64 (bT src prev key q r).kind,dv],.agg #[src.W,src.H,fv],.agg #[(),JEu]])/\ah .u8 w.heap.size w'.heap.size w' dv (bT src prev key q r).data/\ah .i64 w.heap.size w'.heap.size w' fv (cG src prev key q r).1.pix)->Q e w'):=lh (fun e w' o h=>MM.out _ _ (by unfold Ep;rw [Ra];exact ⟨o,by rw [Int.toNat_natCast];exact h⟩));have hdr:=(lz (q:=q) (reach:=r) Pb Zr hq hr).2;have hpk:key=false->FrOk prev/\prev.W=src.W/\prev.H=src.H:=fun h=>jE (Zr h)
  have Sc:=lh hpk;have hn:io src.W src.H 128=true:=gV.2 ⟨⟨Pb.w0,Pb.w1,Pb.w8⟩,⟨Pb.h0,Pb.h1,Pb.h8⟩,Mn,Mn⟩;have HSf:=lh Pb;have Jcx:Hid (bT src prev key q r=⟨if key then 1 else 2,(q:Int) :: gS (cG src prev key q r).2⟩):=lh rfl;have TU:Hid ((gS (cG src prev key q r).2).length<65536):=lh (by have h2:(gS (cG src prev key q r).2).length+1<=65000:=hdr;omega);have JcA:Hid (cG src prev key q r=encGo key prev q (aI src prev key q r) (src.W*src.H / 64).toNat 0 (ed src.W src.H 128) fB):=lh rfl;have HNw:=lh (fun (W:World)=>(xm src.W src.H 128 W).mono (R':=fun e w'=>ae [] W w'/\∃ g cap,e=.returned (.tuple #[.agg #[src.W,src.H,.slice (some ⟨g,0,none⟩) (ed src.W src.H 128).pix.length cap],.agg #[(),JEu]])/\Own .i64 3 W.heap.size w' (.slice (some ⟨g,0,none⟩) (ed src.W src.H 128).pix.length cap) (ed src.W src.H 128).pix) (fun e w' h=>by unfold pw at h;rw [hn] at h;exact h));have Xt:=lh (lR hn);have Xu:Hid ((ed src.W src.H 128).W=src.W/\(ed src.W src.H 128).H=src.H):=lh ⟨rfl,rfl⟩;have hbw:8<=src.W/\src.W<=32/\src.W % 8=0:=⟨Pb.w0,Pb.w1,Pb.w8⟩
  have hbh:8<=src.H/\src.H<=32/\src.H % 8=0:=⟨Pb.h0,Pb.h1,Pb.h8⟩
  have Vj:=lh (And.intro hbw hbh);rw [show Fy none=.agg #[(),JEu] from rfl];clear Ra QH MP RQ Pz Zr hdr Pb hpk hn MM hq hr hbw hbh;have hn:=ae.new w6 (.cells #[(),JEu] 39);have HE:Hid ((w6.alloc (.cells #[(),JEu] 39)).heap[w6.heap.size]?=some (.cells #[(),JEu] 39 (0,0))):=lh (heap_alloc_new w6 _);replace Ou:=lh (hn.row Ou);replace Pl:=lh (hn.row Pl);replace OE:=lh (hn.row OE);replace Pj:=lh (hn.row Pj);replace Pi:=lh (hn.row Pi);replace HQ:=lh (HQ.q hn);obtain ⟨BE,XB⟩:∃ z,z=w6.heap.size:=⟨_,rfl⟩
  have HBE:=lh XB;have HZE:Hid (BE<(w6.alloc (.cells #[(),JEu] 39)).heap.size):=lh (by rw [XB];simp);rw [<- XB] at HE RX;obtain ⟨e0,e1,-⟩:=aJ HE;go_wp2_with fail;clear hn e0 e1;rw [<- XB];clear XB;generalize World.alloc w6 _=W6 at *
  go_at_call 37;refine (cK _ _ _).mono ?_;rintro e w7 ⟨rfl,hq⟩;rw [show ((0:Int) == 0)=true from rfl];replace HZE:Hid (BE<w7.heap.size):=lh (by have:=HZE.out;have:=hq.size;omega);replace Ou:=lh (hq.row Ou);replace Pl:=lh (hq.row Pl);replace OE:=lh (hq.row OE);replace Pj:=lh (hq.row Pj);replace Pi:=lh (hq.row Pi);replace HE:=lh (hq.row HE);replace HQ:=lh (HQ.q hq);clear hq;obtain ⟨s0,s1,s2⟩:=ag Ou;go_wp2_with fail;clear s0 s1 s2;go_at_call 38;refine (HNw.out _).mono ?_;rintro e w8 ⟨hq,g0,PB,rfl,MQ⟩;have HO:=lh MQ;have HG0:=lh (MQ.at g0 rfl);replace HZE:Hid (BE<w8.heap.size):=lh (by have:=HZE.out;have:=hq.size;omega);have Ul:Hid (w.heap.size+1+1+1+1<g0):=lh (by have:=HG0.out;have:=RX.out;have:=HZE.out;have:=hq.size;have h7:=(Array.getElem?_eq_some_iff.1 HE).1;omega);replace Ou:=lh (hq.row Ou);replace Pl:=lh (hq.row Pl);replace OE:=lh (hq.row OE);replace Pj:=lh (hq.row Pj);replace Pi:=lh (hq.row Pi);replace HE:=lh (hq.row HE);replace HQ:=lh (HQ.q hq);clear hq MQ HNw;generalize ed src.W src.H 128=F0 at *
  obtain ⟨NL,hNL⟩:∃ z,z=F0.pix.length:=⟨_,rfl⟩
  have HNL:=lh hNL;rw [<- hNL] at HO |-
  clear hNL;obtain ⟨f1,f2,f3,f4,f5,f6⟩:=uY w8 #[(),(),JEu] #[src.W,src.H,.slice (some ⟨g0,0,none⟩) NL PB] 24 #[(),JEu] #[(),JEu] 39;have F1:=lh f1;have F2:=lh f2;have F3:=lh f3;have HA:=lh f4;have HF6:=lh f6;clear f1 f2 f3 f4 f5 f6;go_upto_region 5 with (first
   | (refine aq rfl (.tmp 14) (.tmp 42) 24 rfl rfl rfl F1 (cR _ _ _) rfl (by first | kernel_rfl | simp [Value.oneCell']) ?_)
   | (refine aq rfl (.tmp 15) (.tmp 43) 39 rfl rfl rfl F2 (cO _ _) rfl (by first | kernel_rfl | simp [Value.oneCell']) ?_)
   | fail)
  generalize TG:World.setRow (World.setRow _ _ _) _ _=SM at *
  clear TG F1 F2;replace Ou:=lh (F3.row Ou);replace Pl:=lh (F3.row Pl);replace OE:=lh (F3.row OE);replace Pj:=lh (F3.row Pj);replace Pi:=lh (F3.row Pi);replace HE:=lh (F3.row HE);replace HQ:=lh (HQ.q F3);replace HO:=lh (HO.quiet F3);obtain ⟨AB,hAB⟩:∃ z,z=w8.heap.size:=⟨_,rfl⟩
  rw [<- hAB] at HA HF6 HZE |-
  replace HG0:Hid (g0<AB):=lh (by have:=HG0.out;omega);clear F3 hAB HBE;go_wp2_with fail;go_at_call 39;refine (DC SM).mono ?_;rintro e Sa ⟨R,E,ov,rfl,Ts,hq⟩;obtain ⟨F00,Joh⟩:∃ z,z=wrB R E ov:=⟨_,rfl⟩
  have HAt:Hid ((bi SM.heap.size R E).At F00 Sa fB):=lh ⟨ov,Joh,Ts⟩;obtain ⟨BW,hBW⟩:∃ z,z=SM.heap.size:=⟨_,rfl⟩
  rw [<- hBW] at HAt HF6;have HIx:=lh (wZ (HO.quiet hq).ints);have Vv:=lh (hq.row HA);have NJ:=lh (hq.mono (U:=[AB]) Mg);have HBW:=lh hBW;clear hq Ts Joh hBW HO HA;have HZ:Hid (w.heap.size+1+1+1+1<BE/\BE<AB/\AB<BW/\g0<AB/\BW=SM.heap.size/\w.heap.size+1+1+1+1<g0):=lh ⟨RX,HZE.out,by have:=HF6.out;omega,HG0.out,HBW.out,Ul.out⟩;clear RX HZE HF6 HG0 HBW Ul;have JsB:=lh (HS.quiet HQ);have Jsj:=lh (HP.quiet HQ);have hbd:=Vj.out;have JfY:0<=src.W*src.H/\src.W*src.H<=32*32:=⟨Int.mul_nonneg Mf Mf,Int.mul_le_mul hbd.1.2.1 hbd.2.2.1 Mf Mf⟩
  obtain ⟨NN,hNN⟩:∃ NN,NN=src.W*src.H:=⟨_,rfl⟩
  obtain ⟨C,hC⟩:∃ C:Nat,C=(src.W*src.H / 64).toNat:=⟨_,rfl⟩
  have Hcl:Hid ((C:Int)=src.W*src.H / 64):=lh (by rw [hC];omega);have HWH:Hid (wrap64 (src.W*src.H)=NN):=lh (by rw [<- hNN] at JfY |-;unfold wrap64;omega);have Hcc:Hid (NN / 64=(C:Int)):=lh (by rw [Hcl.out,<- hNN]);have Uu:0<=NN:=Mf;have hn1:NN<=1024:=Mf;have JAP:C<=16:=Mf;rw [<- hC] at JcA;have hw1:8<=src.W:=hbd.1.1;have hw2:src.W<=32:=hbd.1.2.1;obtain ⟨U,hU⟩:∃ U:Nat,(U:Int)=src.W / 8/\src.W=8*(U:Int)/\1<=U/\U<=4:=⟨(src.W / 8).toNat,Mf,Mf,Mf,Mf⟩
  have HU:=lh hU;clear hNN hC JfY hbd hU;go_wp2_with fail;go_loopw [17] (fun i wr=>∃ (k:Nat) (FK:ai) (Fk:List Nat) (mk:Wrt) (gk gc:Nat),k<=C/\i=.int .i64 k/\Hid (FrOk FK/\FK.W=src.W/\FK.H=src.H/\FK.pix.length=NL)/\Hid (wr.heap[AB]?=some (.cells #[src.W,src.H,.slice (some ⟨gk,0,none⟩) NL gc] 24 (0,0)))/\Hid (ah .i64 gk (gk+1) wr (.slice (some ⟨gk,0,none⟩) NL gc) FK.pix)/\Hid (gk≠AB/\gk∉Fk/\gk<wr.heap.size/\w.heap.size+1+1+1+1<gk)/\Hid ((bi BW R E).At Fk wr mk)/\Hid (WOk (4+2788*k) mk)/\Hid (encGo key prev q (aI src prev key q r) (C-k) k FK mk=cG src prev key q r)/\Hid (ae [AB] SM wr)) (fun i _=>C-(intOf i).toNat)
  case atStart=>exact ⟨0,F0,F00,fB,g0,PB,Mf,rfl,lh ⟨Xt,Xu.1,Xu.2,HNL.symm⟩,Vv,HIx,lh ⟨by have:=HZ.out;omega,fun h=>by have:=mX HAt _ h;have:=HZ.out;omega,by have:=NJ.size;have:=HZ.out;omega,HZ.2.2.2.2.2⟩,HAt,lh ⟨iD,by show 4<=_;omega⟩,lh JcA.symm,NJ⟩
  case round =>
   obtain ⟨k,FK,Fk,mk,gk,gc,hk,rfl,Up,Tt,Zf,HNk,HTk,HWk,Pn,MW⟩:=hrel;clear Vv HIx HAt NJ;replace Ou:=lh (MW.rowAt Ou (by rw [mSg];have:=HZ.out;omega));replace Pl:=lh (MW.rowAt Pl (by rw [mSg];have:=HZ.out;omega));replace OE:=lh (MW.rowAt OE (by rw [mSg];have:=HZ.out;omega));replace Pj:=lh (MW.rowAt Pj (by rw [mSg];have:=HZ.out;omega));replace Pi:=lh (MW.rowAt Pi (by rw [mSg];have:=HZ.out;omega));replace HE:=lh (MW.rowAt HE (by rw [mSg];have:=HZ.out;omega));have hwh:=HWH.out;obtain ⟨s0,s1,s2⟩:=ag Ou;by_cases MO:k<C
   ·have Ny:(k:Int)<NN / 64:=by rw [Hcc.out];omega
    have NU:(0:Int)<=(k:Int):=Mf;have Oq:=lh MO;go_upto_region 9 with (fail)
    clear Ny hwh;obtain ⟨K8,hK8⟩:∃ K8,K8=(k:Int)*8:=⟨_,rfl⟩
    obtain ⟨XX,hX⟩:∃ X,X=K8 % src.W:=⟨_,rfl⟩
    obtain ⟨YY,hY⟩:∃ Y,Y=K8 / src.W*8:=⟨_,rfl⟩
    have hu:=HU.out;have e1:src.W.tdiv 8=(U:Int):=by rw [Int.tdiv_eq_ediv_of_nonneg Mf];omega
    have e1':src.W / 8=(U:Int):=Mf;obtain ⟨XU,hXU⟩:∃ z,z=(k:Int) % (U:Int):=⟨_,rfl⟩
    obtain ⟨YU,hYU⟩:∃ z,z=(k:Int) / (U:Int):=⟨_,rfl⟩
    have e2:(k:Int).tmod (U:Int)=XU:=by rw [hXU,LX Mf]
    have e3:(k:Int).tdiv (U:Int)=YU:=by rw [hYU,Int.tdiv_eq_ediv_of_nonneg Mf]
    have hXX:XU*8=XX/\YU*8=YY/\0<=XU/\XU<=3/\0<=YU/\YU<=16:=by
     have JwD:k<=16:=Mf;rw [hX,hY,hXU,hYU,hK8,hu.2.1];rcases (by omega:U=1\/U=2\/U=3\/U=4) with rfl | rfl | rfl | rfl <;> omega
    have e4:IntKind.i64.wrap (XU*8)=XX:=Mi;have e4':wrap64 (XU*8)=XX:=by unfold wrap64;omega
    have e5:IntKind.i64.wrap (YU*8)=YY:=Mi;have e5':wrap64 (YU*8)=YY:=by unfold wrap64;omega
    have e6:IntKind.i64.wrap YU=YU:=Mi;have e6':wrap64 YU=YU:=by unfold wrap64;omega
    have e7:IntKind.i64.wrap (U:Int)=(U:Int):=Mi;have hUn:¬ (U:Int)=0:=Mf;have JtR:¬ U=0:=Mf;have hUb:((U:Int) == 0)=false:=by rw [beq_eq_false_iff_ne];exact hUn
    obtain ⟨p1,p2,p3,p4⟩:=Ed (W:=src.W) (H:=src.H) (i:=k) Vj.1.1 Vj.1.2.1 Vj.1.2.2 Vj.2.1 Vj.2.2.1 Vj.2.2.2 (by have:=Hcl.out;have:=Oq.out;omega);rw [<- hK8,<- hX] at p1 p2;rw [<- hK8,<- hY] at p3 p4;have HXy:=lh (And.intro p1 (And.intro p2 (And.intro p3 p4)));have Pt:Hid (encGo key prev q (aI src prev key q r) (C-k) k FK mk=encGo key prev q (aI src prev key q r) (C-(k+1)) (k+1) (bf FK prev XX YY q (aI src prev key q r FK XX YY)) (di wrC key (df (aI src prev key q r FK XX YY)) mk).2):=lh (by
     have hfw:=Up.2.1;rw [hX,hY,hK8,<- hfw,show C-k=(C-(k+1))+1 by omega]
     rfl)
    clear hK8 hX hY p1 p2 p3 p4 hXX hXU hYU hu;go_cut [18,19] (fun s18 s19 wx=>s18=.int .i64 XX/\s19=.int .i64 YY/\Hid (ae [] wr wx))
    case first =>
     refine wp_region_held_drew (S:=(fun wz=>wz.cell? ⟨w.heap.size,0,none⟩=some (.int .i64 src.W))) Mh ?_ (fun hHeld=>?_)
     ·exact s0
     refine tk 0 55 ?_;refine tk 1 56 ?_;refine tk 2 57 ?_;refine tk 3 58 ?_;refine tk 4 59 ?_;refine tk 5 60 ?_;refine tk 6 61 ?_;refine tk 7 62 ?_;refine tk 8 63 ?_;refine tk 9 64 ?_;refine tk 10 65 ?_;refine tk 11 66 ?_;refine tk 12 18 ?_;refine tk 13 19 ?_;refine wpAnyH_done Mh ?_ _;go_wp2_with fail;go_meet;exact ⟨rfl,rfl,lh (by first | exact ae.refl _ _ | exact (ae.refl _ _).drew)⟩
    case rest =>
     have HBw:Hid (SM.heap.size<=wc.heap.size):=lh (by have:=MW.size;have:=hcut.2.2.out.size;omega);obtain ⟨rfl,rfl,Ph⟩:=hcut;clear e1 e1' e2 e3 e4 e4' e5 e5' e6 e6' e7 hUn JtR hUb s0 s1 s2;replace Ou:=lh (Ph.row Ou);replace Pl:=lh (Ph.row Pl);replace OE:=lh (Ph.row OE);replace Pj:=lh (Ph.row Pj);replace Pi:=lh (Ph.row Pi);replace HE:=lh (Ph.row HE);replace Tt:=lh (Ph.row Tt);replace Zf:=lh (Zf.quiet Ph);replace HNk:Hid (gk≠AB/\gk∉Fk/\gk<wc.heap.size/\w.heap.size+1+1+1+1<gk):=lh ⟨HNk.1,HNk.2.1,by have:=HNk.2.2.1;have:=Ph.size;omega,HNk.2.2.2⟩;replace HTk:=lh (jc HTk Ph Mg);replace MW:=lh (MW.trans Ph (U:=[AB]) (fun g h _=>h) Mg);clear Ph;have RV:=lh (JsB.only MW (fun g hg=>by rw [mSg] at hg;subst hg;have:=XT.out;have:=HZ.out;right;omega));have Jfy:=lh (Jsj.only MW (fun g hg=>by rw [mSg] at hg;subst hg;have:=XT.out;have:=HZ.out;right;omega));have hzw:w.heap.size<=wc.heap.size:=by have:=HNk.out;omega
     have Vt:=FH (q:=q) (r:=r) (src:=src) (cur:=FK) (prev:=prev) key HSf Up.1 Sc Up.2.1 Up.2.2.1 RV Zf Jfy XX YY ⟨HXy.1,HXy.2.1⟩ ⟨HXy.2.2.1,HXy.2.2.2⟩ Jbz Hr7 (by have:=XT.out;omega) (by have:=HNk.out;omega);have Ts:=jy (src:=src) (prev:=prev) (cur:=FK) (key:=key) (q:=q) (reach:=r) HSf.sam Up.1.sam (fun h=>(Sc.out h).1.sam) Jbz Hr7 XX YY;obtain ⟨Pa,hSQ⟩:∃ z,z=aI src prev key q r FK XX YY:=⟨_,rfl⟩
     rw [<- hSQ] at Vt Ts Pt;rw [Up.2.1,Up.2.2.1] at Vt;have Yq:=lh Vt;have Ys:=lh Ts;clear hSQ Vt Ts hzw;obtain ⟨s0,s1,s2⟩:=ag Ou;obtain ⟨p0,p1,p2⟩:=ag Pl;obtain ⟨t0,t1,t2⟩:=ag Tt;go_wp2_with fail;clear s0 s1 s2 p0 p1 p2 t0 t1 t2;go_at_call 40;refine Yq.mono ?_;rintro e Qt ⟨lv,vs,rfl,NV,MX,hq⟩;have JfG:Hid (wc.heap.size<=Qt.heap.size):=lh hq.size;have PY:=lh hq;have PX:=lh MX;have PA:=lh NV;have HI:=lh (dY (k:=(Pa.kind:Int)) (mo:=(Pa.mode:Int)) (vx:=Pa.vx) (vy:=Pa.vy) (lv:=lv) NV MX.len);have Ro:=lh (dO (k:=(Pa.kind:Int)) (mo:=(Pa.mode:Int)) (ms:=Pa.modes) (vx:=Pa.vx) (vy:=Pa.vy) (lv:=lv) (vs:=vs) MX.one.1 MX.one.2);have VF:=lh (dh (k:=0) (mo:=0) (ms:=[0,0,0,0]) (vx:=0) (vy:=0) (lv:=aj) (vs:=[aj,aj,aj,aj]) (k':=(Pa.kind:Int)) (mo':=(Pa.mode:Int)) (ms':=Pa.modes) (vx':=Pa.vx) (vy':=Pa.vy) (lv':=lv) (vs':=vs) rfl rfl NV MX.len);have NY:=lh Tryz.underlying91;clear NV MX hq Yq;obtain ⟨CA,Rx⟩:∃ z,z=(sqL (Pa.kind:Int) (Pa.mode:Int) Pa.modes Pa.vx Pa.vy lv vs).toArray:=⟨_,rfl⟩
     have HCA:=lh Rx;rw [<- Rx] at HI Ro VF |-
     clear Rx;have SV:=lh (heap_alloc_new Qt (.cells (sqL 0 0 [0,0,0,0] 0 0 aj [aj,aj,aj,aj]).toArray 91));have HNr:=lh (setRow_heap (Qt.alloc (.cells (sqL 0 0 [0,0,0,0] 0 0 aj [aj,aj,aj,aj]).toArray 91)) Qt.heap.size _ CA _ _ SV);have XY:Hid (ae [] Qt ((Qt.alloc (.cells (sqL 0 0 [0,0,0,0] 0 0 aj [aj,aj,aj,aj]).toArray 91)).setRow Qt.heap.size CA)):=lh (((ae.new Qt _).trans (ae.setRow (S:=[Qt.heap.size]) (ae.refl _ _) (g:=Qt.heap.size) (fun _=>Mg) CA) (U:=[]) Mg (fun g hg MO=>Mj)));have HNz:Hid (Qt.heap.size<((Qt.alloc (.cells (sqL 0 0 [0,0,0,0] 0 0 aj [aj,aj,aj,aj]).toArray 91)).setRow Qt.heap.size CA).heap.size):=lh (by rw [size_setRow];simp)
     go_wp2_with (first
      | (refine aq rfl (.tmp 20) (.tmp 75) 91 rfl rfl rfl SV HI VF Ro ?_)
      | (refine az rfl (.tmp 20) 91 rfl rfl HNr NY rfl HI ?_)
      | fail)
     have JpY:(Qt.alloc (.cells #[(),(),(),(),(),(),(),(),JEu,JEu,JEu,JEu,JEu] 91)).setRow Qt.heap.size CA=(Qt.alloc (.cells (sqL 0 0 [0,0,0,0] 0 0 aj [aj,aj,aj,aj]).toArray 91)).setRow Qt.heap.size CA:=rfl;rw [JpY];clear JpY SV;generalize World.setRow (World.alloc Qt _) _ _=W12 at *
     obtain ⟨BQ,hBQ⟩:∃ z,z=Qt.heap.size:=⟨_,rfl⟩
     rw [<- hBQ] at HNr HNz JfG |-
     have Ov:Hid (ae [] wc W12):=lh (PY.q XY);have Jmb:=lh (jc HTk Ov Mg);have Wy:dU wc.heap.size BQ W12 lv vs Pa.large Pa.small:=by rw [hBQ];exact PX.only XY Mg
     clear hBQ XY PY PX;have hFl:∀ x∈Fk,x<wc.heap.size:=fun x hx=>(bi BW R E).lt HTk x hx
     have Qu:=lh hFl;have HGe:=lh (mX HTk);have Vt:=FI Jmb Ys Wy PA (fun x hx=>.inl (hFl x hx)) (by have:=HNz.out;omega) HWk Mf;rw [<- HCA.out] at Vt;have JfD:=lh Vt;have Uz:=lh Wy;clear Vt Wy hFl;go_at_call 41;refine JfD.mono ?_;rintro e w13 ⟨⟨ev,rfl⟩,F13,Jow,Jpd⟩;have Jig:=lh Jow;have Sv:=lh Jpd;clear Jow Jpd JfD HTk Jmb;have Jsb:=lh (Sv.1.rowAt HNr (fun h=>by have:=Qu.out _ h;have:=JfG.out;omega));have hge:=HGe.out;replace Ou:=lh (Sv.1.rowAt (Ov.row Ou) (fun h=>by have:=hge _ h;have:=HZ.out;omega));replace Pl:=lh (Sv.1.rowAt (Ov.row Pl) (fun h=>by have:=hge _ h;have:=HZ.out;omega));replace OE:=lh (Sv.1.rowAt (Ov.row OE) (fun h=>by have:=hge _ h;have:=HZ.out;omega));replace Pj:=lh (Sv.1.rowAt (Ov.row Pj) (fun h=>by have:=hge _ h;have:=HZ.out;omega));replace Pi:=lh (Sv.1.rowAt (Ov.row Pi) (fun h=>by have:=hge _ h;have:=HZ.out;omega));replace HE:=lh (Sv.1.rowAt (Ov.row HE) (fun h=>by have:=hge _ h;have:=HZ.out;omega));replace Tt:=lh (Sv.1.rowAt (Ov.row Tt) (fun h=>by have:=hge _ h;have:=HZ.out;omega));replace Zf:=lh ((Zf.quiet Ov).only Sv.1 (fun x hx=>by have:=HNk.2.1;rcases Nat.lt_trichotomy x gk with h | h | h;exact .inl h;exact absurd (h ▸ hx) this;exact .inr h));have Jmz:=lh (Uz.only Sv.1 (fun g hg=>.inl (Qu.out g hg)));replace MW:Hid (ae [AB] SM w13):=lh ((MW.trans Ov (U:=[AB]) (fun g h _=>h) Mg).trans Sv.1 (fun g h _=>h) (fun g hg MO=>absurd MO (by have:=hge g hg;have:=HZ.out;omega)));replace Jfy:=lh ((Jfy.quiet Ov).only Sv.1 (fun g hg=>.inr (by have:=hge g hg;have:=XT.out;have:=HZ.out;omega)));have Jyq:Hid (∀ x∈F13,x∈Fk\/wc.heap.size<=x):=lh (fun x hx=>(Sv.2 x hx).imp_right (fun h=>Lz Ov.size h));have Tp:=Sv.1.size;have JuP:=Ov.size;have VG:Hid (wc.heap.size<=BQ/\BQ<w13.heap.size):=lh ⟨JfG,by have:=HNz.out;omega⟩;clear Sv Ov HNr HNz JfG Uz JuP;have Pr:Pa.kind<2->FrOk prev:=fun hk=>(Sc.out (by cases hke:key with | false=>rfl | true=>have:=Ys.key_ hke;omega)).1
     have hB:=zO (f:=FK) (prev:=prev) (s:=Pa) (x:=XX) (y:=YY) (q:=q) (mo:=(Pa.mode:Int)) (w:=w13) (lv:=lv) (vs:=vs) Up.1 Zf (by have:=HNk.out;have:=VG.out;omega) Jfy Jmz Pr ⟨Ys.kind,Ys.mode,Ys.large,Ys.vec,Ys.small⟩ (fun _=>rfl) PA Jbz HXy.1 (by rw [Up.2.1];exact HXy.2.1) HXy.2.2.1 (by rw [Up.2.2.1];exact HXy.2.2.2);rw [Up.2.1,Up.2.2.1,<- HCA.out] at hB;have HB_:=lh hB;have hlo:=tR (prev:=prev) Up.1 (fun hk=>(Pr hk).sam) HXy.1 (by rw [Up.2.1];exact HXy.2.1) HXy.2.2.1 (by rw [Up.2.2.1];exact HXy.2.2.2) ⟨Ys.kind,Ys.mode,Ys.large,Ys.vec,Ys.small⟩ (q:Int);have hlw:=qo FK prev XX YY q Pa;have RB:Hid (FrOk (bf FK prev XX YY q Pa)/\(bf FK prev XX YY q Pa).W=src.W/\(bf FK prev XX YY q Pa).H=src.H/\(bf FK prev XX YY q Pa).pix.length=NL):=lh ⟨hlo,hlw.1.trans Up.2.1,hlw.2.trans Up.2.2.1,by
      have t1:=hlo.len;have t2:=Up.1.len;rw [hlw.1,hlw.2] at t1;have:=Up.2.2.2;omega⟩
     have HNp:Hid (0<NL):=lh (by have h1:=Up.1.len;have h2:=Up.2.2.2;have h3:=Vj.out;have h4:8*8<=FK.W*FK.H:=Int.mul_le_mul (by rw [Up.2.1];exact h3.1.1) (by rw [Up.2.2.1];exact h3.2.1) Mf (by rw [Up.2.1];omega);omega);clear hB hlo hlw Pr hge Tp;obtain ⟨p0,p1,p2⟩:=ag Pl;obtain ⟨t0,t1,t2⟩:=ag Tt
     go_wp2_with (first
      | (refine az rfl (.tmp 20) 91 rfl rfl Jsb NY rfl HI ?_)
      | fail)
     clear t0 t1 t2 p0 p1 p2;go_at_call 42;refine HB_.mono ?_;rintro e PL ⟨nv,rfl,MQ,hq⟩;obtain ⟨ng,ngc,rfl,Jpy,Jpz,XH⟩:=Ad MQ (by rw [RB.2.2.2];exact HNp);rw [RB.2.2.2] at XH |-
     have Jmc:=lh (hq.row Tt);have hso:=ae.setRow (S:=[AB]) (ae.refl _ PL) (g:=AB) (fun _=>Mg) #[src.W,src.H,.slice (some ⟨ng,0,none⟩) NL ngc];have MS:=setRow_heap PL AB _ #[src.W,src.H,.slice (some ⟨ng,0,none⟩) NL ngc] _ _ Jmc;have Tp:=VG.out;have JaD:=hso.size;have JcE:=lh (XH.only hso (fun x hx=>by rw [mSg] at hx;have:=HZ.out;have:=HBw.out;left;omega));have OJ:=lh MS;have Sg:=lh hso;have HNg:=lh (And.intro Jpy Jpz);have SU:=lh hq;clear MQ hq XH MS hso HB_ Jpy Jpz Tp JaD
     go_wp2_with (first | (refine aq rfl (.tmp 14) (.tmp 86) 24 rfl rfl rfl Jmc (cR _ _ _) rfl (by first | kernel_rfl | simp [Value.oneCell']) ?_) | fail)
     have hng:=HNg.out;have hz:=HZ.out;have Tp:=VG.out;have hzs:=Sg.size;have hbw:=HBw.out;refine ⟨⟨k+1,bf FK prev XX YY q Pa,F13,(di wrC key (df Pa) mk).2,ng,ngc,by have:=Oq.out;omega,Mm,RB,OJ,JcE,lh ⟨Mf,fun h=>?_,Mf,Mf⟩,lh ?_,lh ((nA key (df Pa) HWk).le Mf),lh (by rw [<- Pt.out];exact Pn),lh ?_⟩,by simp [intOf];have:=Oq.out;omega⟩
     ·have:=(bi BW R E).lt Jig _ h;omega
     ·exact jc (jc Jig SU Mg) Sg (fun x hx hm=>by rw [mSg] at hx;subst hx;have:=mX Jig _ hm;omega)
     ·exact (MW.trans SU (U:=[AB]) (fun g h _=>h) Mg).trans Sg (fun g h _=>h) (fun g h _=>h)
   ·obtain rfl:k=C:=Mf
    have Ny:¬ (k:Int)<NN / 64:=by rw [Hcc.out];omega
    have NU:(0:Int)<=(k:Int):=Mf;have hgo:=Pn.out;rw [Nat.sub_self] at hgo;have RA:Hid (cG src prev key q r=(FK,mk)):=lh hgo.symm;clear hgo;obtain ⟨hrc,hen⟩:=xj HTk (by have:=HWk.2;omega);have Jsw:=lh hrc;have Rh:=lh hen;rw [RA.out] at TU;clear hrc hen;go_upto_if 87 with (fail)
    clear Ny hwh s0 s1 s2;go_cut [21] (fun s21 wx=>s21=.int .i64 (if key then 1 else 2)/\wr=wx)
    case first =>
     cases key with
     | true =>
      go_wp2_with fail;go_meet;exact ⟨rfl,rfl⟩
     | false =>
      go_wp2_with fail;go_meet;exact ⟨rfl,rfl⟩
    case rest =>
     obtain ⟨rfl,hwc⟩:=hcut;subst hwc;obtain ⟨KK,hKK⟩:∃ z:Int,z=if key then 1 else 2:=⟨_,rfl⟩
     rw [<- hKK];have JdO:KK=1\/KK=2:=by rw [hKK];cases key <;> simp
     have HKK:=lh hKK;clear hKK;have c1:=Jsw.out;go_wp2_with fail;clear c1;go_at_call 44;refine Rh.mono ?_;rintro e w13 ⟨v13,rfl,MQ,YR⟩;have YG:=MQ.ints;obtain ⟨d3,c3,rfl,-⟩:=YG.open;have Sd:=lh YR;have hpk:=xq (k:=KK) (q:=(q:Int)) YG TU JdO ⟨Mf,by have:=Jbz.out;omega⟩;obtain ⟨N3,hN3⟩:∃ z,z=(gS mk).length:=⟨_,rfl⟩
     rw [<- hN3] at hpk |-
     have Jbp:=lh hpk;clear MQ YG YR hN3 Rh JdO hpk;go_wp2_with fail;go_at_call 43;refine Jbp.mono ?_;rintro e PL ⟨v14,rfl,Jat,QV⟩;obtain ⟨d4,c4,rfl,-⟩:=Jat.open;have Tw:=lh Jat;have SU:=lh (Sd.q QV);have VG:=lh Sd.size;clear Jat QV Jbp Sd;obtain ⟨N4,hN4⟩:∃ z,z=((q:Int) :: gS mk).length:=⟨_,rfl⟩
     rw [<- hN4] at Tw |-
     clear hN4;obtain ⟨f1,f2,f3,f4,f5,f6⟩:=uY PL #[(),JEu] #[KK,.slice d4 N4 c4] 31 #[(),JEu] #[(),JEu] 39;have F1:=lh f1;have F2:=lh f2;have F3:=lh f3;have HV:=lh f4;clear f1 f2 f3 f4 f5 f6;go_upto_region 17 with (first
      | (refine aq rfl (.tmp 22) (.tmp 98) 31 rfl rfl rfl F1 (dm _ _) rfl (by first | kernel_rfl | simp [Value.oneCell']) ?_)
      | (refine aq rfl (.tmp 23) (.tmp 99) 39 rfl rfl rfl F2 (cO _ _) rfl (by first | kernel_rfl | simp [Value.oneCell']) ?_)
      | fail)
     generalize JjQ:World.setRow (World.setRow _ _ _) _ _=W15 at *
     clear JjQ F1 F2;have OC:=lh (SU.q F3);replace Ou:=lh (OC.row Ou);replace Pl:=lh (OC.row Pl);replace OE:=lh (OC.row OE);replace Pj:=lh (OC.row Pj);replace Pi:=lh (OC.row Pi);replace HE:=lh (OC.row HE);replace Tt:=lh (OC.row Tt);have HIf:=lh (Zf.quiet OC);have HId:=lh (Tw.quiet F3);have RU:Hid (ae [] w W15):=lh ((HQ.trans MW (U:=[]) Mg (fun g hg MO=>by rw [mSg] at hg;have:=HZ.out;omega)).q OC);have JaD:=SU.size;have hzr:=MW.size;have hz:=HZ.out;have Tp:=VG.out;have hnk:=HNk.out;obtain ⟨BV,hBV⟩:∃ z,z=PL.heap.size:=⟨_,rfl⟩
     rw [<- hBV] at HV |-
     have PM:Hid (w.heap.size+1+1+1+1<BV/\w.heap.size+1+1+1+1<AB/\w.heap.size+1+1+1+1<BE):=lh Mf;have HZy:Hid (w.heap.size+1+1+1+1<gk/\w.heap.size+1+1+1+1<w13.heap.size/\gk+1<=W15.heap.size/\PL.heap.size<=W15.heap.size):=lh (by have h5:=F3.size;omega);clear JaD hzr hz Tp hnk hBV;refine wp_region_held_drew (S:=(fun wz=>wz.heap[BV]?=some (.cells #[KK,.slice d4 N4 c4] 31 (0,0))/\wz.heap[AB]?=some (.cells #[src.W,src.H,.slice (some ⟨gk,0,none⟩) NL gc] 24 (0,0))/\wz.heap[BE]?=some (.cells #[(),JEu] 39 (0,0)))) Mh ?_ (fun hHeld=>?_)
     ·exact ⟨HV,Tt.out,HE.out⟩
     refine tkw 0 100 ⟨rfl,by intro wz OP;obtain ⟨v0,v1,-⟩:=aJ OP.1;go_simp;try with_reducible rfl⟩ ?_;refine tkw 1 101 ⟨rfl,by intro wz OP;obtain ⟨v0,v1,v2⟩:=ag OP.2.1;go_simp;try with_reducible rfl⟩ ?_;refine tkw 2 102 ⟨rfl,by intro wz OP;obtain ⟨v0,v1,-⟩:=aJ OP.2.2;go_simp;try with_reducible rfl⟩ ?_;refine rdy (rdn 3 (fun K hK=>?_) .nil);refine aL (.tmp 10) (.tmp 100) 31 rfl (g:=(w.heap.size+1+1)) (c':=#[KK,.slice d4 N4 c4]) rfl rfl OE (dm _ _) rfl (by first | kernel_rfl | simp [Value.oneCell']) (fun Xq Nr Xl=>?_);replace Nr:ae [(w.heap.size+1+1)] W15 Xq:=by first | exact Nr | exact ((ae.refl [] W15).drew.mono (U:=[(w.heap.size+1+1)]) Mg).trans Nr (fun g h _=>h) (fun g h _=>h)
     have r01:=Nr.rowAt Pj Ml;have r02:=Nr.rowAt Pi Ml;have Zt:=Nr.rowAt HV (by rw [mSg];have:=PM.out;omega);have sb0:=Nr.rowAt Tt (by rw [mSg];have:=PM.out;omega);have sc0:=Nr.rowAt HE (by rw [mSg];have:=PM.out;omega);refine hK.out _ _ ?_ (fun hHeld=>?_)
     ·exact ⟨Zt,sb0,sc0⟩
     clear hK K;refine rdy (rdn 4 (fun K hK=>?_) .nil);refine aL (.tmp 11) (.tmp 101) 24 rfl (g:=(w.heap.size+1+1+1)) (c':=#[src.W,src.H,.slice (some ⟨gk,0,none⟩) NL gc]) rfl rfl r01 (cR _ _ _) rfl (by first | kernel_rfl | simp [Value.oneCell']) (fun Xr Ns Xm=>?_);replace Ns:ae [(w.heap.size+1+1+1)] Xq Xr:=by first | exact Ns | exact ((ae.refl [] Xq).drew.mono (U:=[(w.heap.size+1+1+1)]) Mg).trans Ns (fun g h _=>h) (fun g h _=>h)
     have r10:=Ns.rowAt Xl Ml;have r12:=Ns.rowAt r02 Ml;have sa1:=Ns.rowAt Zt (by rw [mSg];have:=PM.out;omega);have sb1:=Ns.rowAt sb0 (by rw [mSg];have:=PM.out;omega);have sc1:=Ns.rowAt sc0 (by rw [mSg];have:=PM.out;omega);refine hK.out _ _ ?_ (fun hHeld=>?_)
     ·exact ⟨sa1,sb1,sc1⟩
     clear hK K;refine rdy (rdn 5 (fun K hK=>?_) .nil);refine aL (.tmp 12) (.tmp 102) 39 rfl (g:=(w.heap.size+1+1+1+1)) (c':=#[(),JEu]) rfl rfl r12 (cO _ _) rfl (by first | kernel_rfl | simp [Value.oneCell']) (fun wy2 Nt Xn=>?_);replace Nt:ae [(w.heap.size+1+1+1+1)] Xr wy2:=by first | exact Nt | exact ((ae.refl [] Xr).drew.mono (U:=[(w.heap.size+1+1+1+1)]) Mg).trans Nt (fun g h _=>h) (fun g h _=>h)
     have r20:=Nt.rowAt r10 Ml;have r21:=Nt.rowAt Xm Ml;have sa2:=Nt.rowAt sa1 (by rw [mSg];have:=PM.out;omega);have sb2:=Nt.rowAt sb1 (by rw [mSg];have:=PM.out;omega);have sc2:=Nt.rowAt sc1 (by rw [mSg];have:=PM.out;omega);refine hK.out _ _ ?_ (fun hHeld=>?_)
     ·exact ⟨sa2,sb2,sc2⟩
     clear hK K;refine wpAnyH_done Mh ?_ _;go_wp2_with fail;have NQ:ae [] w _:=((RU.trans Nr (U:=[]) Mg (fun g hg hl=>Mj)).trans Ns (U:=[]) Mg (fun g hg hl=>Mj)).trans Nt (U:=[]) Mg (fun g hg hl=>Mj);refine bodyPost_ret (eZ Tryz.results10 _ _ (w.heap.size+1+1) (w.heap.size+1+1+1) (w.heap.size+1+1+1+1) _ _ _ _ _ _ _ _ _ _ _ _ rfl rfl rfl r20 r21 Xn Tryz.underlying31 rfl (dm _ _) Tryz.underlying24 rfl (cR _ _ _) Tryz.underlying39 rfl (cO _ _)) rfl (ZK.out _ _ NQ ?_);have hzy:=HZy.out;have n0:∀ g∈[w.heap.size+1+1],g<w13.heap.size/\g<gk:=fun g hg=>by rw [mSg] at hg;omega
     have n1:∀ g∈[w.heap.size+1+1+1],g<w13.heap.size/\g<gk:=fun g hg=>by rw [mSg] at hg;omega
     have n2:∀ g∈[w.heap.size+1+1+1+1],g<w13.heap.size/\g<gk:=fun g hg=>by rw [mSg] at hg;omega
     have YT:=Nr.size;have JkF:=Ns.size;have JkG:=Nt.size;refine ⟨.slice d4 N4 c4,.slice (some ⟨gk,0,none⟩) NL gc,by rw [Jcx.out,<- HKK.out],?_,?_⟩
     ·rw [Jcx.out,RA.out]
      exact (((HId.only Nr (fun g hg=>.inl (n0 g hg).1)).only Ns (fun g hg=>.inl (n1 g hg).1)).only Nt (fun g hg=>.inl (n2 g hg).1)).mono Mf Mf
     ·rw [RA.out]
      exact (((HIf.only Nr (fun g hg=>.inl (n0 g hg).2)).only Ns (fun g hg=>.inl (n1 g hg).2)).only Nt (fun g hg=>.inl (n2 g hg).2)).mono Mf Mf
end
theorem Dq (c:Cfg) (w:World) :
  Calls Tryz.prog 52 #[c.v] w fun e w'=>e=.returned (.bool (mD c))/\ae [] w w':=by
 obtain ⟨a0,a1,a2,a3,a4,a5,a6,a7⟩:=c;unfold Cfg.v;go_enter Tryz.func52,Tryz.ntmps52;go_wp2_with fail
 all_goals
  go_ret;refine ⟨aK ?_,(ae.refl _ _).alloc _⟩;unfold mD;rw [Bool.eq_iff_iff];simp
  try omega
theorem pE {src prev:ai} {key:Bool} {reach most:Int} {k:Int}:∀ (n:Nat) (q:Int),fV src prev key reach most n q=.error k->∃ p,q<=p/\p<q+n/\bP src prev key p reach=some k
 | 0,q,h=>by cases h
 | n+1,q,h=>by
  cases hc:bP src prev key q reach with
  | some c =>
   rw [oW hc] at h;cases h;exact ⟨q,Mf,Mf,hc⟩
  | none =>
   by_cases hb:((bT src prev key q reach.toNat).data.length:Int)+8<=most
   ·rw [qT hc hb] at h;cases h
   ·rw [jW hc hb] at h
    obtain ⟨p,h1,h2,h3⟩:=pE n (q+1) h;exact ⟨p,Mf,Mf,h3⟩
theorem Jl {c:Cfg} (h:mD c=true):0<=c.qmin/\c.qmin<=c.qmax/\c.qmax<=15/\0<=c.reach/\c.reach<=7:=by
 unfold mD at h;rw [decide_eq_true_eq] at h;exact ⟨h.1,h.2.1,h.2.2.1,h.2.2.2.1,h.2.2.2.2.1⟩
theorem CW {src prev:ai} {key:Bool} {q reach:Int} (h:bP src prev key q reach=none):(bT src prev key q reach.toNat).data.length<=65000:=by
 obtain ⟨Pb,Zr,QH,MP,RQ,Pz⟩:=fK h;have h5:=(lz (q:=q.toNat) (reach:=reach.toNat) Pb Zr Mf Mf).2;rwa [Int.toNat_of_nonneg QH] at h5
theorem xX {p:Prop} (h:p:=by intro wz OP;obtain ⟨v0,v1,v2⟩:=ag OP.2.1;go_simp;try with_reducible rfl):p:=h
def JI (src prev:ai) (key:Bool) (c:Cfg) (most:Int) (w:World) (e:Ending) (w':World):Prop :=
 ae [] w w'/\match kE src prev key c most with
  | .error k=>e=.returned (.tuple #[.agg #[(),JEu],.agg #[(),(),JEu],.agg #[k,JEu]])
  | .ok x=>∃ dv fv,e=.returned (.tuple #[.agg #[x.1.kind,dv],.agg #[x.2.W,x.2.H,fv],.agg #[(),JEu]])/\ah .u8 w.heap.size w'.heap.size w' dv x.1.data/\ah .i64 w.heap.size w'.heap.size w' fv x.2.pix
theorem qN (src prev:ai) (key:Bool) (q:Int) (r:Nat):(cG src prev key q r).1.W=src.W/\(cG src prev key q r).1.H=src.H:=by
 unfold cG
 suffices h:∀ (k i:Nat) (f:ai) (m:Wrt),(encGo key prev q (aI src prev key q r) k i f m).1.W=f.W/\(encGo key prev q (aI src prev key q r) k i f m).1.H=f.H from h _ _ _ _
 intro k
 induction k with
 | zero=>intro i f m;exact ⟨rfl,rfl⟩
 | succ k ih =>
  intro i f m;rw [encGo,(ih _ _ _).1,(ih _ _ _).2];exact qo _ _ _ _ _ _
section
theorem BK {p:Prop} (h:p:=by
 obtain ⟨Nr,Ns,Nt⟩:=Nf.out;have NQ:ae [] w _:=((HQ.trans Nr (U:=[]) Mg (fun g hg hl=>Mj)).trans Ns (U:=[]) Mg (fun g hg hl=>Mj)).trans Nt (U:=[]) Mg (fun g hg hl=>Mj);have R0:=HT0.out;have R1:=HT1.out;have R2:=HT2.out;refine bodyPost_ret (eZ Tryz.results17 _ _ (w.heap.size+1+1+1) (w.heap.size+1+1+1+1) (w.heap.size+1+1+1+1+1) _ _ _ _ _ _ _ _ _ _ _ _ rfl rfl rfl R0 R1 R2 Tryz.underlying31 rfl (dm _ _) Tryz.underlying24 rfl (cR _ _ _) Tryz.underlying39 rfl (cO _ _)) rfl (MM.out _ _ ?_);rw [HE.out];exact ⟨NQ,rfl⟩):p:=h
theorem BL {p:Prop} (h:p:=by
 exact (((HIf.only Nr (fun g hg=>by rw [mSg] at hg;left;omega)).only Ns (fun g hg=>by rw [mSg] at hg;left;omega)).only Nt (fun g hg=>by rw [mSg] at hg;left;omega)).mono Mf Mf):p:=h
theorem Fz {lo hi lo' hi':Nat} {sv pv:Value} {src prev:ai} {w:World} (key:Bool) (c:Cfg) (most:Int) (hs:ah .i64 lo hi w sv src.pix) (hp:ah .i64 lo' hi' w pv prev.pix) (hh:hi<=w.heap.size) (UZ:hi'<=w.heap.size) :
  Calls Tryz.prog 17 #[.agg #[src.W,src.H,sv],.agg #[prev.W,prev.H,pv],.bool key,c.v,most] w (JI src prev key c most w):=by
 refine aN fun Q MM=>?_
 have HEn:=lh (fun (W:World) (q:Int) (o:ae [] w W)=>xk key q c.reach (hs.quiet o) (hp.quiet o) (Lz hh o.size) (Lz UZ o.size));have HMy:=lh (fun (W:World)=>Dq c W);have HCp:=lh (fun (W:World) (o:ae [] w W) (hl:prev.pix.length<=1000000000)=>iM (hp.quiet o) hl);have Tv:Hid (kE src prev key c most=if mD c=false then .error 11 else if most<8 then .error 3 else fV src prev key c.reach most (c.qmax+1-c.qmin).toNat c.qmin):=lh rfl;have XV:=lh (fun (h:mD c=true)=>Jl h);obtain ⟨sa,sc,rfl,-⟩:=hs.open;obtain ⟨pa,pc,rfl,-⟩:=hp.open;unfold JI at MM;generalize kE src prev key c most=FE at *
 generalize mD c=MC at *
 obtain ⟨a0,a1,a2,a3,a4,a5,a6,a7⟩:=c;simp only at HEn Tv XV;unfold Cfg.v at HMy |-
 simp only at HMy |-
 obtain ⟨Ob,Ou,Pl,Rp,OE,Pj,Pi,HZ⟩:=JW w (.cells #[src.W,src.H,.slice sa src.pix.length sc] 24) (.cells #[prev.W,prev.H,.slice pa prev.pix.length pc] 24) (.cells #[a0,a1,a2,a3,a4,a5,a6,a7] 47) (.cells #[(),JEu] 31) (.cells #[(),(),JEu] 24) (.cells #[(),JEu] 39);have HQ:=lh Ob;obtain ⟨k0,k1,k2,k3,k4,k5,k6,k7⟩:=dI Rp;clear hs hp hh UZ Ob;go_enter Tryz.func17,Tryz.ntmps17;go_wp2_with fail;generalize hW6:World.alloc (World.alloc (World.alloc (World.alloc (World.alloc (World.alloc w _) _) _) _) _) _=W6 at *
 clear hW6 k0 k1 k2 k3 k4 k5 k6 k7;go_at_call 52;refine (HMy.out W6).mono ?_;rintro e w2 ⟨rfl,hq⟩;have PM:Hid (w.heap.size+1+1+1+1+1<w2.heap.size):=lh (by have:=hq.size;have:=HZ.out;omega);replace Ou:=lh (hq.row Ou);replace Pl:=lh (hq.row Pl);replace Rp:=lh (hq.row Rp);replace OE:=lh (hq.row OE);replace Pj:=lh (hq.row Pj);replace Pi:=lh (hq.row Pi);replace HQ:=lh (HQ.q hq);clear hq HMy HZ;cases MC with
 | false =>
  have HE:Hid (FE=.error 11):=lh Tv;clear Tv XV HEn HCp;go_wp2_with fail;go_at_call 26;refine (gT 11 _).mono ?_;rintro e w3 ⟨rfl,hq⟩;replace OE:=lh (hq.row OE);replace Pj:=lh (hq.row Pj);replace Pi:=lh (hq.row Pi);replace HQ:=lh (HQ.q hq);clear hq;have QH:=ae.setRow (S:=[w.heap.size+1+1+1]) (ae.refl _ w3) (g:=w.heap.size+1+1+1) (fun _=>Mg) #[(),JEu];have NT:=lh (QH.rowAt Pj Ml);have MP:=ae.setRow (S:=[w.heap.size+1+1+1+1]) (ae.refl _ (w3.setRow (w.heap.size+1+1+1) #[(),JEu])) (g:=w.heap.size+1+1+1+1) (fun _=>Mg) #[(),(),JEu];have OH:=lh (MP.rowAt (QH.rowAt Pi Ml) Ml);have MV:=ae.setRow (S:=[w.heap.size+1+1+1+1+1]) (ae.refl _ ((w3.setRow (w.heap.size+1+1+1) #[(),JEu]).setRow (w.heap.size+1+1+1+1) #[(),(),JEu])) (g:=w.heap.size+1+1+1+1+1) (fun _=>Mg) #[.int .i64 11,JEu];have HT0:=lh (MV.rowAt (MP.rowAt (setRow_heap w3 (w.heap.size+1+1+1) _ #[(),JEu] _ _ OE) Ml) Ml);have HT1:=lh (MV.rowAt (setRow_heap (w3.setRow (w.heap.size+1+1+1) #[(),JEu]) (w.heap.size+1+1+1+1) _ #[(),(),JEu] _ _ NT) Ml);have HT2:=lh (setRow_heap ((w3.setRow (w.heap.size+1+1+1) #[(),JEu]).setRow (w.heap.size+1+1+1+1) #[(),(),JEu]) (w.heap.size+1+1+1+1+1) _ #[.int .i64 11,JEu] _ _ OH);have Nf:=lh (And.intro QH (And.intro MP MV));clear QH MP MV
  go_wp2_with (first
   | (refine aq rfl (.tmp 10) (.tmp 22) 31 rfl rfl rfl OE (dm _ _) rfl (by first | kernel_rfl | simp [Value.oneCell']) ?_)
   | (refine aq rfl (.tmp 11) (.tmp 23) 24 rfl rfl rfl NT (cR _ _ _) rfl (by first | kernel_rfl | simp [Value.oneCell']) ?_)
   | (refine aq rfl (.tmp 12) (.tmp 24) 39 rfl rfl rfl OH (cO _ _) rfl (by first | kernel_rfl | simp [Value.oneCell']) ?_)
   | fail)
  exact BK
 | true =>
  obtain ⟨m0,m1,m2,m3,m4⟩:=XV.out rfl;have HM:=lh (And.intro m0 (And.intro m1 (And.intro m2 (And.intro m3 m4))));clear m0 m1 m2 m3 m4 XV;by_cases JhJ:most<8
  ·have HE:Hid (FE=.error 3):=lh (by rw [Tv.out];exact if_pos JhJ)
   clear Tv HEn HCp;go_wp2_with fail;go_at_call 26;refine (gT 3 _).mono ?_;rintro e w3 ⟨rfl,hq⟩;replace OE:=lh (hq.row OE);replace Pj:=lh (hq.row Pj);replace Pi:=lh (hq.row Pi);replace HQ:=lh (HQ.q hq);clear hq;have QH:=ae.setRow (S:=[w.heap.size+1+1+1]) (ae.refl _ w3) (g:=w.heap.size+1+1+1) (fun _=>Mg) #[(),JEu];have NT:=lh (QH.rowAt Pj Ml);have MP:=ae.setRow (S:=[w.heap.size+1+1+1+1]) (ae.refl _ (w3.setRow (w.heap.size+1+1+1) #[(),JEu])) (g:=w.heap.size+1+1+1+1) (fun _=>Mg) #[(),(),JEu];have OH:=lh (MP.rowAt (QH.rowAt Pi Ml) Ml);have MV:=ae.setRow (S:=[w.heap.size+1+1+1+1+1]) (ae.refl _ ((w3.setRow (w.heap.size+1+1+1) #[(),JEu]).setRow (w.heap.size+1+1+1+1) #[(),(),JEu])) (g:=w.heap.size+1+1+1+1+1) (fun _=>Mg) #[.int .i64 3,JEu];have HT0:=lh (MV.rowAt (MP.rowAt (setRow_heap w3 (w.heap.size+1+1+1) _ #[(),JEu] _ _ OE) Ml) Ml);have HT1:=lh (MV.rowAt (setRow_heap (w3.setRow (w.heap.size+1+1+1) #[(),JEu]) (w.heap.size+1+1+1+1) _ #[(),(),JEu] _ _ NT) Ml);have HT2:=lh (setRow_heap ((w3.setRow (w.heap.size+1+1+1) #[(),JEu]).setRow (w.heap.size+1+1+1+1) #[(),(),JEu]) (w.heap.size+1+1+1+1+1) _ #[.int .i64 3,JEu] _ _ OH);have Nf:=lh (And.intro QH (And.intro MP MV));clear QH MP MV
   go_wp2_with (first
    | (refine aq rfl (.tmp 10) (.tmp 27) 31 rfl rfl rfl OE (dm _ _) rfl (by first | kernel_rfl | simp [Value.oneCell']) ?_)
    | (refine aq rfl (.tmp 11) (.tmp 28) 24 rfl rfl rfl NT (cR _ _ _) rfl (by first | kernel_rfl | simp [Value.oneCell']) ?_)
    | (refine aq rfl (.tmp 12) (.tmp 29) 39 rfl rfl rfl OH (cO _ _) rfl (by first | kernel_rfl | simp [Value.oneCell']) ?_)
    | fail)
   exact BK
  ·have HE:Hid (FE=fV src prev key a2 most (a1+1-a0).toNat a0):=lh (by rw [Tv.out];exact if_neg JhJ)
   have hm8:8<=most:=Mf;clear Tv;obtain ⟨k0,k1,k2,k3,k4,k5,k6,k7⟩:=dI Rp;go_wp2_with fail;clear k0 k1 k2 k3 k4 k5 k6 k7;go_loopw [13] (fun i wr=>∃ q:Int,a0<=q/\q<=a1+1/\i=.int .i64 q/\Hid (FE=fV src prev key a2 most (a1+1-q).toNat q)/\Hid (a0<q->∃ p,bP src prev key p a2=none)/\Hid (ae [] w2 wr)) (fun i _=>(17-intOf i).toNat)
   case atStart=>exact ⟨a0,Mf,by have:=HM.out;omega,rfl,HE,lh (fun h=>absurd h Mf),lh (ae.refl _ _)⟩
   case round =>
    obtain ⟨q,hqa,hqb,rfl,HEq,UF,QY⟩:=hrel;replace Ou:=lh (QY.row Ou);replace Pl:=lh (QY.row Pl);replace Rp:=lh (QY.row Rp);replace OE:=lh (QY.row OE);replace Pj:=lh (QY.row Pj);replace Pi:=lh (QY.row Pi);replace HQ:=lh (HQ.q QY);replace PM:Hid (w.heap.size+1+1+1+1+1<wr.heap.size):=lh (by have:=PM.out;have:=QY.size;omega);have hmm:=HM.out;obtain ⟨k0,k1,k2,k3,k4,k5,k6,k7⟩:=dI Rp;by_cases MO:q<=a1
    ·obtain ⟨s0,s1,s2⟩:=ag Ou
     obtain ⟨p0,p1,p2⟩:=ag Pl;have HEx:=lh (HEn.out wr q HQ);go_wp2_with fail;clear s0 s1 s2 p0 p1 p2 k0 k1 k2 k3 k4 k5 k6 k7;go_at_call 10;refine HEx.mono ?_;rintro e w8 ⟨hq,hm⟩;have hz8:=hq.size;have SV:=lh hz8;replace Ou:=lh (hq.row Ou);replace Pl:=lh (hq.row Pl);replace Rp:=lh (hq.row Rp);replace OE:=lh (hq.row OE);replace Pj:=lh (hq.row Pj);replace Pi:=lh (hq.row Pi);replace HQ:=lh (HQ.q hq);have HQe:=lh hq;clear hq hz8 HEx;cases Ra:bP src prev key q a2 with
     | some k =>
      rw [Ra] at hm;obtain rfl:=hm;have Hk0:Hid ((k == 0)=false):=lh (by rw [beq_eq_false_iff_ne];exact qg Ra);have HEr:Hid (FE=.error k):=lh (by rw [HEq.out,show (a1+1-q).toNat=((a1-q).toNat+1) by omega];exact oW Ra);clear Ra;obtain ⟨hq,ZQ,ZR,Yr,-⟩:=gD w8 (.cells #[(),JEu] 31) (.cells #[(),(),JEu] 24) (.cells #[k,JEu] 39);have F4:=lh hq;clear hq hmm;go_upto_region 9 with (fail)
      generalize hW9:World.alloc (World.alloc (World.alloc w8 _) _) _=W9 at *
      clear hW9;replace Ou:=lh (F4.row Ou);replace Pl:=lh (F4.row Pl);replace Rp:=lh (F4.row Rp);replace OE:=lh (F4.row OE);replace Pj:=lh (F4.row Pj);replace Pi:=lh (F4.row Pi);replace HQ:=lh (HQ.q F4);obtain ⟨BV,hBV⟩:∃ z,z=w8.heap.size:=⟨_,rfl⟩
      rw [<- hBV] at ZQ ZR Yr |-
      replace PM:Hid (w.heap.size+1+1+1+1+1<BV):=lh (by have:=PM.out;have:=SV.out;omega);clear hBV;obtain ⟨e0,e1,-⟩:=aJ Yr;go_wp2_with fail;clear e0 e1;go_at_call 37;refine (cK _ _ _).mono ?_;rintro e Sa ⟨rfl,hq⟩;rw [Hk0.out];replace Ou:=lh (hq.row Ou);replace Pl:=lh (hq.row Pl);replace Rp:=lh (hq.row Rp);replace OE:=lh (hq.row OE);replace Pj:=lh (hq.row Pj);replace Pi:=lh (hq.row Pi);replace ZQ:=lh (hq.row ZQ);replace ZR:=lh (hq.row ZR);replace Yr:=lh (hq.row Yr);replace HQ:=lh (HQ.q hq);have NJ:=lh (F4.q hq);clear hq F4;go_wp2_with fail;refine wp_region_held_drew (S:=(fun wz=>wz.heap[BV]?=some (.cells #[(),JEu] 31 (0,0))/\wz.heap[BV+1]?=some (.cells #[(),(),JEu] 24 (0,0))/\wz.heap[BV+1+1]?=some (.cells #[k,JEu] 39 (0,0)))) Mh ?_ (fun hHeld=>?_)
      ·exact ⟨ZQ,ZR.out,Yr.out⟩
      refine tkw 0 60 ⟨rfl,by intro wz OP;obtain ⟨v0,v1,-⟩:=aJ OP.1;go_simp;try with_reducible rfl⟩ ?_;refine tkw 1 61 ⟨rfl,xX⟩ ?_;refine tkw 2 62 ⟨rfl,by intro wz OP;obtain ⟨v0,v1,-⟩:=aJ OP.2.2;go_simp;try with_reducible rfl⟩ ?_;refine rdy (rdn 3 (fun K hK=>?_) .nil);refine aL (.tmp 10) (.tmp 60) 31 rfl (g:=(w.heap.size+1+1+1)) (c':=#[(),JEu]) rfl rfl OE (dm _ _) rfl (by first | kernel_rfl | simp [Value.oneCell']) (fun Xq Nr Xl=>?_);replace Nr:ae [(w.heap.size+1+1+1)] Sa Xq:=by first | exact Nr | exact ((ae.refl [] Sa).drew.mono (U:=[(w.heap.size+1+1+1)]) Mg).trans Nr (fun g h _=>h) (fun g h _=>h)
      have r01:=Nr.rowAt Pj Ml;have r02:=Nr.rowAt Pi Ml;have Zt:=Nr.rowAt ZQ (by rw [mSg];have:=PM.out;omega);have sb0:=Nr.rowAt ZR (by rw [mSg];have:=PM.out;omega);have sc0:=Nr.rowAt Yr (by rw [mSg];have:=PM.out;omega);refine hK.out _ _ ?_ (fun hHeld=>?_)
      ·exact ⟨Zt,sb0,sc0⟩
      clear hK K;refine rdy (rdn 4 (fun K hK=>?_) .nil);refine aL (.tmp 11) (.tmp 61) 24 rfl (g:=(w.heap.size+1+1+1+1)) (c':=#[(),(),JEu]) rfl rfl r01 (cR _ _ _) rfl (by first | kernel_rfl | simp [Value.oneCell']) (fun Xr Ns Xm=>?_);replace Ns:ae [(w.heap.size+1+1+1+1)] Xq Xr:=by first | exact Ns | exact ((ae.refl [] Xq).drew.mono (U:=[(w.heap.size+1+1+1+1)]) Mg).trans Ns (fun g h _=>h) (fun g h _=>h)
      have r10:=Ns.rowAt Xl Ml;have r12:=Ns.rowAt r02 Ml;have sa1:=Ns.rowAt Zt (by rw [mSg];have:=PM.out;omega);have sb1:=Ns.rowAt sb0 (by rw [mSg];have:=PM.out;omega);have sc1:=Ns.rowAt sc0 (by rw [mSg];have:=PM.out;omega);refine hK.out _ _ ?_ (fun hHeld=>?_)
      ·exact ⟨sa1,sb1,sc1⟩
      clear hK K;refine rdy (rdn 5 (fun K hK=>?_) .nil);refine aL (.tmp 12) (.tmp 62) 39 rfl (g:=(w.heap.size+1+1+1+1+1)) (c':=#[k,JEu]) rfl rfl r12 (cO _ _) rfl (by first | kernel_rfl | simp [Value.oneCell']) (fun wy2 Nt Xn=>?_);replace Nt:ae [(w.heap.size+1+1+1+1+1)] Xr wy2:=by first | exact Nt | exact ((ae.refl [] Xr).drew.mono (U:=[(w.heap.size+1+1+1+1+1)]) Mg).trans Nt (fun g h _=>h) (fun g h _=>h)
      have r20:=Nt.rowAt r10 Ml;have r21:=Nt.rowAt Xm Ml;have sa2:=Nt.rowAt sa1 (by rw [mSg];have:=PM.out;omega);have sb2:=Nt.rowAt sb1 (by rw [mSg];have:=PM.out;omega);have sc2:=Nt.rowAt sc1 (by rw [mSg];have:=PM.out;omega);refine hK.out _ _ ?_ (fun hHeld=>?_)
      ·exact ⟨sa2,sb2,sc2⟩
      clear hK K;refine wpAnyH_done Mh ?_ _;go_wp2_with fail;have NQ:ae [] w _:=((HQ.trans Nr (U:=[]) Mg (fun g hg hl=>Mj)).trans Ns (U:=[]) Mg (fun g hg hl=>Mj)).trans Nt (U:=[]) Mg (fun g hg hl=>Mj);have R0:=r20;have R1:=r21;have R2:=Xn;refine bodyPost_ret (eZ Tryz.results17 _ _ (w.heap.size+1+1+1) (w.heap.size+1+1+1+1) (w.heap.size+1+1+1+1+1) _ _ _ _ _ _ _ _ _ _ _ _ rfl rfl rfl R0 R1 R2 Tryz.underlying31 rfl (dm _ _) Tryz.underlying24 rfl (cR _ _ _) Tryz.underlying39 rfl (cO _ _)) rfl (MM.out _ _ ?_);rw [HEr.out];exact ⟨NQ,rfl⟩
     | none =>
      have HWs:Hid (w.heap.size<=wr.heap.size/\wr.heap.size<=w8.heap.size/\w.heap.size+1+1+1+1+1<wr.heap.size):=lh ⟨by have:=PM.out;omega,SV.out,PM.out⟩;rw [Ra] at hm;obtain ⟨dv,fv,rfl,hd,hf⟩:=hm;obtain ⟨d4,c4,rfl,-⟩:=hd.open;obtain ⟨f4,fc,rfl,-⟩:=hf.open;have HD:=lh hd;have HF:=lh hf;have HCk:=lh Ra;have HNl:Hid ((bT src prev key q a2.toNat).data.length<=65000):=lh (CW Ra);obtain ⟨NL,hNL⟩:∃ z,z=(bT src prev key q a2.toNat).data.length:=⟨_,rfl⟩
      obtain ⟨NP,hNP⟩:∃ z,z=(cG src prev key q a2.toNat).1.pix.length:=⟨_,rfl⟩
      obtain ⟨KD,hKD⟩:∃ z,z=(bT src prev key q a2.toNat).kind:=⟨_,rfl⟩
      have HNL:=lh hNL;have HKD:=lh hKD;rw [<- hNL] at HNl;rw [<- hNL,<- hNP,<- hKD];rw [<- hNL] at HD;rw [<- hNP] at HF;clear hNL hNP hKD hd hf Ra;obtain ⟨hq,ZQ,ZR,Yr,-⟩:=gD w8 (.cells #[KD,.slice d4 NL c4] 31) (.cells #[src.W,src.H,.slice f4 NP fc] 24) (.cells #[(),JEu] 39);have F4:=lh hq;clear hq hmm;go_upto_region 9 with (fail)
      generalize hW9:World.alloc (World.alloc (World.alloc w8 _) _) _=W9 at *
      clear hW9;replace Ou:=lh (F4.row Ou);replace Pl:=lh (F4.row Pl);replace Rp:=lh (F4.row Rp);replace OE:=lh (F4.row OE);replace Pj:=lh (F4.row Pj);replace Pi:=lh (F4.row Pi);replace HQ:=lh (HQ.q F4);obtain ⟨BV,hBV⟩:∃ z,z=w8.heap.size:=⟨_,rfl⟩
      rw [<- hBV] at ZQ ZR Yr |-
      replace PM:Hid (w.heap.size+1+1+1+1+1<BV):=lh (by have:=PM.out;have:=SV.out;omega);clear hBV;obtain ⟨e0,e1,-⟩:=aJ Yr;go_wp2_with fail;clear e0 e1;go_at_call 37;refine (cK _ _ _).mono ?_;rintro e Sa ⟨rfl,hq⟩;rw [show ((0:Int) == 0)=true from rfl];replace Ou:=lh (hq.row Ou);replace Pl:=lh (hq.row Pl);replace Rp:=lh (hq.row Rp);replace OE:=lh (hq.row OE);replace Pj:=lh (hq.row Pj);replace Pi:=lh (hq.row Pi);replace ZQ:=lh (hq.row ZQ);replace ZR:=lh (hq.row ZR);replace Yr:=lh (hq.row Yr);replace HQ:=lh (HQ.q hq);have NJ:=lh (F4.q hq);clear hq F4;replace HD:=lh (HD.quiet NJ);replace HF:=lh (HF.quiet NJ);have HZs:=lh NJ.size;have hnl:(NL:Int)<=65000:=by have:=HNl.out;omega
      obtain ⟨v0,v1,-⟩:=aJ ZQ;by_cases Jxg:8+(NL:Int)<=most
      ·have HEr:Hid (FE=.ok ((bT src prev key q a2.toNat),(cG src prev key q a2.toNat).1)):=lh (by rw [HEq.out,show (a1+1-q).toNat=((a1-q).toNat+1) by omega];exact qT HCk (by rw [<- HNL.out];omega))
       go_wp2_with fail;clear hnl;clear v0 v1;refine wp_region_held_drew (S:=(fun wz=>wz.heap[BV]?=some (.cells #[KD,.slice d4 NL c4] 31 (0,0))/\wz.heap[BV+1]?=some (.cells #[src.W,src.H,.slice f4 NP fc] 24 (0,0))/\wz.heap[BV+1+1]?=some (.cells #[(),JEu] 39 (0,0)))) Mh ?_ (fun hHeld=>?_)
       ·exact ⟨ZQ,ZR.out,Yr.out⟩
       refine tkw 0 60 ⟨rfl,by intro wz OP;obtain ⟨v0,v1,-⟩:=aJ OP.1;go_simp;try with_reducible rfl⟩ ?_;refine tkw 1 61 ⟨rfl,xX⟩ ?_;refine tkw 2 62 ⟨rfl,by intro wz OP;obtain ⟨v0,v1,-⟩:=aJ OP.2.2;go_simp;try with_reducible rfl⟩ ?_;refine rdy (rdn 3 (fun K hK=>?_) .nil);refine aL (.tmp 10) (.tmp 60) 31 rfl (g:=(w.heap.size+1+1+1)) (c':=#[KD,.slice d4 NL c4]) rfl rfl OE (dm _ _) rfl (by first | kernel_rfl | simp [Value.oneCell']) (fun Xq Nr Xl=>?_);replace Nr:ae [(w.heap.size+1+1+1)] Sa Xq:=by first | exact Nr | exact ((ae.refl [] Sa).drew.mono (U:=[(w.heap.size+1+1+1)]) Mg).trans Nr (fun g h _=>h) (fun g h _=>h)
       have r01:=Nr.rowAt Pj Ml;have r02:=Nr.rowAt Pi Ml;have Zt:=Nr.rowAt ZQ (by rw [mSg];have:=PM.out;omega);have sb0:=Nr.rowAt ZR (by rw [mSg];have:=PM.out;omega);have sc0:=Nr.rowAt Yr (by rw [mSg];have:=PM.out;omega);refine hK.out _ _ ?_ (fun hHeld=>?_)
       ·exact ⟨Zt,sb0,sc0⟩
       clear hK K;refine rdy (rdn 4 (fun K hK=>?_) .nil);refine aL (.tmp 11) (.tmp 61) 24 rfl (g:=(w.heap.size+1+1+1+1)) (c':=#[src.W,src.H,.slice f4 NP fc]) rfl rfl r01 (cR _ _ _) rfl (by first | kernel_rfl | simp [Value.oneCell']) (fun Xr Ns Xm=>?_);replace Ns:ae [(w.heap.size+1+1+1+1)] Xq Xr:=by first | exact Ns | exact ((ae.refl [] Xq).drew.mono (U:=[(w.heap.size+1+1+1+1)]) Mg).trans Ns (fun g h _=>h) (fun g h _=>h)
       have r10:=Ns.rowAt Xl Ml;have r12:=Ns.rowAt r02 Ml;have sa1:=Ns.rowAt Zt (by rw [mSg];have:=PM.out;omega);have sb1:=Ns.rowAt sb0 (by rw [mSg];have:=PM.out;omega);have sc1:=Ns.rowAt sc0 (by rw [mSg];have:=PM.out;omega);refine hK.out _ _ ?_ (fun hHeld=>?_)
       ·exact ⟨sa1,sb1,sc1⟩
       clear hK K;refine rdy (rdn 5 (fun K hK=>?_) .nil);refine aL (.tmp 12) (.tmp 62) 39 rfl (g:=(w.heap.size+1+1+1+1+1)) (c':=#[(),JEu]) rfl rfl r12 (cO _ _) rfl (by first | kernel_rfl | simp [Value.oneCell']) (fun wy2 Nt Xn=>?_);replace Nt:ae [(w.heap.size+1+1+1+1+1)] Xr wy2:=by first | exact Nt | exact ((ae.refl [] Xr).drew.mono (U:=[(w.heap.size+1+1+1+1+1)]) Mg).trans Nt (fun g h _=>h) (fun g h _=>h)
       have r20:=Nt.rowAt r10 Ml;have r21:=Nt.rowAt Xm Ml;have sa2:=Nt.rowAt sa1 (by rw [mSg];have:=PM.out;omega);have sb2:=Nt.rowAt sb1 (by rw [mSg];have:=PM.out;omega);have sc2:=Nt.rowAt sc1 (by rw [mSg];have:=PM.out;omega);refine hK.out _ _ ?_ (fun hHeld=>?_)
       ·exact ⟨sa2,sb2,sc2⟩
       clear hK K;refine wpAnyH_done Mh ?_ _;go_wp2_with fail;have NQ:ae [] w _:=((HQ.trans Nr (U:=[]) Mg (fun g hg hl=>Mj)).trans Ns (U:=[]) Mg (fun g hg hl=>Mj)).trans Nt (U:=[]) Mg (fun g hg hl=>Mj);have R0:=r20;have R1:=r21;have R2:=Xn;refine bodyPost_ret (eZ Tryz.results17 _ _ (w.heap.size+1+1+1) (w.heap.size+1+1+1+1) (w.heap.size+1+1+1+1+1) _ _ _ _ _ _ _ _ _ _ _ _ rfl rfl rfl R0 R1 R2 Tryz.underlying31 rfl (dm _ _) Tryz.underlying24 rfl (cR _ _ _) Tryz.underlying39 rfl (cO _ _)) rfl (MM.out _ _ ?_);rw [HEr.out];have hzx:=PM.out;have hzr:=SV.out;have hzs:=HZs.out;have YT:=Nr.size;have JkF:=Ns.size;have JkG:=Nt.size;have hw:=HWs.out;refine ⟨NQ,.slice d4 NL c4,.slice f4 NP fc,by rw [HKD.out,(qN src prev key q a2.toNat).1,(qN src prev key q a2.toNat).2],?_,?_⟩
       ·exact (((HD.only Nr (fun g hg=>by rw [mSg] at hg;left;omega)).only Ns (fun g hg=>by rw [mSg] at hg;left;omega)).only Nt (fun g hg=>by rw [mSg] at hg;left;omega)).mono Mf Mf
       ·exact (((HF.only Nr (fun g hg=>by rw [mSg] at hg;left;omega)).only Ns (fun g hg=>by rw [mSg] at hg;left;omega)).only Nt (fun g hg=>by rw [mSg] at hg;left;omega)).mono Mf Mf
      ·have hmm:=HM.out
       have HNx:Hid (FE=fV src prev key a2 most (a1+1-(q+1)).toNat (q+1)):=lh (by rw [HEq.out,show (a1+1-q).toNat=((a1+1-(q+1)).toNat+1) by omega];exact jW HCk (by rw [<- HNL.out];omega));have hqq:IntKind.i64.wrap (q+1)=q+1:=Mi;go_wp2_with fail;exact ⟨⟨q+1,Mf,Mf,by first | rfl | rw [hqq],HNx,lh (fun _=>⟨q,HCk.out⟩),lh ((QY.q HQe).q NJ)⟩,by simp only [intOf];omega⟩
    ·obtain rfl:q=a1+1:=Mf
     obtain ⟨p,hp⟩:=UF.out Mf;have hc:=fK hp;have Pb:=hc.1;have HMt:=lh hc.2.1;have HX:Hid (FE=.ok (if key then (⟨4,[]⟩,ed src.W src.H 128) else (⟨3,[]⟩,prev))):=lh (by rw [HEq.out,show (a1+1-(a1+1)).toNat=0 by omega];rfl);clear hc hp UF HEq HEn;obtain ⟨s0,s1,s2⟩:=ag Ou;cases key with
     | true =>
      have hn:io src.W src.H 128=true:=gV.2 ⟨⟨Pb.w0,Pb.w1,Pb.w8⟩,⟨Pb.h0,Pb.h1,Pb.h8⟩,Mn,Mn⟩;have HNw:=lh ((xm src.W src.H 128 wr).mono (R':=fun e w'=>ae [] wr w'/\∃ g cap,e=.returned (.tuple #[.agg #[src.W,src.H,.slice (some ⟨g,0,none⟩) (ed src.W src.H 128).pix.length cap],.agg #[(),JEu]])/\Own .i64 3 wr.heap.size w' (.slice (some ⟨g,0,none⟩) (ed src.W src.H 128).pix.length cap) (ed src.W src.H 128).pix) (fun e w' h=>by unfold pw at h;rw [hn] at h;exact h));have Xu:Hid ((ed src.W src.H 128).W=src.W/\(ed src.W src.H 128).H=src.H):=lh ⟨rfl,rfl⟩;have HEr:Hid (FE=.ok (⟨4,[]⟩,ed src.W src.H 128)):=lh HX;clear hn Pb HX HMt;generalize ed src.W src.H 128=F0 at *
      obtain ⟨NL,hNL⟩:∃ z,z=F0.pix.length:=⟨_,rfl⟩
      rw [<- hNL] at HNw;clear hNL;go_wp2_with fail;clear s0 s1 s2 k0 k1 k2 k3 k4 k5 k6 k7;go_at_call 38;refine HNw.mono ?_;rintro e w8 ⟨hq,g0,PB,rfl,MQ⟩;have HIf:=lh MQ.ints;have SV:=lh hq.size;replace Ou:=lh (hq.row Ou);replace Pl:=lh (hq.row Pl);replace Rp:=lh (hq.row Rp);replace OE:=lh (hq.row OE);replace Pj:=lh (hq.row Pj);replace Pi:=lh (hq.row Pi);replace HQ:=lh (HQ.q hq);clear hq MQ HNw;obtain ⟨f1,f2,f3,f4,f5,f6⟩:=uY w8 #[(),(),JEu] #[src.W,src.H,.slice (some ⟨g0,0,none⟩) NL PB] 24 #[(),JEu] #[(),JEu] 39;have F1:=lh f1;have F2:=lh f2;have F3:=lh f3;have ZR:=lh f4;have Yr:=lh f5;clear f1 f2 f3 f4 f5 f6;go_upto_region 13 with (first
       | (refine aq rfl (.tmp 17) (.tmp 70) 24 rfl rfl rfl F1 (cR _ _ _) rfl (by first | kernel_rfl | simp [Value.oneCell']) ?_)
       | (refine aq rfl (.tmp 18) (.tmp 71) 39 rfl rfl rfl F2 (cO _ _) rfl (by first | kernel_rfl | simp [Value.oneCell']) ?_)
       | fail)
      generalize hW9:World.setRow (World.setRow _ _ _) _ _=W9 at *
      clear hW9 F1 F2;replace Ou:=lh (F3.row Ou);replace Pl:=lh (F3.row Pl);replace Rp:=lh (F3.row Rp);replace OE:=lh (F3.row OE);replace Pj:=lh (F3.row Pj);replace Pi:=lh (F3.row Pi);replace HQ:=lh (HQ.q F3);replace HIf:=lh (HIf.quiet F3);have HZs:=lh F3.size;clear F3;obtain ⟨BV,hBV⟩:∃ z,z=w8.heap.size:=⟨_,rfl⟩
      rw [<- hBV] at ZR Yr |-
      have hzx:=PM.out;have Ys:Hid (w.heap.size+1+1+1+1+1<wr.heap.size):=PM;replace PM:Hid (w.heap.size+1+1+1+1+1<BV):=lh (by have:=SV.out;omega);clear hBV hzx;refine wp_region_held_drew (S:=(fun wz=>wz.heap[BV]?=some (.cells #[src.W,src.H,.slice (some ⟨g0,0,none⟩) NL PB] 24 (0,0))/\wz.heap[BV+1]?=some (.cells #[(),JEu] 39 (0,0)))) Mh ?_ (fun hHeld=>?_)
      ·exact ⟨ZR,Yr.out⟩
      refine tkw 0 72 ⟨rfl,by intro wz OP;go_simp;try with_reducible rfl⟩ ?_;refine tkw 1 73 ⟨rfl,by intro wz OP;obtain ⟨v0,v1,v2⟩:=ag OP.1;go_simp;try with_reducible rfl⟩ ?_;refine tkw 2 74 ⟨rfl,by intro wz OP;obtain ⟨v0,v1,-⟩:=aJ OP.2;go_simp;try with_reducible rfl⟩ ?_;refine rdy (rdn 3 (fun K hK=>?_) .nil);refine aL (.tmp 10) (.tmp 72) 31 rfl (g:=(w.heap.size+1+1+1)) (c':=#[.int .i64 4,JEu]) rfl rfl OE (dm _ _) rfl (by first | kernel_rfl | simp [Value.oneCell']) (fun Xq Nr Xl=>?_);replace Nr:ae [(w.heap.size+1+1+1)] W9 Xq:=by first | exact Nr | exact ((ae.refl [] W9).drew.mono (U:=[(w.heap.size+1+1+1)]) Mg).trans Nr (fun g h _=>h) (fun g h _=>h)
      have r01:=Nr.rowAt Pj Ml;have r02:=Nr.rowAt Pi Ml;have Zt:=Nr.rowAt ZR (by rw [mSg];have:=PM.out;omega);have sb0:=Nr.rowAt Yr (by rw [mSg];have:=PM.out;omega);refine hK.out _ _ ?_ (fun hHeld=>?_)
      ·exact ⟨Zt,sb0⟩
      clear hK K;refine rdy (rdn 4 (fun K hK=>?_) .nil);refine aL (.tmp 11) (.tmp 73) 24 rfl (g:=(w.heap.size+1+1+1+1)) (c':=#[src.W,src.H,.slice (some ⟨g0,0,none⟩) NL PB]) rfl rfl r01 (cR _ _ _) rfl (by first | kernel_rfl | simp [Value.oneCell']) (fun Xr Ns Xm=>?_);replace Ns:ae [(w.heap.size+1+1+1+1)] Xq Xr:=by first | exact Ns | exact ((ae.refl [] Xq).drew.mono (U:=[(w.heap.size+1+1+1+1)]) Mg).trans Ns (fun g h _=>h) (fun g h _=>h)
      have r10:=Ns.rowAt Xl Ml;have r12:=Ns.rowAt r02 Ml;have sa1:=Ns.rowAt Zt (by rw [mSg];have:=PM.out;omega);have sb1:=Ns.rowAt sb0 (by rw [mSg];have:=PM.out;omega);refine hK.out _ _ ?_ (fun hHeld=>?_)
      ·exact ⟨sa1,sb1⟩
      clear hK K;refine rdy (rdn 5 (fun K hK=>?_) .nil);refine aL (.tmp 12) (.tmp 74) 39 rfl (g:=(w.heap.size+1+1+1+1+1)) (c':=#[(),JEu]) rfl rfl r12 (cO _ _) rfl (by first | kernel_rfl | simp [Value.oneCell']) (fun wy2 Nt Xn=>?_);replace Nt:ae [(w.heap.size+1+1+1+1+1)] Xr wy2:=by first | exact Nt | exact ((ae.refl [] Xr).drew.mono (U:=[(w.heap.size+1+1+1+1+1)]) Mg).trans Nt (fun g h _=>h) (fun g h _=>h)
      have r20:=Nt.rowAt r10 Ml;have r21:=Nt.rowAt Xm Ml;have sa2:=Nt.rowAt sa1 (by rw [mSg];have:=PM.out;omega);have sb2:=Nt.rowAt sb1 (by rw [mSg];have:=PM.out;omega);refine hK.out _ _ ?_ (fun hHeld=>?_)
      ·exact ⟨sa2,sb2⟩
      clear hK K;refine wpAnyH_done Mh ?_ _;go_wp2_with fail;have NQ:ae [] w _:=((HQ.trans Nr (U:=[]) Mg (fun g hg hl=>Mj)).trans Ns (U:=[]) Mg (fun g hg hl=>Mj)).trans Nt (U:=[]) Mg (fun g hg hl=>Mj);have R0:=r20;have R1:=r21;have R2:=Xn;refine bodyPost_ret (eZ Tryz.results17 _ _ (w.heap.size+1+1+1) (w.heap.size+1+1+1+1) (w.heap.size+1+1+1+1+1) _ _ _ _ _ _ _ _ _ _ _ _ rfl rfl rfl R0 R1 R2 Tryz.underlying31 rfl (dm _ _) Tryz.underlying24 rfl (cR _ _ _) Tryz.underlying39 rfl (cO _ _)) rfl (MM.out _ _ ?_);rw [HEr.out];have Ts:=Ys.out;have hzr:=SV.out;have hzs:=HZs.out;have YT:=Nr.size;have JkF:=Ns.size;have JkG:=Nt.size;refine ⟨NQ,.slice none 0 0,.slice (some ⟨g0,0,none⟩) NL PB,by rw [Xu.1,Xu.2],ah.nil _ _ _ _,?_⟩;exact BL
     | false =>
      have Xi:=(jE (HMt.out rfl)).1;have Pf:prev.pix.length<=1000000000:=by have h1:(prev.pix.length:Int)=prev.W*prev.H:=Xi.len;have h2:prev.W*prev.H<=32*32:=Int.mul_le_mul Xi.w1 Xi.h1 (by have:=Xi.h0;omega) Mf;omega
      have HEr:Hid (FE=.ok (⟨3,[]⟩,prev)):=lh HX;have Jmm:=lh (HCp.out wr HQ Pf);clear Xi Pf Pb HX HMt;obtain ⟨p0,p1,p2⟩:=ag Pl;go_wp2_with fail;clear s0 s1 s2 p0 p1 p2 k0 k1 k2 k3 k4 k5 k6 k7;go_at_call 8;refine Jmm.mono ?_;rintro e w8 ⟨v8,rfl,MQ,hq⟩;have MX:=MQ.ints;obtain ⟨pa8,pc8,rfl,-⟩:=MX.open;have HIf:=lh MX;obtain ⟨NP8,hNP⟩:∃ z,z=prev.pix.length:=⟨_,rfl⟩
      rw [<- hNP] at HIf |-
      have SV:=lh hq.size;replace OE:=lh (hq.row OE);replace Pj:=lh (hq.row Pj);replace Pi:=lh (hq.row Pi);replace HQ:=lh (HQ.q hq);clear hq MQ MX Jmm HCp hNP Ou Pl Rp;have QH:=ae.setRow (S:=[w.heap.size+1+1+1]) (ae.refl _ w8) (g:=w.heap.size+1+1+1) (fun _=>Mg) #[.int .i64 3,JEu];have NT:=lh (QH.rowAt Pj Ml);have MP:=ae.setRow (S:=[w.heap.size+1+1+1+1]) (ae.refl _ (w8.setRow (w.heap.size+1+1+1) #[.int .i64 3,JEu])) (g:=w.heap.size+1+1+1+1) (fun _=>Mg) #[prev.W,prev.H,.slice pa8 NP8 pc8];have OH:=lh (MP.rowAt (QH.rowAt Pi Ml) Ml);have MV:=ae.setRow (S:=[w.heap.size+1+1+1+1+1]) (ae.refl _ ((w8.setRow (w.heap.size+1+1+1) #[.int .i64 3,JEu]).setRow (w.heap.size+1+1+1+1) #[prev.W,prev.H,.slice pa8 NP8 pc8])) (g:=w.heap.size+1+1+1+1+1) (fun _=>Mg) #[(),JEu];have HT0:=lh (MV.rowAt (MP.rowAt (setRow_heap w8 (w.heap.size+1+1+1) _ #[.int .i64 3,JEu] _ _ OE) Ml) Ml);have HT1:=lh (MV.rowAt (setRow_heap (w8.setRow (w.heap.size+1+1+1) #[.int .i64 3,JEu]) (w.heap.size+1+1+1+1) _ #[prev.W,prev.H,.slice pa8 NP8 pc8] _ _ NT) Ml);have HT2:=lh (setRow_heap ((w8.setRow (w.heap.size+1+1+1) #[.int .i64 3,JEu]).setRow (w.heap.size+1+1+1+1) #[prev.W,prev.H,.slice pa8 NP8 pc8]) (w.heap.size+1+1+1+1+1) _ #[(),JEu] _ _ OH);have Nf:=lh (And.intro QH (And.intro MP MV));clear QH MP MV
      go_wp2_with (first
       | (refine aq rfl (.tmp 10) (.tmp 75) 31 rfl rfl rfl OE (dm _ _) rfl (by first | kernel_rfl | simp [Value.oneCell']) ?_)
       | (refine aq rfl (.tmp 11) (.tmp 77) 24 rfl rfl rfl NT (cR _ _ _) rfl (by first | kernel_rfl | simp [Value.oneCell']) ?_)
       | (refine aq rfl (.tmp 12) (.tmp 78) 39 rfl rfl rfl OH (cO _ _) rfl (by first | kernel_rfl | simp [Value.oneCell']) ?_)
       | fail)
      obtain ⟨Nr,Ns,Nt⟩:=Nf.out;have NQ:ae [] w _:=((HQ.trans Nr (U:=[]) Mg (fun g hg hl=>Mj)).trans Ns (U:=[]) Mg (fun g hg hl=>Mj)).trans Nt (U:=[]) Mg (fun g hg hl=>Mj);have R0:=HT0.out;have R1:=HT1.out;have R2:=HT2.out;refine bodyPost_ret (eZ Tryz.results17 _ _ (w.heap.size+1+1+1) (w.heap.size+1+1+1+1) (w.heap.size+1+1+1+1+1) _ _ _ _ _ _ _ _ _ _ _ _ rfl rfl rfl R0 R1 R2 Tryz.underlying31 rfl (dm _ _) Tryz.underlying24 rfl (cR _ _ _) Tryz.underlying39 rfl (cO _ _)) rfl (MM.out _ _ ?_);rw [HEr.out];have Ts:=PM.out;have hzr:=SV.out;have YT:=Nr.size;have JkF:=Ns.size;have JkG:=Nt.size;refine ⟨NQ,.slice none 0 0,.slice pa8 NP8 pc8,rfl,ah.nil _ _ _ _,?_⟩;exact BL
end
theorem CU {src prev:ai} {key:Bool} {q r c:Int} (h:bP src prev key q r=some c):c≠0:=qg h
theorem Dr {lo hi lo' hi':Nat} {sv pv:Value} {src prev:ai} {w:World} (key:Bool) (qp reach:Int) (hs:ah .i64 lo hi w sv src.pix) (hp:ah .i64 lo' hi' w pv prev.pix) (hh:hi<=w.heap.size) (UZ:hi'<=w.heap.size) :
  Calls Tryz.prog 10 #[.agg #[src.W,src.H,sv],.agg #[prev.W,prev.H,pv],.bool key,qp,reach] w (IU (Ai src prev key qp reach) (Ah src prev key qp reach) (.agg #[.int .i64 ((bP src prev key qp reach).getD 0),JEu]) w):=by
 refine (xk key qp reach hs hp hh UZ).mono ?_;rintro e w' ⟨hq,hm⟩;cases h:bP src prev key qp reach with
 | some k =>
  rw [h] at hm;rw [(uW h).1,(uW h).2];exact ⟨hq,none,0,none,0,hm,ah.nil _ _ _ _,ah.nil _ _ _ _⟩
 | none =>
  rw [h] at hm;obtain ⟨dv,fv,rfl,hd,hf⟩:=hm;rw [(uV h).1,(uV h).2];obtain ⟨d,n,rfl,-⟩:=hd.open;obtain ⟨f0,n0,rfl,-⟩:=hf.open;exact ⟨hq,d,n,f0,n0,by rw [(nH h).2.1,(nH h).2.2];rfl,hd,hf⟩
def wM (src prev:ai) (key:Bool) (c:Cfg) (most:Int):Option Int:=match kE src prev key c most with
 | .error k=>some k
 | .ok _=>none
theorem IZ (src prev:ai) (key:Bool) (c:Cfg) (most:Int):ER src prev key c most=mG (wM src prev key c most):=by
 unfold ER wM;cases kE src prev key c most <;> rfl
theorem IY {src prev:ai} {key:Bool} {c:Cfg} {most k:Int} (h:wM src prev key c most=some k):k≠0:=by
 unfold wM at h
 split at h
 ·rename_i j e
  injection h with h;subst h
  unfold kE at e
  split at e
  ·injection e with e;omega
  ·split at e
   ·injection e with e;omega
   ·obtain ⟨p,-,-,hp⟩:=pE _ _ e
    exact qg hp
 ·cases h
theorem Dt {lo hi lo' hi':Nat} {sv pv:Value} {src prev:ai} {w:World} (key:Bool) (c:Cfg) (most:Int) (hs:ah .i64 lo hi w sv src.pix) (hp:ah .i64 lo' hi' w pv prev.pix) (hh:hi<=w.heap.size) (UZ:hi'<=w.heap.size) :
  Calls Tryz.prog 17 #[.agg #[src.W,src.H,sv],.agg #[prev.W,prev.H,pv],.bool key,c.v,most] w (IU (EQ src prev key c most) (EP src prev key c most) (.agg #[.int .i64 ((wM src prev key c most).getD 0),JEu]) w):=by
 refine (Fz key c most hs hp hh UZ).mono ?_;rintro e w' ⟨hq,hm⟩;unfold EQ EP wM;cases h:kE src prev key c most with
 | error k =>
  rw [h] at hm;exact ⟨hq,none,0,none,0,hm,ah.nil _ _ _ _,ah.nil _ _ _ _⟩
 | ok x =>
  rw [h] at hm;obtain ⟨dv,fv,rfl,hd,hf⟩:=hm;obtain ⟨d,n,rfl,-⟩:=hd.open;obtain ⟨f0,n0,rfl,-⟩:=hf.open;exact ⟨hq,d,n,f0,n0,rfl,hd,hf⟩
theorem tj {o:Option Int} (OT:∀ c,o=some c->c≠0) {W:World} (hE:kJ W):Calls Tryz.prog 13 #[mG o,.agg #[.int .i64 (o.getD 0),JEu]] W fun e w'=>e=.returned (.bool true)/\ae [] W w':=by
 cases o with
 | some c=>exact rY (v:=.iface 36 (.int .i64 c)) (sv:=.slice none 0 0) (o:=some ⟨[],c⟩) (c:=c) (p:=[]) (w:=W) (lo:=0) (hi:=0) (lo':=0) (hi':=0) (gN.code 0 0 W c) (Mc _) hE Mg (cT.nil _ _ _ _) (by have:=OT c rfl;simp [this]) rfl rfl
 | none=>exact rY (v:=.nilIface) (sv:=.slice none 0 0) (o:=none) (c:=0) (p:=[]) (w:=W) (lo:=0) (hi:=0) (lo':=0) (hi':=0) rfl (Mc _) hE Mg (cT.nil _ _ _ _) rfl rfl rfl
end Go.Proofs.YthcafdfdglfabaaGreatDoor
