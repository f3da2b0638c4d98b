/- Joined texts: EEndW, EPack. Conditions: each part names its own. -/
import Derived.Test.YthcafdfdglfabaaGreatDoorW4
import Derived.Test.YthcafdfdglfabaaGreatDoorA2
namespace Go.Proofs.YthcafdfdglfabaaGreatDoor
open Go.RowKit
set_option linter.unusedVariables false
set_option linter.unusedSimpArgs false
set_option maxRecDepth 100000
set_option maxHeartbeats 16000000
section
theorem Cb {p:Prop} (h:p:=by
 obtain ⟨g2,Rj,hv2,-,-⟩:=Om.form Mg;rw [<- Vl.out] at hv2;subst hv2;have Sb:=lh Om;have Na:=lh MV;clear Om JaU;refine hK.out _ _ ?_ (fun hHeld=>?_)
 ·exact TV _ MV
 clear hK K
 try simp only [Act.put,Lg,Lj,Lk]
 refine tk 31 3 ?_;refine wpAnyH_done Mh ?_ _;have Re:=Sb.out;rw [<- HL.out] at Re;have HLN:Hid (L.length=N):=lh (by rw [HL.out,Vl.out]);have Ql:=lh Re;rw [<- HL.out] at HEW;clear Re Sb HL Vl;go_wp2_with fail;have JoO:N<=Rj:=by have:=Ql.ints.open;obtain ⟨a,c,e,h1,-⟩:=this;injection e with e1 e2 e3;rw [e3,<- HLN.out];exact h1
 have Jhz:Rj<=maxLen:=by have:=Ql.ints.open;obtain ⟨a,c,e,-,h1,-⟩:=this;injection e with e1 e2 e3;rw [e3];exact h1
 have Jfl:=lh (And.intro JoO Jhz);clear Jhz;go_loopw [3] (fun v wr=>∃ k:Nat,k<=N/\v=.slice (some ⟨g2,0,none⟩) k Rj/\Hid (cz (L.take k)=cz L)/\w2=wr) (fun v _=>match v with | .slice _ n _=>n | _=>0)
 case atStart=>exact ⟨N,Lm _,rfl,lh (by rw [List.take_of_length_le (by rw [HLN.out];exact Lm _)]),by first | rfl | skip⟩
 case round =>
  obtain ⟨k,hk,rfl,Hk,rfl⟩:=hrel;cases k with
  | zero =>
   go_wp2_with fail;refine MM.out _ _ ⟨_,rfl,?_,Na.out⟩;rw [HEW.out,<- Hk.out];exact ⟨⟨rfl,some ⟨g2,0,none⟩,Rj,rfl,Mc _,Jfl.2,fun h=>absurd h (by simp [cz])⟩,by simp [cz]⟩
  | succ k =>
   have PH:k<L.length:=by rw [HLN.out];omega
   have cx:=Ql.cellS HLN.symm PH;have Ny:(k:Int)<((k+1:Nat):Int):=Mf;have NU:(0:Int)<=(k:Int):=Mf;have e1:IntKind.i64.wrap (((k+1:Nat):Int)-1)=(k:Int):=Mi;have e2:(0:Int)<((k+1:Nat):Int):=Mf;have e3:(((k+1:Nat):Int)-1)=(k:Int):=Mf;have hkc:k<=Rj:=Mf;have Hz:=lh (fun h=>pX PH h);have Hl:=lh (fun h=>pW PH h);have Uo:∀ W:World,(Instr.slice 29 (.slice (some ⟨g2,0,none⟩) (k+1) Rj) none (some (.int .i64 (k:Int))) none).run Tryz.prog W=.ok (.slice (some ⟨g2,0,none⟩) k Rj) W:=fun W=>yC k rfl hkc W
   generalize L.getD k 0=z at *
   by_cases hz:z=0
   ·subst hz
    have Hn:Hid (cz (L.take k)=cz L):=lh (by rw [<- Hk.out,Hz.out rfl]);clear Hz Hl;go_wp2_with fail;exact ⟨⟨k,Mf,rfl,Hn,by first | rfl | trivial⟩,Mg⟩
   ·have Hn:Hid (L.take (k+1)=cz L):=lh (by rw [<- Hl.out hz,Hk.out])
    clear Hz Hl;go_wp2_with fail;refine MM.out _ _ ⟨_,rfl,?_,Na.out⟩;rw [HEW.out,<- Hn.out];have hI3:=Ql.ints;rw [<- HLN.out] at hI3;have hi:=hI3.sub (Mc (k+1)) (by rw [HLN.out];exact hk) Rj (Lm _) Mf;simpa using hi):p:=h
theorem Cc {p:Prop} (h:p:=by
 rw [LQ] at MN;obtain ⟨x1,x1c,OB,-⟩:=MN.ints.open;subst OB;have Oy:=lh (MN.lower (base':=w.heap.size) Mg);clear MN NH;refine hK.out _ _ ?_ (fun hHeld=>?_)
 ·exact TV _ MP
 clear hK K
 try simp only [Act.put,Lg,Lj,Lk]
 refine rdy (rdc 30 34 (fun K hK=>?_) .nil);refine ce rfl (.tmp 9) (.tmp 33) _ rfl E8 (Oy.quiet (ae.refl [] w1)) rfl (HS4.out) rfl Mq (by have:=MT.size;simp;try omega) (fun v2 w2 Om JaU=>?_);have MV:ae [] w w2:=(MT.q (ae.refl [] w1)).acc JaU (by intro g hg;have:=Oy.at g hg;omega);exact Cb):p:=h
theorem EE {base E:Nat} {ov:Value} {m:Wrt} {w:World} (h:ft base E w ov m) (ok:cd m) (hn:m.n<=1000000000) :
  Calls Tryz.prog 86 #[.pointer (some ⟨E,0,none⟩)] w fun e w'=>(∃ v',e=.returned v'/\ah .u8 w.heap.size w'.heap.size w' v' (gS m)/\ae [] w w'):=by
 refine aN fun Q MM=>?_
 obtain ⟨c0,c1,c2⟩:=fG h.row;have hew:=EL m ok.n4;have WC:0<=m.lo % 4294967296/\m.lo % 4294967296<4294967296:=Mf;obtain ⟨LL,hLL⟩:∃ z,z=m.lo % 4294967296:=⟨_,rfl⟩
 have d0:m.lo / 16777216 % 256=LL / 16777216 % 256:=Mf;have d1:m.lo / 65536 % 256=LL / 65536 % 256:=Mf;have d2:m.lo / 256 % 256=LL / 256 % 256:=Mf;have d3:m.lo % 256=LL % 256:=Mf;rw [d0,d1,d2,d3] at hew;rw [<- hLL] at c1 WC;have w0:IntKind.u8.wrap (LL / 16777216)=LL / 16777216 % 256:=by simp [IntKind.wrap,IntKind.bits,IntKind.signed]
 have w1':IntKind.u8.wrap (LL / 65536)=LL / 65536 % 256:=by simp [IntKind.wrap,IntKind.bits,IntKind.signed]
 have w2':IntKind.u8.wrap (LL / 256)=LL / 256 % 256:=by simp [IntKind.wrap,IntKind.bits,IntKind.signed]
 have w3':IntKind.u8.wrap LL=LL % 256:=by simp [IntKind.wrap,IntKind.bits,IntKind.signed]
 obtain ⟨y0,Sr⟩:∃ z,z=LL / 16777216 % 256:=⟨_,rfl⟩
 obtain ⟨y1,YX⟩:∃ z,z=LL / 65536 % 256:=⟨_,rfl⟩
 obtain ⟨y2,hy2⟩:∃ z,z=LL / 256 % 256:=⟨_,rfl⟩
 obtain ⟨y3,hy3⟩:∃ z,z=LL % 256:=⟨_,rfl⟩
 rw [<- Sr,<- YX,<- hy2,<- hy3] at hew;rw [<- Sr] at w0;rw [<- YX] at w1';rw [<- hy2] at w2';rw [<- hy3] at w3';have HEW:=lh hew;have MX:∀ z∈[y0,y1,y2,y3],InK .u8 z:=by simp only [Lh,Li,or_false,forall_eq_or_imp,forall_eq,InK];omega
 have Ye:=lh h.own;have Uo:(kn m).length<=1000000000:=by rw [oF];omega
 obtain ⟨S0,UQ⟩:∃ z,z=kn m:=⟨_,rfl⟩
 rw [<- UQ] at HEW Ye Uo;have JiU:=lh (fun (W:World)=>bg (k:=.u8) (w:=W) (t:=5) (l:=[y0,y1,y2,y3]) rfl Mo MX 4 rfl rfl);have JiE:=lh (fun (W:World)=>kW (k:=.u8) (w:=W) (t:=5) (l:=[]) (vs:=#[]) rfl Mg Mg 0 rfl rfl);have TV:Hid (∀ W',ae [] w W'->W'.cell? ⟨E,0,none⟩=some ov/\W'.cell? ⟨E,1,none⟩=some (.int .u64 LL)):=lh (fun W' o=>⟨o.cell c0 Mg,o.cell c1 Mg⟩);have hA:ae [] w (w.alloc (.cells #[] 5)).drew:=(ae.new w _).drew;have hB:ae [] w ((w.alloc (.cells #[] 5)).alloc (.cells #[.int .u8 y0,.int .u8 y1,.int .u8 y2,.int .u8 y3] 5)).drew:=((ae.new w _).alloc _).drew;have hC:ae [] w ((w.alloc (.cells #[.int .u8 y0,.int .u8 y1,.int .u8 y2,.int .u8 y3] 5)).alloc (.cells #[] 5)).drew:=((ae.new w _).alloc _).drew;have hD:ae [] w (w.alloc (.cells #[.int .u8 y0,.int .u8 y1,.int .u8 y2,.int .u8 y3] 5)).drew:=(ae.new w _).drew;have HA:=lh hA;have HB:=lh hB;have HC:=lh hC;have HD:=lh hD;have Jnq:Hid ((w.alloc (.cells #[] 5)).heap.size=w.heap.size+1/\(w.alloc (.cells #[.int .u8 y0,.int .u8 y1,.int .u8 y2,.int .u8 y3] 5)).heap.size=w.heap.size+1):=lh Mg;have hnc:=JiE.out (w.alloc (.cells #[.int .u8 y0,.int .u8 y1,.int .u8 y2,.int .u8 y3] 5));rw [Jnq.2] at hnc;have JmG:=lh hnc;clear hnc;obtain ⟨l0,l1⟩:=WC;clear h ok hew hLL d0 d1 d2 d3 Sr YX hy2 hy3 MX UQ hA hB hC hD;obtain ⟨L,hL⟩:∃ z,z=S0 ++ [y0,y1,y2,y3]:=⟨_,rfl⟩
 obtain ⟨N,hN⟩:∃ z,z=(S0 ++ [y0,y1,y2,y3]).length:=⟨_,rfl⟩
 have Vl:=lh hN;have HL:=lh hL;have JBc:N<=1000000004:=by rw [hN];simp;omega
 clear hN hL;go_enter Tryz.func86,Tryz.ntmps86;go_wp2_with fail;refine wp_region_held_drew (S:=(fun w'=>w'.cell? ⟨E,0,none⟩=some ov/\w'.cell? ⟨E,1,none⟩=some (.int .u64 LL))) Mh ?_ (fun hHeld=>?_)
 ·exact ⟨c0,c1⟩
 refine tk 1 5 ?_;refine tk 2 6 ?_;refine tk 3 7 ?_;refine tk 4 8 ?_;refine tk 6 10 ?_;refine tk 7 11 ?_;refine tk 8 12 ?_;refine tk 9 13 ?_;refine tk 10 14 ?_;refine tk 11 15 ?_;refine tk 12 16 ?_;refine tk 13 17 ?_;refine tk 14 18 ?_;refine tk 15 19 ?_;refine tk 16 20 ?_;refine tk 17 21 ?_;refine tk 18 22 ?_;refine tk 19 23 ?_;refine tk 20 24 ?_;refine tk 21 25 ?_;refine tk 22 26 ?_;refine tk 23 27 ?_;refine tk 24 28 ?_;refine tk 25 29 ?_;refine tk 26 30 ?_;refine tk 27 31 ?_;refine tk 28 32 ?_;refine rdy (rdc 0 4 (fun K hK=>?_) (rdc 29 33 (fun K hK=>?_) .nil))
 ·go_simp
  refine hK.out _ _ ?_ (fun hHeld=>?_)
  ·exact TV _ HA
  clear hK K
  try simp only [Act.put,Lg,Lj,Lk]
  refine rdy (rdc 5 9 (fun K hK=>?_) (rdc 29 33 (fun K hK=>?_) .nil))
  ·refine ce rfl (.tmp 4) (.tmp 8) _ rfl E8 ((JiE.out w).quiet (ae.refl [] _).drew) rfl (Ye.ints.quiet HA) rfl Mq (by simp;try omega) (fun v1 w1 MN NH=>?_)
   have MP:ae [] w w1:=HA.acc NH (bB.lit (by simp;try omega));have MT:=lh MP;rw [LQ] at MN;obtain ⟨x1,x1c,OB,-⟩:=MN.ints.open;subst OB;have Oy:=lh (MN.lower (base':=w.heap.size) Mg);clear MN NH;refine hK.out _ _ ?_ (fun hHeld=>?_)
   ·exact TV _ MP
   clear hK K
   try simp only [Act.put,Lg,Lj,Lk]
   refine rdy (rdc 29 33 (fun K hK=>?_) .nil);go_simp;refine hK.out _ _ ?_ (fun hHeld=>?_)
   ·exact TV _ (MT.q (ae.new w1 (.cells #[.int .u8 y0,.int .u8 y1,.int .u8 y2,.int .u8 y3] 5)))
   clear hK K
   try simp only [Act.put,Lg,Lj,Lk]
   refine rdy (rdc 30 34 (fun K hK=>?_) .nil);refine ce rfl (.tmp 9) (.tmp 33) _ rfl E8 (Oy.quiet (ae.new w1 (.cells #[.int .u8 y0,.int .u8 y1,.int .u8 y2,.int .u8 y3] 5))) rfl (JiU.out w1) rfl Mq (by have:=MT.size;simp;try omega) (fun v2 w2 Om JaU=>?_);have MV:ae [] w w2:=(MT.q (ae.new w1 (.cells #[.int .u8 y0,.int .u8 y1,.int .u8 y2,.int .u8 y3] 5))).acc JaU (by intro g hg;have:=Oy.at g hg;omega);exact Cb
  ·go_simp
   refine hK.out _ _ ?_ (fun hHeld=>?_)
   ·exact TV _ HB
   clear hK K
   try simp only [Act.put,Lg,Lj,Lk]
   refine rdy (rdc 5 9 (fun K hK=>?_) .nil);refine ce rfl (.tmp 4) (.tmp 8) _ rfl E8 (((JiE.out w).quiet (ae.new _ (.cells #[.int .u8 y0,.int .u8 y1,.int .u8 y2,.int .u8 y3] 5))).quiet (ae.refl [] _).drew) rfl (Ye.ints.quiet HB) rfl Mq (by simp;try omega) (fun v1 w1 MN NH=>?_);have MP:ae [] w w1:=HB.acc NH (bB.lit (by simp;try omega));have MT:=lh MP;have h4:=JiU.out (w.alloc (.cells #[] 5));rw [Jnq.1] at h4;have HS4:=lh ((h4.quiet (ae.refl [] _).drew).only NH.only (fun g hg=>by simp [Value.ownBlock] at hg;omega));exact Cc
 ·go_simp
  refine hK.out _ _ ?_ (fun hHeld=>?_)
  ·exact TV _ HD
  clear hK K
  try simp only [Act.put,Lg,Lj,Lk]
  refine rdy (rdc 0 4 (fun K hK=>?_) .nil);go_simp;refine hK.out _ _ ?_ (fun hHeld=>?_)
  ·exact TV _ HC
  clear hK K
  try simp only [Act.put,Lg,Lj,Lk]
  refine rdy (rdc 5 9 (fun K hK=>?_) .nil);refine ce rfl (.tmp 4) (.tmp 8) _ rfl E8 (JmG.quiet (ae.refl [] _).drew) rfl (Ye.ints.quiet HC) rfl Mq (by simp;try omega) (fun v1 w1 MN NH=>?_);have MP:ae [] w w1:=HC.acc NH (bB.lit (by simp;try omega));have MT:=lh MP;have HS4:=lh ((((JiU.out w).quiet (ae.new _ (.cells #[] 5))).quiet (ae.refl [] _).drew).only NH.only (fun g hg=>by simp [Value.ownBlock] at hg;omega));exact Cc
end
section
theorem IK {base R E:Nat} {F:List Nat} {m:Wrt} {w:World} (h:(pcWrite base R E).At F w m) (hn:m.n<=1000000000) :
  Calls Tryz.prog 35 #[.pointer (some ⟨R,0,none⟩)] w fun e w'=>∃ v',e=.returned v'/\ah .u8 w.heap.size w'.heap.size w' v' (gS m)/\ae [] w w':=by
 obtain ⟨ov,rfl,hw⟩:=h;have HE:=lh (EE hw.enc hw.ok hn);have c1:=hw.ptr;clear hw;go_enter Tryz.func35,Tryz.ntmps35;go_wp2_with fail;go_at_call 86;refine HE.mono ?_;rintro e w2 ⟨v',rfl,hi,hq⟩;have HI:=lh hi;have HQ:=lh hq;clear hi hq;go_wp2_with fail;go_ret;exact ⟨v',rfl,HI.out,HQ.out⟩
theorem Gg {lo hi:Nat} {k q:Int} {dv:Value} {D:List Int} {w:World} (h:ah .u8 lo hi w dv D) (hl:D.length<65536) (hk:k=1\/k=2) (hq:0<=q/\q<=15) :
  Calls Tryz.prog 34 #[.agg #[k,q,dv]] w fun e w'=>(∃ v',e=.returned (.tuple #[.agg #[k,v'],.nilIface])/\ah .u8 w.heap.size w'.heap.size w' v' (q :: D)/\ae [] w w'):=by
 refine aN fun Q MM=>?_
 have HKi:=lh (fun W=>(by have:=FF k W;rw [show rj k=true by unfold rj;simp;omega] at this;exact this));have HBa:=lh (fun W=>(by have:=Ev k W;rw [show qC k=false by unfold qC;simp;omega] at this;exact this));obtain ⟨da,dc,rfl,-⟩:=h.open;have Na:Hid (ae [] w ((w.alloc (.cells #[k,q,.slice da D.length dc] 85)).alloc (.cells #[(),JEu] 31))):=lh ((ae.new w _).alloc _);have Nq:Hid (((w.alloc (.cells #[k,q,.slice da D.length dc] 85)).alloc (.cells #[(),JEu] 31)).heap[w.heap.size]?=some (.cells #[k,q,.slice da D.length dc] 85 (0,0))):=lh ((ae.new (w.alloc _) _).row (heap_alloc_new w _));have Px:Hid (((w.alloc (.cells #[k,q,.slice da D.length dc] 85)).alloc (.cells #[(),JEu] 31)).heap[w.heap.size+1]?=some (.cells #[(),JEu] 31 (0,0))):=lh (ak Mg);have Vo:Hid (((w.alloc (.cells #[k,q,.slice da D.length dc] 85)).alloc (.cells #[(),JEu] 31)).heap.size=w.heap.size+1+1):=lh Mg;have HI2:=lh (h.quiet Na);have hnl:decide ((65536:Int)<=(D.length:Int))=false:=decide_eq_false Mf;have Jux:¬ 65536<=D.length:=Mf;obtain ⟨q0,q1⟩:=hq;have hqw:IntKind.u8.wrap q=q:=by rw [IntKind.wrap_u8];omega
 have MX:∀ z∈[q],InK .u8 z:=by simp only [mSg,forall_eq,InK];omega
 have Ye:=lh (fun (W:World)=>kW (k:=.u8) (w:=W) (t:=5) (l:=[q]) (vs:=#[.int .u8 q]) rfl Mo MX 1 rfl rfl);obtain ⟨N1,YC⟩:∃ z,z=(q :: D).length:=⟨_,rfl⟩
 have HN1:=lh YC;clear h hl MX YC;obtain ⟨a0,a1,a2⟩:=fG Nq;go_enter Tryz.func34,Tryz.ntmps34;go_wp2_with fail;go_at_call 84;refine (HKi.out _).mono ?_;rintro e w3 ⟨rfl,hw3⟩;subst hw3;go_wp2_with fail;go_at_call 85;refine (HBa.out _).mono ?_;rintro e w3 ⟨rfl,hw3⟩;subst hw3;go_wp2_with fail;go_at_call 85;refine (HBa.out _).mono ?_;rintro e w3 ⟨rfl,hw3⟩;subst hw3;go_wp2_with fail;generalize Tg:World.alloc (World.alloc w _) _=W2 at *
 clear Tg;have RY:=lh (ae.new W2 (.cells #[.int .u8 q] 5)).drew;refine wp_region_held_drew (S:=(fun w'=>w'.cell? ⟨w.heap.size,0,none⟩=some (.int .i64 k)/\w'.cell? ⟨w.heap.size,1,none⟩=some (.int .i64 q)/\w'.cell? ⟨w.heap.size,2,none⟩=some (.slice da D.length dc))) Mh ?_ (fun hHeld=>?_)
 ·exact ⟨a0,a1,a2⟩
 refine tk 0 53 ?_;refine tk 1 54 ?_;refine tk 2 55 ?_;refine tk 3 56 ?_;refine tk 4 57 ?_;refine tk 6 59 ?_;refine tk 7 60 ?_;refine rdy (rdc 5 58 (fun K hK=>?_) .nil);go_simp;refine hK.out _ _ ?_ (fun hHeld=>?_)
 ·exact ⟨RY.cell a0 Mg,RY.cell a1 Mg,RY.cell a2 Mg⟩
 clear hK K
 try simp only [Act.put,Lg,Lj,Lk]
 refine rdy (rdc 8 61 (fun K hK=>?_) .nil);refine ce rfl (.tmp 58) (.tmp 60) _ rfl E8 ((Ye.out W2).quiet (ae.refl [] _).drew) rfl (HI2.quiet RY) rfl Mq Mg (fun v1 w1 MN NH=>?_);have MP:ae [] W2 w1:=RY.acc NH (bB.lit (Lm _));obtain ⟨g1,Pc,Rg,OL,-⟩:=MN.form Mg;rw [show ([q] ++ D).length=N1 from HN1.symm] at Rg;subst Rg;have MT:=lh MP;have Oy:=lh MN;have Rn:=MP.row Px;obtain ⟨t0,t1,y0,y1,-⟩:=aJ Rn;obtain ⟨MS,Nd⟩:=aH (x:=.int .i64 k) (y:=.slice (some ⟨g1,0,none⟩) N1 Pc) Rn;have OJ:=lh MS;have PS:=lh Nd;have e0:=Nd.cell (MP.cell a0 Mg) Mg;have e1:=Nd.cell (MP.cell a1 Mg) Mg;have e2:=Nd.cell (MP.cell a2 Mg) Mg;clear MN NH Rn MS Nd;refine hK.out _ _ ?_ (fun hHeld=>?_)
 ·exact ⟨MP.cell a0 Mg,MP.cell a1 Mg,MP.cell a2 Mg⟩
 clear hK K
 try simp only [Act.put,Lg,Lj,Lk]
 refine tk 9 62 ?_;refine rdy (rdn 10 (fun K hK=>?_) .nil);go_simp;refine hK.out _ _ ?_ (fun hHeld=>?_)
 ·exact ⟨e0,e1,e2⟩
 clear hK K
 try simp only [Act.put,Lg,Lj,Lk]
 refine tk 11 3 ?_;refine wpAnyH_done Mh ?_ _;go_wp2_with fail;refine bodyPost_ret (v:=.tuple #[.agg #[k,.slice (some ⟨g1,0,none⟩) N1 Pc],.nilIface]) (dM Tryz.results34 _ _ (w.heap.size+1) _ _ _ _ _ rfl rfl OJ Tryz.underlying31 rfl Mh) rfl (MM.out _ _ ⟨_,rfl,?_,?_⟩)
 ·have h3:=(Oy.only PS (fun g hg e=>by rw [mSg] at hg;simp only [Value.ownBlock,LU] at e;have:=Vo.out;omega)).ints
  exact h3.mono (by have:=Vo.out;omega) (Lm _)
 ·exact (Na.q MT).trans PS Mg (fun g hg MO=>Mj)
def bP (src prev:ai) (key:Bool) (qp reach:Int):Option Int :=
 if dV src=false then some 2 else if (!key && !eP prev src.W src.H)=true then some 12 else if qp<0\/15<qp\/reach<0\/7<reach then some 3 else none
theorem lV {p:Prop} (h:p:=by
 go_wp2_with fail;exact MM.out _ _ ⟨⟨_,rfl,rfl⟩,RU.out⟩):p:=h
theorem zu {lo hi lo' hi':Nat} {sv pv:Value} {src prev:ai} {w:World} (key:Bool) (qp reach:Int) (hs:ah .i64 lo hi w sv src.pix) (hp:ah .i64 lo' hi' w pv prev.pix) :
  Calls Tryz.prog 28 #[.agg #[src.W,src.H,sv],.agg #[prev.W,prev.H,pv],.bool key,qp,reach] w fun e w'=>(∃ u,e=.returned u/\JH u (bP src prev key qp reach))/\ae [] w w':=by
 refine aN fun Q MM=>?_
 have HMs:=lh (fun (W:World) (o:ae [] w W)=>jG src.W src.H (hs.quiet o));have HMp:=lh (fun (W:World) (o:ae [] w W)=>jG prev.W prev.H (hp.quiet o));have HMa:Hid (eP prev src.W src.H=(dV prev && decide (prev.W=src.W) && decide (prev.H=src.H))):=lh rfl;have HC:Hid (bP src prev key qp reach=if dV src=false then some 2 else if (!key && !eP prev src.W src.H)=true then some 12 else if qp<0\/15<qp\/reach<0\/7<reach then some 3 else none):=lh rfl;rw [show (⟨src.W,src.H,src.pix⟩:ai)=src from rfl] at HMs;rw [show (⟨prev.W,prev.H,prev.pix⟩:ai)=prev from rfl] at HMp;obtain ⟨sa,sc,rfl,-⟩:=hs.open;obtain ⟨pa,pc,rfl,-⟩:=hp.open;generalize bP src prev key qp reach=CK at *
 generalize eP prev src.W src.H=MB at *
 generalize dV src=ms at *
 generalize dV prev=mp at *
 clear hs hp;have Na:Hid (ae [] w ((w.alloc (.cells #[src.W,src.H,.slice sa src.pix.length sc] 24)).alloc (.cells #[prev.W,prev.H,.slice pa prev.pix.length pc] 24))):=lh ((ae.new w _).alloc _);have Nq:Hid (((w.alloc (.cells #[src.W,src.H,.slice sa src.pix.length sc] 24)).alloc (.cells #[prev.W,prev.H,.slice pa prev.pix.length pc] 24)).heap[w.heap.size]?=some (.cells #[src.W,src.H,.slice sa src.pix.length sc] 24 (0,0))):=lh ((ae.new (w.alloc _) _).row (heap_alloc_new w _));have Px:Hid (((w.alloc (.cells #[src.W,src.H,.slice sa src.pix.length sc] 24)).alloc (.cells #[prev.W,prev.H,.slice pa prev.pix.length pc] 24)).heap[w.heap.size+1]?=some (.cells #[prev.W,prev.H,.slice pa prev.pix.length pc] 24 (0,0))):=lh (ak Mg);obtain ⟨a0,a1,a2⟩:=ag Nq;go_enter Tryz.func28,Tryz.ntmps28;go_wp2_with fail;generalize Tg:World.alloc (World.alloc w _) _=W2 at *
 clear Tg a0 a1 a2;go_at_call 62;refine (HMs.out W2 Na).mono ?_;rintro e w3 ⟨rfl,Nb⟩;have Nf:=lh Nb;clear Nb;cases ms with
 | false =>
  have Ra:CK=some 2:=by rw [HC.out];rfl
  rw [Ra] at MM;clear Ra;go_wp2_with fail;exact MM.out _ _ ⟨⟨_,rfl,rfl⟩,Na.q Nf.out⟩
 | true =>
  have Og:Hid (CK=if (!key && !MB)=true then some 12 else if qp<0\/15<qp\/reach<0\/7<reach then some 3 else none):=lh (by rw [HC.out];rfl);clear HC;obtain ⟨s0,s1,s2⟩:=ag (Nf.row Nq);obtain ⟨p0,p1,p2⟩:=ag (Nf.row Px);go_upto_region 3 with (fail)
  go_cut [16] (fun s16 wx=>s16=.bool (!key && !MB)/\Hid (ae [] w3 wx))
  case first =>
   cases key with
   | true =>
    go_wp2_with fail;go_meet;exact ⟨rfl,lh (ae.refl _ _)⟩
   | false =>
    go_wp2_with fail;go_at_call 62;refine (HMp.out w3 (Na.q Nf)).mono ?_;rintro e w4 ⟨rfl,Ng⟩;have NI:=lh Ng;clear Ng;cases mp with
    | false =>
     have hm:MB=false:=by rw [HMa.out];rfl
     subst hm;go_wp2_with fail;go_meet;exact ⟨rfl,NI⟩
    | true =>
     obtain ⟨s0,s1,s2⟩:=ag ((Nf.q NI).row Nq);obtain ⟨p0,p1,p2⟩:=ag ((Nf.q NI).row Px);by_cases hw:prev.W=src.W
     ·by_cases hh:prev.H=src.H
      ·have hm:MB=true:=by rw [HMa.out,hw,hh];simp
       subst hm;have b1:(prev.W != src.W)=false:=by rw [hw];simp
       have b2:(prev.H != src.H)=false:=by rw [hh];simp
       clear hw hh;go_wp2_with fail;go_meet;exact ⟨rfl,NI⟩
      ·have hm:MB=false:=by rw [HMa.out];simp [hh]
       subst hm;have b1:(prev.W != src.W)=false:=by rw [hw];simp
       have b2:(prev.H != src.H)=true:=by simpa using hh
       clear hw hh;go_wp2_with fail;go_meet;exact ⟨rfl,NI⟩
     ·have hm:MB=false:=by rw [HMa.out];simp [hw]
      subst hm;have b1:(prev.W != src.W)=true:=by simpa using hw
      clear hw;go_wp2_with fail;go_meet;exact ⟨rfl,NI⟩
  case rest =>
   obtain ⟨rfl,Xx⟩:=hcut;have RU:=lh ((Na.q Nf).q Xx);cases hb:(!key && !MB) with
   | true =>
    have Ra:CK=some 12:=by rw [Og.out,hb];rfl
    rw [Ra] at MM;clear Ra hb;exact lV
   | false =>
    have OM:Hid (CK=if qp<0\/15<qp\/reach<0\/7<reach then some 3 else none):=lh (by rw [Og.out,hb];rfl);clear hb Og;by_cases hx:qp<0\/15<qp\/reach<0\/7<reach
    ·rw [OM.out,if_pos hx] at MM
     by_cases h1:qp<0
     ·clear hx
      exact lV
     ·by_cases h2:15<qp
      ·clear hx
       exact lV
      ·by_cases h3:reach<0
       ·clear hx
        exact lV
       ·have h4:7<reach:=Mf
        clear hx;exact lV
    ·rw [OM.out,if_neg hx] at MM
     have h1:¬ qp<0:=Mf;have h2:¬ 15<qp:=Mf;have h3:¬ reach<0:=Mf;have h4:¬ 7<reach:=Mf;clear hx;exact lV
end
end Go.Proofs.YthcafdfdglfabaaGreatDoor
