/- Joined texts: FrAt, ELgt, EFew. Conditions: each part names its own. -/
import Derived.Test.YthcafdfdglfabaaGreatDoorT1
import Derived.Test.YthcafdfdglfabaaGreatDoorK2
namespace Go.Proofs.YthcafdfdglfabaaGreatDoor
open Go.RowKit
set_option linter.unusedVariables false
set_option linter.unusedSimpArgs false
set_option maxRecDepth 100000
set_option maxHeartbeats 16000000
instance:Inhabited ai:=⟨dQ⟩
def oX (A B:ai):Bool:=decide (A.W=B.W) && decide (A.H=B.H) && eqB A.pix B.pix
def eJ (lo hi:Nat) (w:World) (v:Value) (l:List ai):Prop :=
 ∃ f,Rows 3 lo hi w v l.length f/\∀ i,i<l.length->f i 0=.int .i64 (l.getD i default).W/\f i 1=.int .i64 (l.getD i default).H/\ah .i64 lo hi w (f i 2) (l.getD i default).pix
theorem eJ.only {lo hi:Nat} {w w':World} {v:Value} {S:List Nat} {l:List ai} (h:eJ lo hi w v l) (o:ae S w w') (hS:∀ g∈S,g<lo\/hi<=g):eJ lo hi w' v l:=by
 obtain ⟨f,h1,h2⟩:=h;exact ⟨f,h1.only o hS,fun i hi=>⟨(h2 i hi).1,(h2 i hi).2.1,(h2 i hi).2.2.only o hS⟩⟩
theorem eJ.quiet {lo hi:Nat} {w w':World} {v:Value} {l:List ai} (h:eJ lo hi w v l) (o:ae [] w w'):eJ lo hi w' v l:=h.only o Mg
theorem eJ.open {lo hi:Nat} {w:World} {v:Value} {l:List ai} (h:eJ lo hi w v l):∃ (a:Option Addr) (cap:Nat),v=.slice a l.length cap/\l.length<=cap/\cap<=maxLen /\
  ∀ i,i<l.length->∃ b off dv,a=some ⟨b,off,none⟩/\lo<=b/\b<hi /\
   w.cell? ⟨b,off+i*3,none⟩=some (.int .i64 (l.getD i default).W)/\w.cell? ⟨b,off+i*3+1,none⟩=some (.int .i64 (l.getD i default).H)/\w.cell? ⟨b,off+i*3+2,none⟩=some dv/\ah .i64 lo hi w dv (l.getD i default).pix:=by
 obtain ⟨f,h1,h2⟩:=h;obtain ⟨a,cap,rfl,x,y,hc⟩:=h1.open;refine ⟨a,cap,rfl,x,y,fun i hi=>?_⟩;obtain ⟨b,off,e,p,q,hj⟩:=hc i hi;obtain ⟨e0,e1,e2⟩:=h2 i hi;exact ⟨b,off,f i 2,e,p,q,by rw [<- e0];exact hj 0 Mf,by rw [<- e1];exact hj 1 Mf,hj 2 Mf,e2⟩
section
theorem iN {lo hi lo' hi':Nat} {pv pu:Value} {w:World} {A B:ai} (h:ah .i64 lo hi w pv A.pix) (g:ah .i64 lo' hi' w pu B.pix) :
  Calls Tryz.prog 12 #[.agg #[A.W,A.H,pv],.agg #[B.W,B.H,pu]] w fun e w'=>e=.returned (.bool (oX A B))/\ae [] w w':=by
 obtain ⟨a,cap,rfl,-⟩:=h.open;obtain ⟨b,VT,rfl,-⟩:=g.open;have MP:=ae.new w (.cells #[A.W,A.H,.slice a A.pix.length cap] 24);have MV:=MP.q (ae.new _ (.cells #[B.W,B.H,.slice b B.pix.length VT] 24));have HI:=lh (zL (h.quiet MV) (g.quiet MV));have HQ:=lh MV;have HR:Hid (oX A B=(decide (A.W=B.W) && decide (A.H=B.H) && eqB A.pix B.pix)):=lh rfl;clear h g MP MV;generalize oX A B=r at *
 generalize eqB A.pix B.pix=bb at *
 generalize A.W=W1 at *
 generalize A.H=H1 at *
 generalize B.W=W2 at *
 generalize B.H=H2 at *
 by_cases hW:W1=W2
 ·by_cases hH:H1=H2
  ·subst hW;subst hH
   go_enter Tryz.func12,Tryz.ntmps12;go_wp2_with fail;go_at_call 46;refine HI.mono ?_;rintro e w2 ⟨rfl,Nb⟩;have Nf:=lh Nb;clear Nb;go_wp2_with fail;go_ret;exact ⟨aK (by rw [HR.out];simp),HQ.q Nf.out⟩
  ·have hb:(H1 == H2)=false:=by rw [beq_eq_false_iff_ne];exact hH
   subst hW;have Hn:=lh hH;clear hH;go_enter Tryz.func12,Tryz.ntmps12;go_wp2_with fail;go_ret;exact ⟨aK (by rw [HR.out];simp [Hn.out]),HQ.out⟩
 ·have hb:(W1 == W2)=false:=by rw [beq_eq_false_iff_ne];exact hW
  have Hn:=lh hW;clear hW;go_enter Tryz.func12,Tryz.ntmps12;go_wp2_with fail;go_ret;exact ⟨aK (by rw [HR.out];simp [Hn.out]),HQ.out⟩
def gi (l:List ai):Int:=l.foldl (fun n c=>n+min (c.pix.length:Int) 20001) 0
def qd (l:List ai):Bool:=decide (l.length<=40) && decide (gi (l.take 40)<=20000)
theorem xP {l:List ai} {k:Nat} (h:k<l.length):gi (l.take (k+1))=gi (l.take k)+min ((l.getD k default).pix.length:Int) 20001:=by
 rw [List.take_succ_eq_append_getElem h,gi,List.foldl_append];simp [gi,h]
theorem vA (l:List ai):0<=gi l/\gi l<=20001*l.length:=by
 have h:∀ (l:List ai) (n:Int),n<=l.foldl (fun n c=>n+min (c.pix.length:Int) 20001) n/\l.foldl (fun n c=>n+min (c.pix.length:Int) 20001) n<=n+20001*l.length:=by
  intro l
  induction l with
  | nil=>intro n;simp
  | cons c l ih =>
   intro n;have:=ih (n+min (c.pix.length:Int) 20001);simp only [List.foldl_cons,Lr];omega
 have:=h l 0;unfold gi;omega
theorem Bu {lo hi:Nat} {v:Value} {l:List ai} {w:World} (h:eJ lo hi w v l) :
  Calls Tryz.prog 14 #[v] w fun e w'=>e=.returned (.bool (qd l))/\w=w':=by
 obtain ⟨a,cap,rfl,Qq,PI,hel⟩:=h.open;have Hel:=lh hel;have Qn:(l.length:Int)<=9223372036854775807:=by unfold maxLen at PI;omega
 clear h hel PI Qq;go_enter Tryz.func14,Tryz.ntmps14;go_wp2;go_loop [4,3] (fun i c=>∃ k:Nat,k<=l.length/\k<=40/\i=.int .i64 k/\c=.int .i64 (gi (l.take k))) (fun i _=>40-(intOf i).toNat)
 case atStart=>exact ⟨0,Mf,Mf,rfl,rfl⟩
 case round =>
  obtain ⟨k,hk,Jpl,rfl,rfl⟩:=hrel;have hs:=vA (l.take k);have NE:gi (l.take k)<=800040:=by rw [Lp] at hs;omega
  by_cases MO:k<l.length
  ·by_cases h40:k<40
   ·obtain ⟨b,off,dv,rfl,_,_,Vq,Sj,QZ,hd⟩:=Hel.out k MO
    obtain ⟨da,JAl,rfl,_,hdm,_⟩:=hd.open;have hn:=xP MO;have hx:(0:Int)<=(k:Int):=Mf;have OB:(k:Int)<(l.length:Int):=Mf;have hx2:(k:Int)<40:=Mf;have Hn:=lh hn;have h0:=hs.1;clear hn hs hd Vq Sj;generalize l.getD k default=x at *
    generalize gi (l.take k)=s at *
    have SN:(x.pix.length:Int)<=9223372036854775807:=by unfold maxLen at hdm;omega
    go_wp2;go_round
    case rel=>exact ⟨k+1,Mf,Mf,Mm,by rw [Hn.out];first | rfl | exact congrArg (Value.int .i64) Mf | exact congrArg (Value.int .i64) (by split <;> omega)⟩
    case measure=>simp [intOf];omega
   ·obtain rfl:k=40:=Mf
    have OB:((40:Nat):Int)<(l.length:Int):=Mf;have hx2:¬ (((40:Nat):Int)<40):=Mf;by_cases JAK:l.length<=40
    ·omega
    have hr:qd l=false:=by simp [qd];omega
    go_wp2;go_ret
    first | exact ⟨rfl,rfl⟩ | exact ⟨aK (by rw [hr]),rfl⟩
  ·obtain rfl:k=l.length:=Mf
   have hx:¬ (l.length:Int)<(l.length:Int):=Mf;have hr:qd l=decide (gi l<=20000):=by
    have:l.take 40=l:=List.take_of_length_le Jpl;simp [qd,Jpl,this]
   have Sm:(l.length:Int)<=40:=Mf;rw [List.take_length] at *
   have Hr:=lh hr;clear hr hs;generalize gi l=s at *
   by_cases hss:s<=20000
   all_goals
    go_wp2;go_ret;exact ⟨aK (by rw [Hr.out];simp [hss]),rfl⟩
end
section
theorem tV (c:Cfg) (W H n:Int) (w:World) :
  Calls Tryz.prog 15 #[c.v,W,H,n] w fun e w'=>(∃ b,e=.returned (.bool b))/\ae [] w w':=by
 refine aN fun Q MM=>?_
 obtain ⟨a0,a1,a2,a3,a4,a5,a6,a7⟩:=c;unfold Cfg.v;have hq:=ae.new w (.cells #[a0,a1,a2,a3,a4,a5,a6,a7] 47);have HQ:=lh hq;clear hq;go_enter Tryz.func15,Tryz.ntmps15;go_wp2_with fail
 all_goals
  exact MM.out _ _ ⟨⟨_,rfl⟩,HQ.out⟩
end
section
theorem IX {lo hi:Nat} {v:Value} {l:List ai} {w:World} (reach:Int) (h:eJ lo hi w v l) (hl:0<l.length) :
  Calls Tryz.prog 7 #[v,reach] w fun e w'=>(∃ b,e=.returned (.bool b)/\(b=true->qd l=true))/\ae [] w w':=by
 refine aN fun Q MM=>?_
 have HP:=lh (fun (W:World) (o:ae [] w W)=>Bu (h.quiet o));obtain ⟨a,cap,rfl,Qq,PI,hel⟩:=h.open;obtain ⟨b0,off,dv,rfl,_,_,h0,h1,-,-⟩:=hel 0 hl;have HL:=lh (fun (W:World)=>tV ⟨0,0,reach,0,0,0,0,0⟩ (l.getD 0 default).W (l.getD 0 default).H 1 W);unfold Cfg.v at HL;rw [Nat.zero_mul,Nat.add_zero] at h0 h1;generalize (l.getD 0 default).W=W at *
 generalize (l.getD 0 default).H=H at *
 generalize hP:qd l=P at *
 obtain ⟨N,hN⟩:∃ z,z=l.length:=⟨_,rfl⟩
 rw [<- hN] at HP hl |-
 have OB:(0:Int)<(N:Int):=Mf;clear h hel PI Qq hP hN;go_enter Tryz.func7,Tryz.ntmps7;go_wp2_with fail;cases P with
 | true =>
  refine wp_region_held_drew (S:=(fun w'=>w'.cell? ⟨b0,off,none⟩=some (.int .i64 W)/\w'.cell? ⟨b0,off+1,none⟩=some (.int .i64 H))) Mh ?_ (fun hHeld=>?_)
  ·exact ⟨h0,h1⟩
  refine tk 0 5 ?_;refine rdy (rdc 1 6 (fun K hK=>?_) .nil);go_simp;go_at_call 14;refine (HP.out _ (ae.refl _ _).drew).mono ?_;rintro e w3 ⟨rfl,rfl⟩;refine hK.out _ _ ?_ (fun hHeld=>?_)
  ·exact ⟨h0,h1⟩
  clear hK K
  try simp only [Act.put,Lg,Lj,Lk]
  refine tk 2 7 ?_;refine tk 3 8 ?_;refine tk 4 9 ?_;refine tk 5 10 ?_;refine tk 6 11 ?_;refine tk 7 12 ?_;refine tk 8 13 ?_;refine tk 9 14 ?_;refine tk 10 15 ?_;refine tk 11 16 ?_;refine tk 12 17 ?_;refine rdy (rdc 13 18 (fun K hK=>?_) .nil);go_simp;go_at_call 15;refine (HL.out _).mono ?_;rintro e w4 ⟨⟨bb,rfl⟩,Ng⟩;have NI:Hid (ae [] w w4):=lh ((ae.refl [] w).drew.q Ng);clear Ng;refine hK.out _ _ ?_ (fun hHeld=>?_)
  ·exact ⟨NI.cell h0 Mg,NI.cell h1 Mg⟩
  clear hK K
  try simp only [Act.put,Lg,Lj,Lk]
  refine tk 14 19 ?_;refine tk 15 4 ?_;refine wpAnyH_done Mh ?_ _;go_wp2_with fail;exact MM.out _ _ ⟨⟨_,rfl,by first | trivial | simp⟩,NI.out⟩
 | false =>
  refine wp_region_held_drew (S:=(fun w'=>w'.cell? ⟨b0,off,none⟩=some (.int .i64 W)/\w'.cell? ⟨b0,off+1,none⟩=some (.int .i64 H))) Mh ?_ (fun hHeld=>?_)
  ·exact ⟨h0,h1⟩
  refine tk 0 5 ?_;refine rdy (rdc 1 6 (fun K hK=>?_) .nil);go_simp;go_at_call 14;refine (HP.out _ (ae.refl _ _).drew).mono ?_;rintro e w3 ⟨rfl,rfl⟩;refine hK.out _ _ ?_ (fun hHeld=>?_)
  ·exact ⟨h0,h1⟩
  clear hK K
  try simp only [Act.put,Lg,Lj,Lk]
  refine tk 2 7 ?_;refine tkn 3 8 ?_;refine tkn 4 9 ?_;refine tkn 5 10 ?_;refine tkn 6 11 ?_;refine tkn 7 12 ?_;refine tkn 8 13 ?_;refine tkn 9 14 ?_;refine tkn 10 15 ?_;refine tkn 11 16 ?_;refine tkn 12 17 ?_;refine tkn 13 18 ?_;refine tk 14 19 ?_;refine tk 15 4 ?_;refine wpAnyH_done Mh ?_ _;go_wp2_with fail;exact MM.out _ _ ⟨⟨_,rfl,by first | trivial | simp⟩,(ae.refl [] w).drew⟩
end
end Go.Proofs.YthcafdfdglfabaaGreatDoor
