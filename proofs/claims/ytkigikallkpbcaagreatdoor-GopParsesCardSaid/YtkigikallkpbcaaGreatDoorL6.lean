/- Joined texts: EEnQ, EFitC, GPl. Conditions: each part names its own. -/
import Derived.Test.YtkigikallkpbcaaGreatDoorF1
import Derived.Test.YtkigikallkpbcaaGreatDoorG6
import Derived.Test.YtkigikallkpbcaaGreatDoorC1
import Derived.Test.YtkigikallkpbcaaGreatDoorG7
namespace Go.Proofs.YtkigikallkpbcaaGreatDoor
open Go.RowKit
set_option linter.unusedVariables false
set_option linter.unusedSimpArgs false
set_option maxRecDepth 100000
set_option maxHeartbeats 16000000
/-- a coded frame's bytes and a built frame's samples -/
def EncK (lo hi:Nat) (w:World) (dv:Value) (D:List Int) (fv:Value) (P:List Int):Prop:=Ints .u8 lo hi w dv D∧Ints .i64 lo hi w fv P
theorem EncK.only {lo hi:Nat} {w w':World} {dv fv:Value} {D P:List Int} {S:List Nat} (h:EncK lo hi w dv D fv P) (o:Only S w w') (hS:∀ g∈S,g<lo∨hi≤g):EncK lo hi w' dv D fv P:=⟨h.1.only o hS,h.2.only o hS⟩
/-- what a coder of frames hands back: a coded frame, a built one, an error -/
def EncQ (c:Coded) (f:FrameD) (v:Value) (w:World) (e:Ending) (w':World):Prop :=
 Only [] w w'∧∃ d n f0 n0,e=.returned (.tuple #[.agg #[.int .i64 c.kind,.slice d c.data.length n],.agg #[.int .i64 f.W,.int .i64 f.H,.slice f0 f.pix.length n0],v])∧EncK w.heap.size w'.heap.size w' (.slice d c.data.length n) c.data (.slice f0 f.pix.length n0) f.pix
theorem enc_side {src prev:FrameD} {key:Bool} {qp reach:Int} (h:checkE src prev key qp reach=none):FrOk (encF src prev key qp reach.toNat).1∧(encF src prev key qp reach.toNat).1.W=src.W∧(encF src prev key qp reach.toNat).1.H=src.H:=by
 obtain ⟨hsf,hmt,hq0,hq1,hr0,hr1⟩:=checkE_none h
 have hpe:=enc_peak (q:=qp.toNat) (reach:=reach.toNat) hsf (fun h=>mates_ok (hmt h)) (by omega) (by omega)
 rw [Int.toNat_of_nonneg hq0] at hpe
 exact ⟨hpe.1,hpe.2.1,hpe.2.2.1⟩
def fitC (src prev:FrameD) (key:Bool) (c:Cfg) (most:Int):Coded:=match fitE src prev key c most with
 | .error _=>⟨0,[]⟩
 | .ok x=>x.1
def fitB (src prev:FrameD) (key:Bool) (c:Cfg) (most:Int):FrameD:=match fitE src prev key c most with
 | .error _=>frame0
 | .ok x=>x.2
def fitV (src prev:FrameD) (key:Bool) (c:Cfg) (most:Int):Value:=match fitE src prev key c most with
 | .error k=>codeV (some k)
 | .ok _=>codeV none
theorem fitq_any {lo hi lo' hi':Nat} {sv pv:Value} {src prev:FrameD} {w:World} (key:Bool) (c:Cfg) (most:Int) (hs:Ints .i64 lo hi w sv src.pix) (hp:Ints .i64 lo' hi' w pv prev.pix) (hh:hi≤w.heap.size) (hh':hi'≤w.heap.size) :
  Calls Tryz.prog 60 #[.agg #[.int .i64 src.W,.int .i64 src.H,sv],.agg #[.int .i64 prev.W,.int .i64 prev.H,pv],.bool key,c.v,.int .i64 most] w (EncQ (fitC src prev key c most) (fitB src prev key c most) (fitV src prev key c most) w):=by
 refine (efit_any key c most hs hp hh hh').mono ?_
 rintro e w' ⟨hq,hm⟩
 unfold fitC fitB fitV
 cases h:fitE src prev key c most with
 | error k =>
  rw [h] at hm
  exact ⟨hq,none,0,none,0,hm,Ints.nil _ _ _ _,Ints.nil _ _ _ _⟩
 | ok x =>
  rw [h] at hm
  obtain ⟨dv,fv,rfl,hd,hf⟩:=hm
  obtain ⟨d,n,rfl,-⟩:=hd.open
  obtain ⟨f0,n0,rfl,-⟩:=hf.open
  exact ⟨hq,d,n,f0,n0,rfl,hd,hf⟩
structure FitOk (src prev:FrameD) (key:Bool) (c:Cfg) (most:Int) (C:Coded) (B:FrameD):Prop where
 may:mayB c=true
 fok:FrOk src
 prv:key=false→matesB prev src.W src.H=true
 fit:(C.data.length:Int)+8≤most
 len:C.data.length≤65000
 ok:FrOk B
 how:(∃ q,c.qmin≤q∧q≤c.qmax∧checkE src prev key q c.reach=none∧C=codedE src prev key q c.reach.toNat∧B=(encF src prev key q c.reach.toNat).1) ∨
  (((key=true∧C=⟨4,[]⟩∧B=newF src.W src.H 128)∨(key=false∧C=⟨3,[]⟩∧B=prev))∧∀ q,c.qmin≤q→q≤c.qmax→checkE src prev key q c.reach=none∧most<((codedE src prev key q c.reach.toNat).data.length:Int)+8)
theorem fitGo_error {src prev:FrameD} {key:Bool} {reach most:Int} {k:Int}:∀ (n:Nat) (q:Int),fitGo src prev key reach most n q=.error k→∃ p,q≤p∧p<q+n∧checkE src prev key p reach=some k
 | 0,q,h=>by cases h
 | n+1,q,h=>by
  cases hc:checkE src prev key q reach with
  | some c =>
   rw [fitGo_err hc] at h
   cases h
   exact ⟨q,by omega,by omega,hc⟩
  | none =>
   by_cases hb:((codedE src prev key q reach.toNat).data.length:Int)+8≤most
   ·rw [fitGo_ok hc hb] at h;cases h
   ·rw [fitGo_step hc hb] at h
    obtain ⟨p,h1,h2,h3⟩:=fitGo_error n (q+1) h
    exact ⟨p,by omega,by omega,h3⟩
theorem fitGo_good {src prev:FrameD} {key:Bool} {reach most:Int} {x:Coded×FrameD}:∀ (n:Nat) (q:Int),fitGo src prev key reach most n q=.ok x →
  (∃ p,q≤p∧p<q+n∧checkE src prev key p reach=none∧((codedE src prev key p reach.toNat).data.length:Int)+8≤most∧x=(codedE src prev key p reach.toNat,(encF src prev key p reach.toNat).1)) ∨
  (x=(if key then (⟨4,[]⟩,newF src.W src.H 128) else (⟨3,[]⟩,prev))∧∀ p,q≤p→p<q+n→checkE src prev key p reach=none∧most<((codedE src prev key p reach.toNat).data.length:Int)+8)
 | 0,q,h=>.inr ⟨by injection h with h;exact h.symm,fun p h1 h2=>by omega⟩
 | n+1,q,h=>by
  cases hc:checkE src prev key q reach with
  | some c=>rw [fitGo_err hc] at h;cases h
  | none =>
   by_cases hb:((codedE src prev key q reach.toNat).data.length:Int)+8≤most
   ·rw [fitGo_ok hc hb] at h
    injection h with h
    exact .inl ⟨q,by omega,by omega,hc,hb,h.symm⟩
   ·rw [fitGo_step hc hb] at h
    rcases fitGo_good n (q+1) h with ⟨p,h1,h2,h3⟩ | ⟨h1,h2⟩
    ·exact .inl ⟨p,by omega,by omega,h3⟩
    ·refine .inr ⟨h1,fun p p1 p2=>?_⟩
     by_cases hp:p=q
     ·subst hp;exact ⟨hc,by omega⟩
     ·exact h2 p (by omega) (by omega)
theorem mayB_in {c:Cfg} (h:mayB c=true):0≤c.qmin∧c.qmin≤c.qmax∧c.qmax≤15∧0≤c.reach∧c.reach≤7:=by
 unfold mayB at h
 rw [decide_eq_true_eq] at h
 exact ⟨h.1,h.2.1,h.2.2.1,h.2.2.2.1,h.2.2.2.2.1⟩
theorem coded_len {src prev:FrameD} {key:Bool} {q reach:Int} (h:checkE src prev key q reach=none):(codedE src prev key q reach.toNat).data.length≤65000:=by
 obtain ⟨hsf,hmt,hq0,hq1,hr0,hr1⟩:=checkE_none h
 have h5:=(enc_drift (q:=q.toNat) (reach:=reach.toNat) hsf hmt (by omega) (by omega)).2
 rwa [Int.toNat_of_nonneg hq0] at h5
theorem grey_ok {src:FrameD} (h:FrOk src):FrOk (newF src.W src.H 128):=newF_ok (newB_iff.2 ⟨⟨h.w0,h.w1,h.w8⟩,⟨h.h0,h.h1,h.h8⟩,by decide,by decide⟩)
theorem fit_cases (src prev:FrameD) (key:Bool) (c:Cfg) (most:Int) :
  (∃ k,fitV src prev key c most=.iface 35 (.int .i64 k)∧fitC src prev key c most=⟨0,[]⟩∧fitB src prev key c most=frame0∧(mayB c=false∨most<8∨mayF src=false∨key=false)) ∨
  (fitV src prev key c most=.nilIface∧FitOk src prev key c most (fitC src prev key c most) (fitB src prev key c most)):=by
 unfold fitV fitC fitB
 cases h:fitE src prev key c most with
 | error k =>
  refine .inl ⟨k,rfl,rfl,rfl,?_⟩
  unfold fitE at h
  by_cases hm:mayB c=false
  ·exact .inl hm
  rw [if_neg hm] at h
  by_cases h8:most<8
  ·exact .inr (.inl h8)
  rw [if_neg h8] at h
  obtain ⟨p,p0,p1,hp⟩:=fitGo_error _ _ h
  have hi:=mayB_in (by simpa using hm)
  unfold checkE at hp
  by_cases hf:mayF src=false
  ·exact .inr (.inr (.inl hf))
  rw [if_neg hf] at hp
  cases key with
  | false=>exact .inr (.inr (.inr rfl))
  | true =>
   simp only [Bool.not_true,Bool.false_and,Bool.false_eq_true,if_false] at hp
   rw [if_neg (by omega)] at hp
   cases hp
 | ok x =>
  refine .inr ⟨rfl,?_⟩
  unfold fitE at h
  by_cases hm:mayB c=false
  ·rw [if_pos hm] at h;cases h
  rw [if_neg hm] at h
  by_cases h8:most<8
  ·rw [if_pos h8] at h;cases h
  rw [if_neg h8] at h
  have hm':mayB c=true:=by simpa using hm
  have hi:=mayB_in hm'
  rcases fitGo_good _ _ h with ⟨p,p0,p1,hp,hb,rfl⟩ | ⟨hx,hall⟩
  ·obtain ⟨hsf,hmt,-⟩:=checkE_none hp
   exact ⟨hm',hsf,hmt,hb,coded_len hp,(enc_side hp).1,.inl ⟨p,p0,by omega,hp,rfl,rfl⟩⟩
  ·obtain ⟨hsf,hmt,-⟩:=checkE_none (hall c.qmin (by omega) (by omega)).1
   have hall':∀ q,c.qmin≤q→q≤c.qmax→checkE src prev key q c.reach=none∧most<((codedE src prev key q c.reach.toNat).data.length:Int)+8:=fun q q0 q1=>hall q q0 (by omega)
   cases key with
   | true =>
    rw [if_pos rfl] at hx
    subst hx
    exact ⟨hm',hsf,hmt,by simp;omega,by simp,grey_ok hsf,.inr ⟨.inl ⟨rfl,rfl,rfl⟩,hall'⟩⟩
   | false =>
    rw [if_neg (by simp)] at hx
    subst hx
    exact ⟨hm',hsf,hmt,by simp;omega,by simp,(mates_ok (hmt rfl)).1,.inr ⟨.inr ⟨rfl,rfl,rfl⟩,hall'⟩⟩
theorem fit_good {src prev:FrameD} {key:Bool} {c:Cfg} {most:Int} (hc:mayB c=true) (hm:8≤most) (hs:FrOk src) (hp:key=false→matesB prev src.W src.H=true) :
  fitV src prev key c most=.nilIface∧FitOk src prev key c most (fitC src prev key c most) (fitB src prev key c most):=by
 rcases fit_cases src prev key c most with ⟨k,h1,-,-,-⟩ | h
 ·exfalso
  unfold fitV at h1
  cases hf:fitE src prev key c most with
  | ok x=>rw [hf] at h1;cases h1
  | error k' =>
   unfold fitE at hf
   rw [if_neg (by rw [hc];decide),if_neg (by omega)] at hf
   obtain ⟨p,p1,p2,p3⟩:=fitGo_error _ _ hf
   obtain ⟨q0,q1,q2,r0,r1⟩:=mayB_in hc
   have:=checkE_of (src:=src) (prev:=prev) (key:=key) (q:=p) (reach:=c.reach) (mayF_iff.2 hs) (by cases key <;> simp_all) ⟨by omega,by omega⟩ ⟨r0,r1⟩
   rw [this] at p3
   cases p3
 ·exact h
theorem fit_side {src prev:FrameD} {key:Bool} {c:Cfg} {most:Int} {C:Coded} {B:FrameD} (h:FitOk src prev key c most C B):B.W=src.W∧B.H=src.H:=by
 rcases h.how with ⟨q,-,-,hc,-,rfl⟩ | ⟨⟨-,-,rfl⟩ | ⟨hk,-,rfl⟩,-⟩
 ·exact (enc_side hc).2
 ·exact ⟨rfl,rfl⟩
 ·exact (mates_ok (h.prv hk)).2
theorem fit_mates {src prev:FrameD} {key:Bool} {c:Cfg} {most:Int} {C:Coded} {B:FrameD} (h:FitOk src prev key c most C B):matesB B src.W src.H=true:=by
 obtain ⟨h1,h2⟩:=fit_side h
 unfold matesB
 rw [mayF_iff.2 h.ok]
 simp [h1,h2]
theorem fit_kind {src prev:FrameD} {key:Bool} {c:Cfg} {most:Int} {C:Coded} {B:FrameD} (h:FitOk src prev key c most C B):1≤C.kind∧C.kind≤4∧(C.kind=1∨C.kind=4↔key=true) ∧
  (C.kind≤2→∃ q,c.qmin≤q∧q≤c.qmax∧checkE src prev key q c.reach=none∧C=codedE src prev key q c.reach.toNat∧B=(encF src prev key q c.reach.toNat).1):=by
 rcases h.how with ⟨q,h1,h2,h3,e1,e2⟩ | ⟨⟨hk,rfl,-⟩ | ⟨hk,rfl,-⟩,-⟩
 ·have hk:C.kind=if key then 1 else 2:=by rw [e1];rfl
  refine ⟨?_,?_,?_,fun _=>⟨q,h1,h2,h3,e1,e2⟩⟩
  all_goals (rw [hk];cases key <;> decide)
 ·subst hk;exact ⟨by decide,by decide,by decide,fun e=>absurd e (by decide)⟩
 ·subst hk;exact ⟨by decide,by decide,by decide,fun e=>absurd e (by decide)⟩
/-- the frames of a group from the i-th on, coded and built -/
def gopL (c:Cfg) (g:Nat→Int):List FrameD→Nat→FrameD→List (Coded×FrameD)
 | [],_,_=>[]
 | f :: l,i,p=>(fitC f p (i == 0) c (g i),fitB f p (i == 0) c (g i)) :: gopL c g l (i+1) (fitB f p (i == 0) c (g i))
/-- what holds of all of a group -/
structure GopIn (c:Cfg) (g:Nat→Int) (W H:Int) (l:List FrameD) (i:Nat) (p:FrameD):Prop where
 may:mayB c=true
 fr:∀ f∈l,FrOk f∧f.W=W∧f.H=H
 cap:∀ j,i≤j→j<i+l.length→8≤g j
 prev:i≠0→matesB p W H=true
theorem GopIn.head {c:Cfg} {g:Nat→Int} {W H:Int} {f:FrameD} {l:List FrameD} {i:Nat} {p:FrameD} (h:GopIn c g W H (f :: l) i p) :
  fitV f p (i == 0) c (g i)=.nilIface∧FitOk f p (i == 0) c (g i) (fitC f p (i == 0) c (g i)) (fitB f p (i == 0) c (g i))∧GopIn c g W H l (i+1) (fitB f p (i == 0) c (g i)):=by
 obtain ⟨h1,h2,h3⟩:=h.fr f (by simp)
 obtain ⟨e1,e2⟩:=fit_good (src:=f) (prev:=p) (key:=i == 0) (c:=c) (most:=g i) h.may (h.cap i (Nat.le_refl _) (by simp)) h1 (fun hk=>by rw [h2,h3];exact h.prev (by simpa using hk))
 refine ⟨e1,e2,h.may,fun x hx=>h.fr x (by simp [hx]),fun j h4 h5=>h.cap j (by omega) (by simp only [List.length_cons];omega),fun _=>?_⟩
 have:=fit_mates e2
 rwa [h2,h3] at this
theorem gop_in {c:Cfg} {l:List FrameD} {caps:List Int} (h:gcheckE c l caps=none):GopIn c (fun i=>caps.getD i 0) (l.getD 0 default).W (l.getD 0 default).H l 0 frame0:=by
 obtain ⟨h1,h2,h3,h4,h5,h6⟩:=gcheck_none h
 exact ⟨h1,h4,fun j _ hj=>h6 j (by omega),fun e=>absurd rfl e⟩
theorem dropF {l:List FrameD} {k:Nat} (h:k<l.length):l.drop k=l.getD k default :: l.drop (k+1):=by
 rw [List.drop_eq_getElem_cons h,List.getD_eq_getElem?_getD,List.getElem?_eq_getElem h];rfl
/-- what gop.Encode hands back -/
def gopA (c:Cfg) (l:List FrameD) (caps:List Int):List Coded:=(gopL c (fun i=>caps.getD i 0) l 0 frame0).map (·.1)
def gopB (c:Cfg) (l:List FrameD) (caps:List Int):List FrameD:=(gopL c (fun i=>caps.getD i 0) l 0 frame0).map (·.2)
end Go.Proofs.YtkigikallkpbcaaGreatDoor
