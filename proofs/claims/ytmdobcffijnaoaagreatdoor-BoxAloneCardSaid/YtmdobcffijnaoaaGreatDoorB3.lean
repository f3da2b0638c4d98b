/- Joined texts: Open, OpenL. Conditions: each part names its own. -/
import Derived.Test.YtmdobcffijnaoaaGreatDoorB2
namespace Go.Proofs.YtmdobcffijnaoaaGreatDoor
open Go.RowKit
set_option linter.unusedVariables false
set_option linter.unusedSimpArgs false
set_option maxRecDepth 100000
set_option maxHeartbeats 16000000
def sBox:ByteArray:=⟨#[98,111,120]⟩
/-- what a container's bytes are: all that is read, or the error with its place -/
def openR (l:List Int):Except Err WholeD :=
 match (allR l).1 with
 | .error e=>.error (inE sBox (allR l).2.2 e)
 | .ok x=>.ok x
def OpenP (w:World) (r:Except Err WholeD) (e:Ending) (w':World):Prop :=
 Only [] w w'∧match r with
  | .ok x=>∃ pv cv fv,e=.returned (.tuple #[infoV x.head.W x.head.H x.head.F x.head.c pv,cv,fv,.nilIface])∧EntriesAt w.heap.size w'.heap.size w' pv x.parts∧CodedsAt w.heap.size w'.heap.size w' cv x.coded∧Ints .i64 w.heap.size w'.heap.size w' fv x.fills
  | .error er=>∃ ev,e=.returned (.tuple #[infoV 0 0 0 cfg0 (.slice none 0 0),.slice none 0 0,.slice none 0 0,ev])∧ErrV w.heap.size w'.heap.size w' ev er
theorem open_any {lo hi:Nat} {bv:Value} {l:List Int} {w:World} (h:Ints .u8 lo hi w bv l) (hh:hi≤w.heap.size) (hl:l.length≤1000000000000) :
  Calls Tryz.prog 18 #[bv] w (OpenP w (openR l)):=by
 have Hh:=lh h
 obtain ⟨ba,bcap,rfl,_⟩:=h.open
 have hO:Only [] w ((w.alloc (.cells #[.int .i64 0,.int .i64 0,.int .i64 0,.int .i64 0,.int .i64 0,.int .i64 0,.int .i64 0,.int .i64 0,.int .i64 0,.int .i64 0,.int .i64 0,.slice none 0 0] 42)).alloc (.cells #[.slice ba l.length bcap,.int .i64 0,.int .i64 0] 79)):=(Only.new _ _).q (Only.new _ _)
 have hr:Rd (w.heap.size+1) (.slice ba l.length bcap) ((w.alloc (.cells #[.int .i64 0,.int .i64 0,.int .i64 0,.int .i64 0,.int .i64 0,.int .i64 0,.int .i64 0,.int .i64 0,.int .i64 0,.int .i64 0,.int .i64 0,.slice none 0 0] 42)).alloc (.cells #[.slice ba l.length bcap,.int .i64 0,.int .i64 0] 79)) 0 0:=heap_alloc_new' (by simp)
 have H:=lh (rall_any hr (h.quiet hO) (by omega) hl)
 have hI:((w.alloc (.cells #[.int .i64 0,.int .i64 0,.int .i64 0,.int .i64 0,.int .i64 0,.int .i64 0,.int .i64 0,.int .i64 0,.int .i64 0,.int .i64 0,.int .i64 0,.slice none 0 0] 42)).alloc (.cells #[.slice ba l.length bcap,.int .i64 0,.int .i64 0] 79)).heap[w.heap.size]?=some (.cells #[.int .i64 0,.int .i64 0,.int .i64 0,.int .i64 0,.int .i64 0,.int .i64 0,.int .i64 0,.int .i64 0,.int .i64 0,.int .i64 0,.int .i64 0,.slice none 0 0] 42 (0,0)):=(Below.heap_alloc _ _ _ (by simp)).trans (heap_alloc_new _ _)
 have HI:=lh hI
 have HO:=lh hO
 clear h hO hr hI
 cases hres:(allR l).1 with
 | error er =>
  have hfin:openR l=.error (inE sBox (allR l).2.2 er):=by unfold openR;rw [hres]
  have Hfin:=lh hfin
  generalize hall:allR l=A at *
  obtain ⟨a,p,n⟩:=A
  simp only at hres
  subst hres
  clear hfin hall
  go_enter Tryz.func18,Tryz.ntmps18
  go_wp2_with (first
   | (go_at_call 40;refine H.out.mono ?_;rintro e w2 hP;unfold AllP at hP;simp only at hP;obtain ⟨hq2,hr2,ev,rfl,hev⟩:=hP;obtain ⟨et,eu,rfl⟩:=id hev.held;unfold infoV cfg0;simp only;have c2:=hr2.c2;have v2:=(fun o=>(Only.new w2 o).cell c2 (by simp));have HEv:=lh hev;have HI2:=lh (hq2.rowAt HI.out (by simp));have Hq2:=lh hq2;clear hev hq2 hr2 c2)
   | (go_at_call 26;refine (in_any _ _ (HEv.out.quiet (Only.new _ _)) (by simp) (by have:=Hq2.out.size;simp at this ⊢;omega)).mono ?_;rintro e w3 ⟨ev3,rfl,hev3,hq3⟩;obtain ⟨et3,eu3,rfl⟩:=id hev3.held;have rI3:=hq3.rowAt ((Only.new _ _).rowAt HI2.out (by simp)) (by simp);obtain ⟨⟨m0,m1,m2,m3,m4,m5⟩,⟨m6,m7,m8,m9,m10,m11⟩⟩:=cells12 rI3;obtain ⟨⟨k0,k1,k2,k3,k4,k5⟩,⟨k6,k7,k8,k9,k10,k11⟩⟩:=frz12 rI3;have HI3:=lh rI3;clear rI3)
   | fail)
  generalize hWf:World.setCell _ _ _=Wf
  obtain ⟨hrow,hOf⟩:=end12' HI3.out hWf
  obtain ⟨⟨t0,t1,t2,t3,t4,t5⟩,⟨t6,t7,t8,t9,t10,t11⟩⟩:=cells12 hrow
  refine bodyPost_ret (v:=.tuple #[infoV 0 0 0 cfg0 (.slice none 0 0),.slice none 0 0,.slice none 0 0,.iface et3 eu3]) (by simp [results,Tryz.results18,go_sem,t0,t1,t2,t3,t4,t5,t6,t7,t8,t9,t10,t11,infoV,cfg0]) rfl ?_
  unfold OpenP
  rw [Hfin.out]
  have hO2:Only [] w w2:=HO.out.trans Hq2.out (by simp) (by simp)
  have hO3:Only [] w w3:=hO2.q ((Only.new _ _).q hq3)
  have hz:=hO2.size
  exact ⟨hO3.trans hOf (by simp) (by simp),_,rfl,(ErrV.only hev3 hOf (by intro g hg;rw [mSg] at hg;subst hg;left;simp;try omega)).mono (by simp;try omega) hOf.size⟩
 | ok x =>
  have hfin:openR l=.ok x:=by unfold openR;rw [hres]
  have Hfin:=lh hfin
  generalize hall:allR l=A at *
  obtain ⟨a,p,n⟩:=A
  simp only at hres
  subst hres
  clear hfin hall
  obtain ⟨⟨hW,hH,hF,⟨c0,c1,c2,c3,c4,c5,c6,c7⟩,np⟩,es,cs,fs⟩:=x
  go_enter Tryz.func18,Tryz.ntmps18
  go_wp2_with (first
   | (go_at_call 40;refine H.out.mono ?_;rintro e w2 hP;unfold AllP at hP;simp only at hP;obtain ⟨hq2,hr2,pv,cv,fv,rfl,hoe,hoc,hof,hsp⟩:=hP;obtain ⟨pa,pcap,rfl⟩:=hoe.isSlice;unfold infoV;simp only;have HOE:=lh hoe;have HOC:=lh hoc;have HOF:=lh hof;have rI2:=hq2.rowAt HI.out (by simp);obtain ⟨⟨m0,m1,m2,m3,m4,m5⟩,⟨m6,m7,m8,m9,m10,m11⟩⟩:=cells12 rI2;obtain ⟨⟨k0,k1,k2,k3,k4,k5⟩,⟨k6,k7,k8,k9,k10,k11⟩⟩:=frz12 rI2;have hwl:w.heap.size<w2.heap.size:=(Array.getElem?_eq_some_iff.1 rI2).1;have HI2:=lh rI2;have Hq2:=lh hq2;clear hoe hoc hof hq2 hr2 rI2 hsp)
   | fail)
  generalize hWf:World.alloc _ _=Wf
  obtain ⟨hrow,hOf⟩:=end12 HI2.out hWf
  obtain ⟨⟨t0,t1,t2,t3,t4,t5⟩,⟨t6,t7,t8,t9,t10,t11⟩⟩:=cells12 hrow
  refine bodyPost_ret (v:=.tuple #[infoV hW hH hF ⟨c0,c1,c2,c3,c4,c5,c6,c7⟩ (.slice pa es.length pcap),cv,fv,.nilIface]) (by simp [results,Tryz.results18,go_sem,t0,t1,t2,t3,t4,t5,t6,t7,t8,t9,t10,t11,infoV]) rfl ?_
  unfold OpenP
  rw [Hfin.out]
  have hO2:Only [] w w2:=HO.out.trans Hq2.out (by simp) (by simp)
  have hz:=hO2.size
  have hzf:=hOf.size
  refine ⟨hO2.trans hOf (by simp) (by simp),_,_,_,rfl,?_,?_,?_⟩
  ·exact Rows.mono ((HOE.out.entries).only hOf (by intro g hg;rw [mSg] at hg;subst hg;left;simp;try omega)) (by simp;omega) hzf
  ·exact ((HOC.out.codeds).only hOf (by intro g hg;rw [mSg] at hg;subst hg;left;simp;try omega)).mono (by simp;omega) hzf
  ·exact ((HOF.out.ints).only hOf (by intro g hg;rw [mSg] at hg;subst hg;left;simp;try omega)).mono (by simp;omega) hzf
/-- frames and fills within n bytes, as many of the one as of the other -/
def Fits (n:Nat) (cs:List Coded) (fs:List Int):Prop:=fs.length=cs.length∧(∀ c∈cs,c.data.length≤n∧readB c=none)∧∀ z∈fs,0≤z∧z≤n
theorem Fits.append {n:Nat} {cs cs':List Coded} {fs fs':List Int} (h:Fits n cs fs) (k:Fits n cs' fs'):Fits n (cs ++ cs') (fs ++ fs'):=by
 obtain ⟨h1,h2,h3⟩:=h
 obtain ⟨k1,k2,k3⟩:=k
 refine ⟨by simp [h1,k1],fun c hc=>?_,fun z hz=>?_⟩
 ·rcases List.mem_append.1 hc with h | h
  ·exact h2 c h
  ·exact k2 c h
 ·rcases List.mem_append.1 hz with h | h
  ·exact h3 z h
  ·exact k3 z h
theorem framesR_fits {l:List Int} (hl:∀ x∈l,InK .u8 x):∀ (c i p n:Nat) {x:List Coded×List Int},p≤l.length→(framesR l c i p n).1=.ok x→Fits l.length x.1 x.2
 | 0,i,p,n,x,hp,h=>by
  simp only [framesR] at h
  cases h
  exact ⟨rfl,by simp,by simp⟩
 | c+1,i,p,n,x,hp,h=>by
  unfold framesR at h
  cases hpk:peekR l p with
  | error e=>rw [hpk] at h;cases h
  | ok u =>
   have h1:=peekR_ok hpk hp hl
   have hz:=zeros_le (l.drop u.end_)
   rw [List.length_drop] at hz
   rw [hpk] at h
   simp only at h
   split at h
   ·cases h
   ·cases hrb:readB ⟨u.kind,u.data⟩ with
    | some k=>rw [hrb] at h;cases h
    | none =>
     rw [hrb] at h
     simp only [consF] at h
     cases hf:(framesR l c (i+1) (u.end_+zeros (l.drop u.end_)) (n+1+zeros (l.drop u.end_))).1 with
     | error e=>rw [hf] at h;cases h
     | ok y =>
      rw [hf] at h
      have ih:=framesR_fits hl c _ _ _ (by omega) hf
      cases h
      have h0:Fits l.length [⟨u.kind,u.data⟩] [((zeros (l.drop u.end_):Nat):Int)]:=⟨rfl,by simp only [mSg,forall_eq];exact ⟨by omega,hrb⟩,by simp only [mSg,forall_eq];omega⟩
      exact h0.append ih
theorem partR_fits {l:List Int} (hl:∀ x∈l,InK .u8 x) {p n:Nat} {num first left behind:Int} {x:Entry×List Coded×List Int} (hp:p≤l.length) (h:(partR l p n num first left behind).1=.ok x):Fits l.length x.2.1 x.2.2:=by
 unfold partR at h
 cases hnx:nextR l p 17 3 with
 | error e=>rw [hnx] at h;cases h
 | ok u =>
  obtain ⟨hpk,_,_⟩:=nextR_peek hnx
  have h1:=peekR_ok hpk hp hl
  rw [hnx] at h
  simp only at h
  split at h
  ·cases h
  ·cases hf:(framesR l (u.data.getD 2 0).toNat 0 u.end_ (n+1)).1 with
   | error e=>rw [hf] at h;cases h
   | ok y =>
    rw [hf] at h
    have:=framesR_fits hl _ _ _ _ (by omega) hf
    cases h
    exact this
theorem partsR_fits {l:List Int} (hl:∀ x∈l,InK .u8 x) {F parts:Int}:∀ (c k a p n:Nat) {x:List Entry×List Coded×List Int},p≤l.length→n≤p→(partsR l F parts c k a p n).1=.ok x→Fits l.length x.2.1 x.2.2∧x.1.length=c
 | 0,k,a,p,n,x,hp,hn,h=>by
  simp only [partsR] at h
  cases h
  exact ⟨⟨rfl,by simp,by simp⟩,rfl⟩
 | c+1,k,a,p,n,x,hp,hn,h=>by
  unfold partsR at h
  have hpo:=partR_ok hl (num:=(k:Int)) (first:=(a:Int)) (left:=F-a) (behind:=parts-1-k) hp hn
  cases hpr:(partR l p n k a (F-a) (parts-1-k)).1 with
  | error e=>rw [hpr] at h;cases h
  | ok y =>
   have h1:=partR_fits hl hp hpr
   rw [hpr] at h
   simp only [consP] at h
   cases hps:(partsR l F parts c (k+1) (a+y.2.1.length) (partR l p n k a (F-a) (parts-1-k)).2.1 (partR l p n k a (F-a) (parts-1-k)).2.2).1 with
   | error e=>rw [hps] at h;cases h
   | ok z =>
    rw [hps] at h
    have ih:=partsR_fits hl c _ _ _ _ hpo.2.1 hpo.2.2.1 hps
    cases h
    exact ⟨h1.append ih.1,by simp [ih.2]⟩
theorem partsR_sum {l:List Int} (hl:∀ x∈l,InK .u8 x) {F parts:Int}:∀ (c k a p n:Nat) {x:List Entry×List Coded×List Int},p≤l.length→n≤p→(k:Int)+c=parts→1≤c→(partsR l F parts c k a p n).1=.ok x→(a:Int)+x.2.1.length=F
 | 0,k,a,p,n,x,hp,hn,hk,hc,h=>absurd hc (by omega)
 | c+1,k,a,p,n,x,hp,hn,hk,hc,h=>by
  unfold partsR at h
  have hpo:=partR_ok hl (num:=(k:Int)) (first:=(a:Int)) (left:=F-a) (behind:=parts-1-k) hp hn
  cases hpr:(partR l p n k a (F-a) (parts-1-k)).1 with
  | error e=>rw [hpr] at h;cases h
  | ok y =>
   obtain ⟨h1,h2,h3,h4,h5,h6,h7,h8⟩:=hpo.2.2.2 y hpr
   rw [hpr] at h
   simp only [consP] at h
   cases hps:(partsR l F parts c (k+1) (a+y.2.1.length) (partR l p n k a (F-a) (parts-1-k)).2.1 (partR l p n k a (F-a) (parts-1-k)).2.2).1 with
   | error e=>rw [hps] at h;cases h
   | ok z =>
    rw [hps] at h
    cases h
    rw [List.length_append]
    by_cases hc0:c=0
    ·subst hc0
     simp only [partsR] at hps
     cases hps
     have:=h4 (by omega)
     simp only [List.length_nil]
     omega
    ·have ih:=partsR_sum hl c (k+1) (a+y.2.1.length) _ _ hpo.2.1 hpo.2.2.1 (by omega) (by omega) hps
     omega
theorem closeR_ok {l:List Int} {h:HeadD} {es:List Entry} {cs:List Coded} {fs:List Int} {p n:Nat} {x:WholeD} (hh:(closeR l h es cs fs p n).1=.ok x):x=⟨h,es,cs,fs⟩:=by
 unfold closeR at hh
 split at hh
 ·cases hh
 ·split at hh
  ·cases hh
  ·split at hh
   ·cases hh
   ·cases hh;rfl
/-- what an opened container is -/
theorem openR_ok {l:List Int} (hl:∀ x∈l,InK .u8 x) {x:WholeD} (h:openR l=.ok x):headOk x.head∧Fits l.length x.coded x.fills∧(x.parts.length:Int)=x.head.parts∧(x.coded.length:Int)=x.head.F:=by
 unfold openR at h
 cases ha:(allR l).1 with
 | error e=>rw [ha] at h;cases h
 | ok y =>
  rw [ha] at h
  cases h
  unfold allR at ha
  have hp:=headR_pos hl (p:=0) (n:=0) (Nat.zero_le _) (Nat.le_refl _)
  cases hhd:(headR l 0 0).1 with
  | error e=>rw [hhd] at ha;cases ha
  | ok hd =>
   have hok:=hp.2.2.2 _ hhd
   rw [hhd] at ha
   simp only [bodyR] at ha
   cases hps:(partsR l hd.F hd.parts hd.parts.toNat 0 0 (headR l 0 0).2.1 (headR l 0 0).2.2).1 with
   | error e=>rw [hps] at ha;cases ha
   | ok z =>
    rw [hps] at ha
    have hf:=partsR_fits hl _ _ _ _ _ hp.2.1 hp.2.2.1 hps
    have:=closeR_ok ha
    subst this
    obtain ⟨h1,h2,h3,h4,h5,h6⟩:=hok
    have hsum:=partsR_sum hl _ 0 0 _ _ hp.2.1 hp.2.2.1 (by omega) (by omega) hps
    exact ⟨⟨h1,h2,h3,h4,h5,h6⟩,hf.1,by simp only;omega,by simp only;omega⟩
end Go.Proofs.YtmdobcffijnaoaaGreatDoor
