/- Joined texts: RdL, RdW. Conditions: each part names its own. -/
import Derived.Test.YtmdobcffijnaoaaGreatDoorB1
import Derived.Test.YtmdobcffijnaoaaGreatDoorZRdH
import Derived.Test.YtmdobcffijnaoaaGreatDoorBH
import Derived.StillTailTactics
import Derived.Deep.RegionWith
namespace Go.Proofs.YtmdobcffijnaoaaGreatDoor
open Go.RowKit
set_option linter.unusedVariables false
set_option linter.unusedSimpArgs false
set_option maxRecDepth 100000
set_option maxHeartbeats 16000000
abbrev PartsRes:=Except Err (List Entry×List Coded×List Int)
def consP (e:Entry) (cs:List Coded) (fs:List Int) (r:PartsRes×Nat×Nat):PartsRes×Nat×Nat :=
 (match r.1 with | .ok x=>.ok (e :: x.1,cs ++ x.2.1,fs ++ x.2.2) | .error er=>.error er,r.2)
def partsR (l:List Int) (F parts:Int):Nat→Nat→Nat→Nat→Nat→PartsRes×Nat×Nat
 | 0,_,_,p,n=>(.ok ([],[],[]),p,n)
 | c+1,k,a,p,n =>
  match (partR l p n k a (F-a) (parts-1-k)).1 with
  | .error e=>(.error e,(partR l p n k a (F-a) (parts-1-k)).2)
  | .ok x=>consP x.1 x.2.1 x.2.2 (partsR l F parts c (k+1) (a+x.2.1.length) (partR l p n k a (F-a) (parts-1-k)).2.1 (partR l p n k a (F-a) (parts-1-k)).2.2)
def preP (es:List Entry) (cs:List Coded) (fs:List Int) (r:PartsRes×Nat×Nat):PartsRes×Nat×Nat :=
 (match r.1 with | .ok x=>.ok (es ++ x.1,cs ++ x.2.1,fs ++ x.2.2) | .error er=>.error er,r.2)
theorem preP_nil (r:PartsRes×Nat×Nat):preP [] [] [] r=r:=by
 obtain ⟨a,b⟩:=r
 cases a <;> rfl
theorem preP_cons (es:List Entry) (cs cs':List Coded) (fs fs':List Int) (e:Entry) (r:PartsRes×Nat×Nat):preP es cs fs (consP e cs' fs' r)=preP (es ++ [e]) (cs ++ cs') (fs ++ fs') r:=by
 obtain ⟨a,b⟩:=r
 cases a <;> simp [preP,consP]
structure WholeD where
 head:HeadD
 parts:List Entry
 coded:List Coded
 fills:List Int
def closeR (l:List Int) (h:HeadD) (es:List Entry) (cs:List Coded) (fs:List Int) (p n:Nat):(Except Err WholeD)×Nat×Nat :=
 match (exactR l p n 18 (indexB es)).1 with
 | some e=>(.error e,(exactR l p n 18 (indexB es)).2)
 | none =>
  match (exactR l (exactR l p n 18 (indexB es)).2.1 (exactR l p n 18 (indexB es)).2.2 19 (tailB (l.take (exactR l p n 18 (indexB es)).2.1) p)).1 with
  | some e=>(.error e,(exactR l (exactR l p n 18 (indexB es)).2.1 (exactR l p n 18 (indexB es)).2.2 19 (tailB (l.take (exactR l p n 18 (indexB es)).2.1) p)).2)
  | none =>
   match endR l (exactR l (exactR l p n 18 (indexB es)).2.1 (exactR l p n 18 (indexB es)).2.2 19 (tailB (l.take (exactR l p n 18 (indexB es)).2.1) p)).2.1 with
   | some e=>(.error e,(exactR l (exactR l p n 18 (indexB es)).2.1 (exactR l p n 18 (indexB es)).2.2 19 (tailB (l.take (exactR l p n 18 (indexB es)).2.1) p)).2)
   | none=>(.ok ⟨h,es,cs,fs⟩,(exactR l (exactR l p n 18 (indexB es)).2.1 (exactR l p n 18 (indexB es)).2.2 19 (tailB (l.take (exactR l p n 18 (indexB es)).2.1) p)).2)
def bodyR (l:List Int) (h:HeadD) (r:PartsRes×Nat×Nat):(Except Err WholeD)×Nat×Nat :=
 match r.1 with
 | .error e=>(.error e,r.2)
 | .ok x=>closeR l h x.1 x.2.1 x.2.2 r.2.1 r.2.2
def allR (l:List Int):(Except Err WholeD)×Nat×Nat :=
 match (headR l 0 0).1 with
 | .error e=>(.error e,(headR l 0 0).2)
 | .ok h=>bodyR l h (partsR l h.F h.parts h.parts.toNat 0 0 (headR l 0 0).2.1 (headR l 0 0).2.2)
theorem framesR_len {l:List Int}:∀ (c i p n:Nat) {x:List Coded×List Int},(framesR l c i p n).1=.ok x→x.1.length=c∧x.2.length=c
 | 0,i,p,n,x,h=>by
  simp only [framesR] at h
  cases h
  simp
 | c+1,i,p,n,x,h=>by
  unfold framesR at h
  cases hpk:peekR l p with
  | error e=>rw [hpk] at h;cases h
  | ok u =>
   rw [hpk] at h
   simp only at h
   split at h
   ·cases h
   ·cases hrb:readB ⟨u.kind,u.data⟩ with
    | some k=>rw [hrb] at h;cases h
    | none =>
     rw [hrb] at h
     simp only [consF] at h
     cases hf:(framesR l c (i+1) (u.end_+zeros (l.drop u.end_)) (n+1+zeros (l.drop u.end_))).1 with
     | error e=>rw [hf] at h;cases h
     | ok y =>
      rw [hf] at h
      have ih:=framesR_len c _ _ _ hf
      cases h
      simp [ih]
theorem partR_ok {l:List Int} (hl:∀ x∈l,InK .u8 x) {p n:Nat} {num first left behind:Int} (hp:p≤l.length) (hn:n≤p) :
  p≤(partR l p n num first left behind).2.1∧(partR l p n num first left behind).2.1≤l.length∧(partR l p n num first left behind).2.2≤(partR l p n num first left behind).2.1 ∧
  ∀ x,(partR l p n num first left behind).1=.ok x→x.1.first=first∧1≤x.1.count∧x.1.count≤left-behind∧(behind=0→x.1.count=left)∧x.1.offset=p∧(x.2.1.length:Int)=x.1.count∧(x.2.2.length:Int)=x.1.count∧x.1.length=((partR l p n num first left behind).2.1:Int)-p:=by
 unfold partR
 cases hnx:nextR l p 17 3 with
 | error e=>exact ⟨Nat.le_refl _,hp,hn,fun x h=>by cases h⟩
 | ok u =>
  obtain ⟨hpk,_,_⟩:=nextR_peek hnx
  have h1:=peekR_ok hpk hp hl
  simp only
  split
  ·exact ⟨Nat.le_refl _,hp,hn,fun x h=>by cases h⟩
  ·rename_i hb
   have h2:=framesR_pos hl (u.data.getD 2 0).toNat 0 u.end_ (n+1) (by omega) (by omega)
   refine ⟨by simp only;omega,by simp only;omega,by simp only;omega,fun x h=>?_⟩
   cases hf:(framesR l (u.data.getD 2 0).toNat 0 u.end_ (n+1)).1 with
   | error e=>rw [hf] at h;cases h
   | ok y =>
    rw [hf] at h
    have hlen:=framesR_len _ _ _ _ hf
    cases h
    refine ⟨rfl,by simp only;omega,by simp only;omega,fun hb0=>?_,rfl,by simp only;omega,by simp only;omega,rfl⟩
    exact Decidable.not_not.1 fun h'=>hb (.inr (.inr (.inr (.inr ⟨hb0,h'⟩))))
theorem exactR_pos {l:List Int} (hl:∀ x∈l,InK .u8 x) {p n:Nat} {k:Int} {d:List Int} (hp:p≤l.length) (hn:n≤p):p≤(exactR l p n k d).2.1∧(exactR l p n k d).2.1≤l.length∧(exactR l p n k d).2.2≤(exactR l p n k d).2.1:=by
 unfold exactR
 cases hnx:nextR l p k d.length with
 | error e=>exact ⟨Nat.le_refl _,hp,hn⟩
 | ok u =>
  obtain ⟨hpk,_,_⟩:=nextR_peek hnx
  have h1:=peekR_ok hpk hp hl
  simp only
  split
  ·simp only;omega
  ·exact ⟨Nat.le_refl _,hp,hn⟩
theorem headR_pos {l:List Int} (hl:∀ x∈l,InK .u8 x) {p n:Nat} (hp:p≤l.length) (hn:n≤p):p≤(headR l p n).2.1∧(headR l p n).2.1≤l.length∧(headR l p n).2.2≤(headR l p n).2.1∧∀ h,(headR l p n).1=.ok h→headOk h:=by
 unfold headR
 cases hnx:nextR l p 16 22 with
 | error e=>exact ⟨Nat.le_refl _,hp,hn,fun h hh=>by cases hh⟩
 | ok u =>
  obtain ⟨hpk,_,_⟩:=nextR_peek hnx
  have h1:=peekR_ok hpk hp hl
  simp only
  split
  ·rename_i hok
   refine ⟨by simp only;omega,by simp only;omega,by simp only;omega,fun h hh=>?_⟩
   cases hh
   exact hok
  ·exact ⟨Nat.le_refl _,hp,hn,fun h hh=>by cases hh⟩
def AllP (R:Nat) (bv:Value) (w:World) (r:(Except Err WholeD)×Nat×Nat) (e:Ending) (w':World):Prop :=
 Only [R] w w'∧Rd R bv w' r.2.1 r.2.2∧match r.1 with
  | .ok x=>∃ pv cv fv,e=.returned (.tuple #[infoV x.head.W x.head.H x.head.F x.head.c pv,cv,fv,.nilIface])∧OwnE w.heap.size w' pv x.parts∧OwnC w.heap.size w' cv x.coded (fun b=>fv.ownBlock=some b∨pv.ownBlock=some b)∧Own .i64 3 w.heap.size w' fv x.fills∧Sep fv pv
  | .error er=>∃ ev,e=.returned (.tuple #[infoV 0 0 0 cfg0 (.slice none 0 0),.slice none 0 0,.slice none 0 0,ev])∧ErrV w.heap.size w'.heap.size w' ev er
theorem OwnE.isSlice {base:Nat} {w:World} {v:Value} {l:List Entry} (h:OwnE base w v l):∃ a cap,v=.slice a l.length cap:=by
 obtain ⟨_,a,cap,rfl,_⟩:=Cells.of_own h
 exact ⟨a,cap,rfl⟩
theorem OwnE.lower {base base':Nat} {w:World} {v:Value} {l:List Entry} (h:OwnE base w v l) (hb:base'≤base):OwnE base' w v l:=owns_base h hb
theorem exactR_none {l:List Int} (hl:∀ x∈l,InK .u8 x) {p n:Nat} {k:Int} {d:List Int} (hp:p≤l.length) (h:(exactR l p n k d).1=none):p<(exactR l p n k d).2.1:=by
 unfold exactR at h ⊢
 cases hnx:nextR l p k d.length with
 | error e=>rw [hnx] at h;cases h
 | ok u =>
  obtain ⟨hpk,_,_⟩:=nextR_peek hnx
  have h1:=peekR_ok hpk hp hl
  rw [hnx] at h
  simp only at h ⊢
  split at h
  ·rename_i he
   rw [if_pos he]
   exact h1.2.1
  ·cases h
theorem rall_any {lo hi R:Nat} {bv:Value} {l:List Int} {w:World} (hr:Rd R bv w 0 0) (h:Ints .u8 lo hi w bv l) (hR:hi≤R) (hl:l.length≤1000000000000) :
  Calls Tryz.prog 40 #[.pointer (some ⟨R,0,none⟩)] w (AllP R bv w (allR l)):=by
 have hRl:=hr.lt
 have H:=lh (fun w' (o:Only [] w w')=>rhead_any (hr.quiet o) (h.quiet o) hR (Nat.zero_le _) (Nat.le_refl _) hl)
 have HR:=lh hr
 have Hh:=lh h
 have Hl:=lh hl
 have hr8:=h.2
 have hpos:=headR_pos hr8 (p:=0) (n:=0) (Nat.zero_le _) (Nat.le_refl _)
 have hA:allR l=(match (headR l 0 0).1 with
  | .error e=>(.error e,(headR l 0 0).2)
  | .ok h=>bodyR l h (partsR l h.F h.parts h.parts.toNat 0 0 (headR l 0 0).2.1 (headR l 0 0).2.2)):=rfl
 clear hr h
 generalize hhd:headR l 0 0=HD at *
 obtain ⟨hd,p0,n0⟩:=HD
 have Hhd:=lh hhd
 simp only at hA hpos
 clear hhd
 cases hd with
 | error er =>
  simp only at hA
  have Hfin:=lh hA
  clear hA hpos hr8
  go_enter Tryz.func40,Tryz.ntmps40
  go_wp2_with (first
   | (go_at_call 65;refine (H.out _ (Only.new _ _)).mono ?_;rintro e w1 hP;unfold HeadP at hP;simp only at hP;obtain ⟨hq1,hr1,ev,rfl,hev⟩:=hP;obtain ⟨et,eu,rfl⟩:=hev.held;unfold infoV cfg0;simp only;have rI:=hq1.rowAt (heap_alloc_new _ _) (by simp;omega);obtain ⟨⟨m0,m1,m2,m3,m4,m5⟩,⟨m6,m7,m8,m9,m10,m11⟩⟩:=cells12 rI;obtain ⟨⟨k0,k1,k2,k3,k4,k5⟩,⟨k6,k7,k8,k9,k10,k11⟩⟩:=frz12 rI;have hwl:w.heap.size<w1.heap.size:=(Array.getElem?_eq_some_iff.1 rI).1;have RI:=lh rI;clear rI)
   | fail)
  generalize hWf:World.alloc _ _=Wf
  obtain ⟨hrow,hO2⟩:=end12 RI.out hWf
  obtain ⟨⟨t0,t1,t2,t3,t4,t5⟩,⟨t6,t7,t8,t9,t10,t11⟩⟩:=cells12 hrow
  refine bodyPost_ret (v:=.tuple #[infoV 0 0 0 cfg0 (.slice none 0 0),.slice none 0 0,.slice none 0 0,.iface et eu]) (by simp [results,Tryz.results40,go_sem,t0,t1,t2,t3,t4,t5,t6,t7,t8,t9,t10,t11,infoV,cfg0]) rfl ?_
  unfold AllP
  rw [Hfin.out]
  have hA:Only [R] w Wf:=(((Only.new _ _).mono (U:=[R]) (by simp)).trans hq1 (fun g h _=>h) (fun g h _=>h)).trans hO2 (fun g h _=>h) (fun g hg hlt=>absurd (mSg.1 hg) (by omega))
  exact ⟨hA,hr1.only hO2 (by simp;omega),_,rfl,(hev.only hO2 (by simp)).mono (by simp) hO2.size⟩
 | ok hd =>
  simp only at hA
  have hok:=hpos.2.2.2 _ rfl
  obtain ⟨hok1,hok2,hok3,hok4,hok5,hok6⟩:=hok
  obtain ⟨hW,hH,hF,c,np⟩:=hd
  simp only at hok1 hok2 hok3 hok4 hok5 hok6
  obtain ⟨NP,rfl⟩:=Int.eq_ofNat_of_zero_le (by omega:0≤np)
  obtain ⟨c0,c1,c2,c3,c4,c5,c6,c7⟩:=c
  simp only [Int.toNat_natCast] at hA
  have HA:=lh hA
  have Hr8:=lh hr8
  clear hA hok1 hok6 hr8
  go_enter Tryz.func40,Tryz.ntmps40
  go_wp2_with (first
   | (go_at_call 65;refine (H.out _ (Only.new _ _)).mono ?_;rintro e w1 hP;unfold HeadP at hP;simp only at hP;obtain ⟨hq1,hr1,rfl⟩:=hP;unfold infoV;simp only)
   | fail)
  generalize hW0:World.alloc w1 _=W0
  have hqN:Only [] w1 W0:=by rw [← hW0];exact Only.new _ _
  have rG:W0.heap[w1.heap.size]?=some (.cells #[.int .i64 hW,.int .i64 hH,.int .i64 hF,.int .i64 c0,.int .i64 c1,.int .i64 c2,.int .i64 c3,.int .i64 c4,.int .i64 c5,.int .i64 c6,.int .i64 c7,.slice none 0 0] 42 (0,0)):=by rw [← hW0];exact heap_alloc_new _ _
  have rI:W0.heap[w.heap.size]?=some (.cells #[.int .i64 0,.int .i64 0,.int .i64 0,.int .i64 0,.int .i64 0,.int .i64 0,.int .i64 0,.int .i64 0,.int .i64 0,.int .i64 0,.int .i64 0,.slice none 0 0] 42 (0,0)):=hqN.rowAt (hq1.rowAt (heap_alloc_new _ _) (by simp;omega)) (by simp)
  have hO0:Only [R] w W0:=(((Only.new _ _).mono (U:=[R]) (by simp)).trans hq1 (fun g h _=>h) (fun g h _=>h)).trans hqN (fun g h _=>h) (by simp)
  have hr0:=hr1.quiet hqN
  have hsz0:W0.heap.size=w1.heap.size+1:=by rw [← hW0];simp
  have hsz1:w.heap.size<w1.heap.size:=by have:=hq1.size;simp at this;omega
  clear hW0 hqN hr1 hq1
  have hp1:=hpos.2.1
  have hp2:=hpos.2.2.1
  clear hpos
  generalize hG:w1.heap.size=G at *
  clear hG
  go_loopw [28,9,10] (fun i x y wr=>∃ (k q m:Nat) (es:List Entry) (cs:List Coded) (fs:List Int) (pv:Value),k≤NP∧i=.int .i64 k∧q≤l.length∧m≤q∧es.length=k∧(cs.length:Int)≤hF∧fs.length=cs.length ∧
   Hid (preP es cs fs (partsR l hF NP (NP-k) k cs.length q m)=partsR l hF NP NP 0 0 p0 n0)∧Rd R bv wr q m∧wr.heap[G]?=some (.cells #[.int .i64 hW,.int .i64 hH,.int .i64 hF,.int .i64 c0,.int .i64 c1,.int .i64 c2,.int .i64 c3,.int .i64 c4,.int .i64 c5,.int .i64 c6,.int .i64 c7,pv] 42 (0,0))∧wr.heap[w.heap.size]?=some (.cells #[.int .i64 0,.int .i64 0,.int .i64 0,.int .i64 0,.int .i64 0,.int .i64 0,.int .i64 0,.int .i64 0,.int .i64 0,.int .i64 0,.int .i64 0,.slice none 0 0] 42 (0,0)) ∧
   OwnE (G+1) wr pv es∧OwnC (G+1) wr x cs (fun b=>y.ownBlock=some b∨pv.ownBlock=some b)∧Own .i64 3 (G+1) wr y fs∧Sep y pv∧From (G+1) x∧From (G+1) y∧From (G+1) pv∧Only [R] w wr) (fun i _ _ _=>NP-(intOf i).toNat)
  case atStart =>
   exact ⟨0,p0,n0,[],[],[],.slice none 0 0,by omega,rfl,hp1,hp2,rfl,by simp;omega,rfl,lh (preP_nil _),hr0,rG,rI,World.ownsRow_nil _ _ _ _,OwnC.nil _ _ _,Own.nil _ _ _ _,Sep.nil _,From.nil _,From.nil _,From.nil _,hO0⟩
  case round =>
   clear rG rI hO0 hr0 hp1 hp2
   obtain ⟨k,q,m,es,cs,fs,pv,hk,rfl,hq1,hm1,hel,hcl,hfl,Hk,hrd,rG,rI,hoe,hoc,hof,hsy,hfx,hfy,hfp,hO⟩:=hrel
   have hzO:=hO.size
   have hGl:G<wr.heap.size:=(Array.getElem?_eq_some_iff.1 rG).1
   by_cases hlt:k<NP
   ·obtain ⟨g,hg⟩:∃ g,NP-k=g+1:=⟨NP-k-1,by omega⟩
    have hlti:(k:Int)<(NP:Int):=by omega
    have hk0:(0:Int)≤(k:Int):=by omega
    have hpo:=partR_ok Hr8.out (num:=k) (first:=cs.length) (left:=hF-cs.length) (behind:=(NP:Int)-1-k) hq1 hm1
    have hbv:=Hh.out.only hO (by intro g hg;rw [mSg] at hg;omega)
    have HP:=lh (rpart_any (k:Int) (cs.length:Int) (hF-cs.length) ((NP:Int)-1-k) hrd hbv hR hq1 hm1 Hl.out (by omega) (by omega))
    have hstep:=Hk.out
    rw [hg,partsR] at hstep
    generalize hpr:partR l q m k cs.length (hF-cs.length) ((NP:Int)-1-k)=PR at *
    obtain ⟨pr,q2,m2⟩:=PR
    simp only at hpo hstep
    clear hpr Hk hbv
    obtain ⟨pa,pcap,rfl⟩:=hoe.isSlice
    obtain ⟨xa,xcap,rfl⟩:=hoc.isSlice
    obtain ⟨⟨i0,i1,i2,i3,i4,i5⟩,⟨i6,i7,i8,i9,i10,i11⟩⟩:=cells12 rG
    have HOE:=lh hoe
    have HOC:=lh hoc
    have HOF:=lh hof
    have HG:=lh rG
    have HI:=lh rI
    have HOw:=lh hO
    have HSY:=lh hsy
    have hcl2:(cs.length:Int)≤16:=by omega
    have HEl:=lh hel
    have HFl:=lh hfl
    clear hoe hoc hof rG rI hO hsy hrd hel hfl
    cases pr with
    | error er =>
     simp only at hstep
     have hfin:allR l=(.error er,q2,m2):=by rw [HA.out,← hstep];rfl
     have Hfin:=lh hfin
     clear hfin hstep hpo
     go_wp2_with (first
      | (go_at_call 66;refine HP.out.mono ?_;rintro e w2 hPP;unfold PartP at hPP;simp only at hPP;obtain ⟨hq2,hr2,a,b,c,d,ev,rfl,hev⟩:=hPP;obtain ⟨et,eu,rfl⟩:=hev.held;have rI2:=hq2.rowAt HI.out (by simp;omega);obtain ⟨⟨m0,m1,m2,m3,m4,m5⟩,⟨m6,m7,m8,m9,m10,m11⟩⟩:=cells12 rI2;obtain ⟨⟨k0,k1,k2,k3,k4,k5⟩,⟨k6,k7,k8,k9,k10,k11⟩⟩:=frz12 rI2;have hwl2:w.heap.size<w2.heap.size:=(Array.getElem?_eq_some_iff.1 rI2).1;have RI2:=lh rI2;clear rI2)
      | fail)
     generalize hWf:World.alloc _ _=Wf
     obtain ⟨hrow,hO2⟩:=end12 RI2.out hWf
     obtain ⟨⟨t0,t1,t2,t3,t4,t5⟩,⟨t6,t7,t8,t9,t10,t11⟩⟩:=cells12 hrow
     refine bodyPost_ret (v:=.tuple #[infoV 0 0 0 cfg0 (.slice none 0 0),.slice none 0 0,.slice none 0 0,.iface et eu]) (by simp [results,Tryz.results40,go_sem,t0,t1,t2,t3,t4,t5,t6,t7,t8,t9,t10,t11,infoV,cfg0]) rfl ?_
     unfold AllP
     rw [Hfin.out]
     have hA2:Only [R] w w2:=HOw.out.trans hq2 (fun g h _=>h) (fun g h _=>h)
     have hA:Only [R] w Wf:=hA2.trans hO2 (fun g h _=>h) (fun g hg hlt=>absurd (mSg.1 hg) (by omega))
     exact ⟨hA,hr2.only hO2 (by simp;omega),_,rfl,(hev.only hO2 (by simp;omega)).mono (by omega) hO2.size⟩
    | ok x =>
     obtain ⟨e1,cs2,fs2⟩:=x
     obtain ⟨hx1,hx2,hx3,hx3b,hx4,hx5,hx6,hx7⟩:=hpo.2.2.2 _ rfl
     simp only at hstep hx1 hx2 hx3 hx4 hx5 hx6 hx7
     have hq2:=hpo.2.1
     have hm2:=hpo.2.2.1
     rw [preP_cons] at hstep
     have Hstep:=lh hstep
     obtain ⟨ef,ec,eo,el⟩:=e1
     simp only at hx1 hx2 hx3 hx4 hx5 hx6 hx7
     have Hx:=lh (And.intro hx2 (And.intro hx3 (And.intro hx5 hx6)))
     clear hstep hpo hx1 hx2 hx3 hx3b hx4 hx5 hx6 hx7
     have hqi:(q2:Int)≤1000000000000:=by have:=Hl.out;omega
     go_wp2_with (first
      | (go_at_call 66;refine HP.out.mono ?_;rintro e w2 hPP;unfold PartP at hPP;simp only at hPP;obtain ⟨hO2,hr2,cv2,fv2,rfl,hoc2,hof2⟩:=hPP;obtain ⟨ca2,ccap2,rfl⟩:=hoc2.isSlice;obtain ⟨fa2,fcap2,rfl,_⟩:=hof2.ints.open;simp only;have HO2:=lh hO2;have HR2:=lh hr2;have HOC2:=lh hoc2;have HOF2:=lh hof2;have rG2:=hO2.rowAt HG.out (by simp;omega);have g11:w2.cell? ⟨G,11,none⟩=some (.slice pa es.length pcap):=(by rw [cell_of_row _ _ _ _ _ _ rG2];rfl);have v11:=(fun o=>(Only.new w2 o).cell g11 (by simp));have hz2:=hO2.size;have hoe4:=(HOE.out.only hO2 (by intro g hg;rw [mSg] at hg;subst hg;exact fun e=>by have:=hfp _ e;omega)).quiet ((Only.new _ (.cells #[.int .i64 ef,.int .i64 ec,.int .i64 eo,.int .i64 el] 46)).q (Only.new _ (.cells #[.int .i64 ef,.int .i64 ec,.int .i64 eo,.int .i64 el] 46)));have hsrc:Cells 4 (w2.heap.size+1) (w2.heap.size+1+1) ((w2.alloc (.cells #[.int .i64 ef,.int .i64 ec,.int .i64 eo,.int .i64 el] 46)).alloc (.cells #[.int .i64 ef,.int .i64 ec,.int .i64 eo,.int .i64 el] 46)) (.slice (some ⟨w2.heap.size+1,0,none⟩) 1 1) 1 (flatE [⟨ef,ec,eo,el⟩]):=cells_newG rfl rfl (by simp [maxLen]) (by simp);have hone:=flatE_one [(⟨ef,ec,eo,el⟩:Entry)];have h63:es.length+1≤maxLen:=(by simp only [maxLen];have:=HEl.out;omega);have hby1:(es.length+1)*32≤140737488355328:=(by have:=HEl.out;omega);have hba1:G+1≤((w2.alloc (.cells #[.int .i64 ef,.int .i64 ec,.int .i64 eo,.int .i64 el] 46)).alloc (.cells #[.int .i64 ef,.int .i64 ec,.int .i64 eo,.int .i64 el] 46)).heap.size:=(by simp;omega);clear hO2 hr2 hoc2 hof2 rG2)
      | (at_builtin;refine wpList_append_cells rfl (.tmp 55) (.tmp 57) 40 rfl EE hoe4 rfl hsrc rfl hone h63 hby1 hba1 (fun v1 w5 h5 ho5 hat5=>?_);obtain ⟨_,a5,cap5,rfl,_⟩:=Cells.of_own h5;have acc5:Acc (.slice pa es.length pcap) ((w2.alloc (.cells #[.int .i64 ef,.int .i64 ec,.int .i64 eo,.int .i64 el] 46)).alloc (.cells #[.int .i64 ef,.int .i64 ec,.int .i64 eo,.int .i64 el] 46)) (.slice a5 (es.length+1) cap5) w5:=⟨ho5,hat5.imp id (fun e g hg=>by rw [e] at hg;injection hg with hg;omega)⟩;have H5:=lh h5;have ACC5:=lh acc5;have rG5:=acc5.only.rowAt (((Only.new _ _).q (Only.new _ _)).rowAt (HO2.out.rowAt HG.out (by simp;omega)) (by simp)) (fun hg=>by have:=hfp G (by simpa using hg);omega);have y11:w5.cell? ⟨G,11,none⟩=some (.slice pa es.length pcap):=(by rw [cell_of_row _ _ _ _ _ _ rG5];rfl);have z11:=frozen_of_row w5 G 11 _ _ rG5;have HG5:=lh rG5;have HI5:=lh (acc5.only.rowAt (((Only.new _ _).q (Only.new _ _)).rowAt (HO2.out.rowAt HI.out (by simp;omega)) (by simp)) (fun hg=>by have:=hfp w.heap.size (by simpa using hg);omega));have hq24:Only [] w2 ((w2.alloc (.cells #[.int .i64 ef,.int .i64 ec,.int .i64 eo,.int .i64 el] 46)).alloc (.cells #[.int .i64 ef,.int .i64 ec,.int .i64 eo,.int .i64 el] 46)):=(Only.new _ _).q (Only.new _ _);have HQ24:=lh hq24;have hz24:=hq24.size;have hz5:=acc5.only.size;have hS:Only [G] w5 (w5.setCell ⟨G,11,none⟩ (.slice a5 (es.length+1) cap5)):=(Only.refl _ _).setCell (by simp) _;have HS:=lh hS;have hpl:=(fun g hg=>(HOE.out.lt g hg).2);have hocX:=(((HOC.out.only HO2.out (by intro g hg;rw [mSg] at hg;omega)).quiet hq24).other acc5 (X':=fun b=>u10.ownBlock=some b∨(Value.slice a5 (es.length+1) cap5).ownBlock=some b) (fun g hg=>.inr hg) (fun g hg=>hg.elim (fun h=>.inl (.inl h)) .inr)).only hS (by intro g hg;rw [mSg] at hg;omega);have hocY:=(((HOC2.out.quiet hq24).step acc5.only (X':=fun b=>(Value.slice fa2 fs2.length fcap2).ownBlock=some b∨(Value.slice a5 (es.length+1) cap5).ownBlock=some b) (fun b hb hbb=>by have:=hpl b (by simpa using hb);omega) (fun b hb hbb=>by rcases hb with hb | hb;exact .inl hb;rcases acc5.at_ with e | e;exact absurd hbb (by have:=hpl b (e ▸ hb);omega);exact .inr (e b hb))).only hS (by intro g hg;rw [mSg] at hg;omega));have hvb:=(fun g hg=>(HOC.out.at g hg).2);have hXb:∀ g,(u10.ownBlock=some g∨(Value.slice a5 (es.length+1) cap5).ownBlock=some g)→g<(w5.setCell ⟨G,11,none⟩ (.slice a5 (es.length+1) cap5)).heap.size∧(g<wr.heap.size∨((Value.slice fa2 fs2.length fcap2).ownBlock=some g∨(Value.slice a5 (es.length+1) cap5).ownBlock=some g)):=(fun g hg=>by rcases hg with hg | hg;(have:=(HOF.out.at g hg).2;exact ⟨by simp;omega,.inl this⟩);exact ⟨by have:=(H5.out.lt g hg).2;simpa using this,.inr (.inr hg)⟩);have hby2:(cs.length+cs2.length)*32≤140737488355328:=(by have:=Hx.out;omega);have hba2:wr.heap.size≤(w5.setCell ⟨G,11,none⟩ (.slice a5 (es.length+1) cap5)).heap.size:=(by simp;omega);clear h5 acc5 rG5 hq24 hS hoe4 hsrc hone ho5 hat5 v11 g11)
      | (at_builtin;refine wpList_append_coded rfl (.tmp 60) (.tmp 61) 47 rfl EC hocX rfl hocY rfl (by omega) hvb hXb hby2 hba2 (fun v2 w6 hoc6 acc6=>?_);have HOC6:=lh hoc6;have ACC6:=lh acc6;have hsx5:Sep (.slice xa cs.length xcap) (.slice a5 (es.length+1) cap5):=hocX.sep (fun b h=>.inr h);have hsxy:Sep (.slice xa cs.length xcap) u10:=HOC.out.sep (fun b h=>.inl h);have hofA:=(((((HOF.out.only HO2.out (by intro g hg;rw [mSg] at hg;subst hg;exact fun e=>by have:=hfy _ e;omega)).quiet HQ24.out).acc ACC5.out HSY.out.symm).only HS.out (by intro g hg;rw [mSg] at hg;subst hg;exact fun e=>by have:=hfy _ e;omega)).acc acc6 hsxy);have hofB:=((((HOF2.out.quiet HQ24.out).only ACC5.out.only (fun g hg e=>by have h1:=hpl g (by simpa using hg);have:=(HOF2.out.at g e).1;omega)).only HS.out (by intro g hg;rw [mSg] at hg;exact fun e=>by have:=(HOF2.out.at g e).1;omega)).only acc6.only (fun g hg e=>by have h1:=hvb g (by simpa using hg);have:=(HOF2.out.at g e).1;omega));have hby3:(fs.length+fs2.length)*8≤140737488355328:=(by have:=Hx.out;have:=HFl.out;omega);have hz6:=acc6.only.size;have hba3:G+1≤w6.heap.size:=(by simp at hz6;omega);have HSX:=lh hsx5;clear hoc6 acc6 hocX hocY hsx5 hsxy hXb)
      | (at_builtin;refine wpList_append_ints rfl (.tmp 63) (.tmp 64) 48 rfl EI hofA rfl hofB.ints rfl hby3 hba3 (fun v3 w7 hof7 acc7=>?_);have HOF7:=lh hof7;have ACC7:=lh acc7;clear hof7 acc7 hofA hofB)
      | fail)
     have hV1:∀ g,(Value.slice a5 (es.length+1) cap5).ownBlock=some g→G+1≤g∧g<w5.heap.size:=H5.out.lt
     have hsz5':w5.heap.size≤w6.heap.size:=by have:=ACC6.out.only.size;simpa using this
     have hsy1:Sep u10 (.slice a5 (es.length+1) cap5):=(ACC5.out.sep HSY.out.symm (fun g hg=>by have:=(HOF.out.at g hg).2;simp;omega)).symm
     have hlx:∀ {g:Nat},g≤G→(Value.slice xa cs.length xcap).ownBlock≠some g:=fun {g} h e=>by have:=hfx g e;omega
     have hly:∀ {g:Nat},g≤G→u10.ownBlock≠some g:=fun {g} h e=>by have:=hfy g e;omega
     have hlp:∀ {g:Nat},g≤G→(Value.slice pa es.length pcap).ownBlock≠some g:=fun {g} h e=>by have:=hfp g e;omega
     have hRG:R≤G:=by omega
     have hrd7:Rd R bv w7 q2 m2:=((((HR2.out.quiet HQ24.out).only ACC5.out.only (fun hg=>hlp hRG (by simpa using hg))).only HS.out (by simp;omega)).only ACC6.out.only (fun hg=>hlx hRG (by simpa using hg))).only ACC7.out.only (fun hg=>hly hRG (by simpa using hg))
     have rG7:=ACC7.out.only.rowAt (ACC6.out.only.rowAt (heap_setCell_same w5 G 11 _ _ (.slice a5 (es.length+1) cap5) HG5.out) (fun hg=>hlx (Nat.le_refl G) (by simpa using hg))) (fun hg=>hly (Nat.le_refl G) (by simpa using hg))
     have rI7:=ACC7.out.only.rowAt (ACC6.out.only.rowAt (HS.out.rowAt HI5.out (by simp;omega)) (fun hg=>hlx (by omega:w.heap.size≤G) (by simpa using hg))) (fun hg=>hly (by omega:w.heap.size≤G) (by simpa using hg))
     have hoe5:OwnE (G+1) w5 (.slice a5 (es.length+1) cap5) (es ++ [⟨ef,ec,eo,el⟩]):=by
      unfold OwnE
      rw [flatE_append,List.length_append]
      exact H5.out
     have hoe7:=((hoe5.only HS.out (by intro g hg;rw [mSg] at hg;subst hg;exact fun e=>by have:=(hV1 _ e).1;omega)).only ACC6.out.only (fun g hg=>HSX.out g (by simpa using hg))).only ACC7.out.only (fun g hg=>hsy1 g (by simpa using hg))
     have hoc7:=HOC6.out.other ACC7.out (X':=fun b=>v3.ownBlock=some b∨(Value.slice a5 (es.length+1) cap5).ownBlock=some b) (fun g hg=>.inl hg) (fun g hg=>hg.elim .inr (fun h=>.inl (.inr h)))
     have hsy7:=ACC7.out.sep hsy1 (fun g hg=>Nat.lt_of_lt_of_le (hV1 g hg).2 hsz5')
     have hO7:Only [R] w w7:=by
      have o2:Only [R] w w2:=HOw.out.trans HO2.out (fun g h _=>h) (fun g h _=>h)
      have o4:=o2.trans HQ24.out (U:=[R]) (fun g h _=>h) (by simp)
      have o5:Only [R] w w5:=o4.trans ACC5.out.only (fun g h _=>h) (fun g hg hlt=>absurd (by simpa using hg) (hlp (by omega:g≤G)))
      have o5':=o5.trans HS.out (U:=[R]) (fun g h _=>h) (fun g hg hlt=>absurd (mSg.1 hg) (by omega))
      have o6:Only [R] w w6:=o5'.trans ACC6.out.only (fun g h _=>h) (fun g hg hlt=>absurd (by simpa using hg) (hlx (by omega:g≤G)))
      exact o6.trans ACC7.out.only (fun g h _=>h) (fun g hg hlt=>absurd (by simpa using hg) (hly (by omega:g≤G)))
     have hfin7:Hid (preP (es ++ [⟨ef,ec,eo,el⟩]) (cs ++ cs2) (fs ++ fs2) (partsR l hF NP (NP-(k+1)) (k+1) (cs ++ cs2).length q2 m2)=partsR l hF NP NP 0 0 p0 n0):=lh (by
      rw [← Hstep.out,List.length_append,show NP-(k+1)=g by rw [← Nat.sub_sub,hg];rfl])
     have hxx:=Hx.out
     have hel2:=HEl.out
     have hfl2:=HFl.out
     refine ⟨⟨k+1,q2,m2,es ++ [⟨ef,ec,eo,el⟩],cs ++ cs2,fs ++ fs2,.slice a5 (es.length+1) cap5,by omega,by go_num,hq2,hm2,by simp;omega,by rw [List.length_append];omega,by rw [List.length_append,List.length_append];omega,hfin7,hrd7,rG7,rI7,hoe7,hoc7,HOF7.out,hsy7,ACC6.out.from_ hfx (by simp at hba2 ⊢;omega),ACC7.out.from_ hfy hba3,ACC5.out.from_ hfp hba1,hO7⟩,?_⟩
     simp [intOf];omega
   ·obtain rfl:k=NP:=by omega
    have hx:¬ (k:Int)<(k:Int):=by omega
    have hparts:partsR l hF k k 0 0 p0 n0=(.ok (es,cs,fs),q,m):=by rw [← Hk.out,Nat.sub_self];simp [partsR,preP]
    have hall:allR l=closeR l ⟨hW,hH,hF,⟨c0,c1,c2,c3,c4,c5,c6,c7⟩,(k:Int)⟩ es cs fs q m:=by rw [HA.out,hparts];rfl
    have Hall:=lh hall
    clear Hk hparts hall
    have hbv:=Hh.out.only hO (by intro g hg;rw [mSg] at hg;omega)
    have HIx:=lh (fun w' (o:Only [] wr w')=>index_any (hoe.quiet o).entries (by omega))
    obtain ⟨pa,pcap,rfl⟩:=hoe.isSlice
    obtain ⟨xa,xcap,rfl⟩:=hoc.isSlice
    obtain ⟨⟨i0,i1,i2,i3,i4,i5⟩,⟨i6,i7,i8,i9,i10,i11⟩⟩:=cells12 rG
    obtain ⟨ba,bcap,rfl,hbc,hbm,hbat,_⟩:=hbv.open
    have r0:=hrd.c0
    have r1:=hrd.c1
    have HBV:=lh hbv
    have HRd:=lh hrd
    have HOE:=lh hoe
    have HOC:=lh hoc
    have HOF:=lh hof
    have HG:=lh rG
    have HI:=lh rI
    have HOw:=lh hO
    have HSY:=lh hsy
    have HEl:=lh hel
    have HFl:=lh hfl
    clear hoe hoc hof rG rI hO hsy hrd hbv hel hfl
    have hx1:=exactR_pos Hr8.out (k:=18) (d:=indexB es) hq1 hm1
    generalize hex:exactR l q m 18 (indexB es)=EX at *
    obtain ⟨ex,q2,m2⟩:=EX
    simp only at hx1
    have HEX:=lh hex
    clear hex
    cases ex with
    | some er =>
     have hfin:allR l=(.error er,q2,m2):=by rw [Hall.out];unfold closeR;rw [HEX.out]
     have Hfin:=lh hfin
     clear hfin
     go_wp2_with (first
      | (go_at_call 35;refine (HIx.out _ (Only.refl _ _)).mono ?_;rintro e w2 ⟨iv,rfl,hown2,hq2⟩;have hbv2:=HBV.out.quiet hq2;have HE1:=lh (rexact_any 18 (HRd.out.quiet hq2) hbv2 hR hq1 hm1 Hl.out hown2.ints);have HQ2:=lh hq2;clear hbv2 hown2 hq2)
      | (go_at_call 67;refine HE1.out.mono ?_;rintro e w3 ⟨ev,rfl,hev,hr3,hO3⟩;rw [HEX.out] at hev hr3;simp only at hev hr3;have hev2:ErrV w2.heap.size w3.heap.size w3 ev er:=hev;obtain ⟨et,eu,rfl⟩:=hev2.held;clear hev;have HO3:=lh hO3;have HR3:=lh hr3;have hz3:=(HQ2.out.q (Only.refl _ _)).size;have hz4:=hO3.size;have rI3:=hO3.rowAt (HQ2.out.rowAt HI.out (by simp)) (by simp;omega);obtain ⟨⟨m0,m1,m2',m3',m4,m5⟩,⟨m6,m7,m8,m9,m10,m11⟩⟩:=cells12 rI3;obtain ⟨⟨k0,k1,k2,k3,k4,k5⟩,⟨k6,k7,k8,k9,k10,k11⟩⟩:=frz12 rI3;have HI3:=lh rI3;clear hO3 hr3 rI3 HE1)
      | fail)
     have hOw3:Only [R] w w3:=(HOw.out.trans HQ2.out (U:=[R]) (fun g h _=>h) (by simp)).trans HO3.out (fun g h _=>h) (fun g h _=>h)
     generalize hWf:World.setCell _ _ _=Wf
     obtain ⟨hrow,hOf⟩:=end12' HI3.out hWf
     obtain ⟨⟨t0,t1,t2,t3,t4,t5⟩,⟨t6,t7,t8,t9,t10,t11⟩⟩:=cells12 hrow
     refine bodyPost_ret (v:=.tuple #[infoV 0 0 0 cfg0 (.slice none 0 0),.slice none 0 0,.slice none 0 0,.iface et eu]) (by simp [results,Tryz.results40,go_sem,t0,t1,t2,t3,t4,t5,t6,t7,t8,t9,t10,t11,infoV,cfg0]) rfl ?_
     unfold AllP
     rw [Hfin.out]
     have hAf:Only [R] w Wf:=(hOw3).trans hOf (fun g h _=>h) (fun g hg hlt=>absurd (mSg.1 hg) (by omega))
     exact ⟨hAf,(HR3.out).only hOf (by simp;omega),_,rfl,(ErrV.only hev2 hOf (by simp;omega)).mono (by omega) hOf.size⟩
    | none =>
     have hlt2:=exactR_none Hr8.out (p:=q) (n:=m) (k:=18) (d:=indexB es) hq1 (by rw [HEX.out])
     rw [HEX.out] at hlt2
     simp only at hlt2
     have hx2:=exactR_pos Hr8.out (p:=q2) (n:=m2) (k:=19) (d:=tailB (l.take q2) q) hx1.2.1 hx1.2.2
     have hall2:allR l=(match (exactR l q2 m2 19 (tailB (l.take q2) q)).1 with
      | some e=>(.error e,(exactR l q2 m2 19 (tailB (l.take q2) q)).2)
      | none=>match endR l (exactR l q2 m2 19 (tailB (l.take q2) q)).2.1 with
       | some e=>(.error e,(exactR l q2 m2 19 (tailB (l.take q2) q)).2)
       | none=>(.ok ⟨⟨hW,hH,hF,⟨c0,c1,c2,c3,c4,c5,c6,c7⟩,(k:Int)⟩,es,cs,fs⟩,(exactR l q2 m2 19 (tailB (l.take q2) q)).2)):=by
      rw [Hall.out];unfold closeR;simp only [HEX.out] <;> rfl
     generalize hex2:exactR l q2 m2 19 (tailB (l.take q2) q)=EX2 at *
     obtain ⟨ex2,q3,m3⟩:=EX2
     simp only at hx2 hall2
     have HEX2:=lh hex2
     have Hall2:=lh hall2
     clear hex2 hall2
     go_wp2_with (first
      | (go_at_call 35;refine (HIx.out _ (Only.refl _ _)).mono ?_;rintro e w2 ⟨iv,rfl,hown2,hq2⟩;have hbv2:=HBV.out.quiet hq2;have HE1:=lh (rexact_any 18 (HRd.out.quiet hq2) hbv2 hR hq1 hm1 Hl.out hown2.ints);have HQ2:=lh hq2;clear hbv2 hown2 hq2)
      | (go_at_call 67;refine HE1.out.mono ?_;rintro e w3 ⟨ev,rfl,hev,hr3,hO3⟩;rw [HEX.out] at hev hr3;simp only at hev hr3;have hev2:ev=.nilIface:=hev;subst hev2;clear hev;have HO3:=lh hO3;have HR3:=lh hr3;have hz3:=(HQ2.out.q (Only.refl _ _)).size;have hz4:=hO3.size;have rI3:=hO3.rowAt (HQ2.out.rowAt HI.out (by simp)) (by simp;omega);obtain ⟨⟨m0,m1,m2',m3',m4,m5⟩,⟨m6,m7,m8,m9,m10,m11⟩⟩:=cells12 rI3;obtain ⟨⟨k0,k1,k2,k3,k4,k5⟩,⟨k6,k7,k8,k9,k10,k11⟩⟩:=frz12 rI3;have HI3:=lh rI3;clear hO3 hr3 rI3 HE1)
      | fail)
     obtain ⟨bb,boff,rfl,_,_⟩:=hbat 0 (by omega)
     have HBV2:=HBV.out.quiet HQ2.out
     have hbv3:=HBV2.only HO3.out (by intro g hg;rw [mSg] at hg;omega)
     have d0:=HR3.out.c0
     have d1:=HR3.out.c1
     have hcpp:(q2:Int)≤(bcap:Int):=by omega
     have hcpn:q2≤bcap:=by omega
     have hcz:¬ bcap=0:=by omega
     have HQ3D:Hid (Only [] w3 w3.drew):=lh (Only.refl _ _).drew
     have HBV3:=lh (hbv3.quiet HQ3D.out)
     have hzd:w3.drew.heap.size=w3.heap.size:=rfl
     have hsub0:=HBV3.out.sub (i:=0) (j:=q2) (Nat.zero_le _) hx1.2.1 bcap (Nat.le_refl _) (by omega)
     have hsub1:Ints .u8 lo hi w3.drew (.slice (some ⟨bb,boff,none⟩) q2 bcap) (l.take q2):=by simpa using hsub0
     have HSub:=lh hsub1
     clear hbv3 hsub0 hsub1 HBV2 hbat
     have hOw3:Only [R] w w3:=(HOw.out.trans HQ2.out (U:=[R]) (fun g h _=>h) (by simp)).trans HO3.out (fun g h _=>h) (fun g h _=>h)
     cases ex2 with
     | some er =>
      have hfin:allR l=(.error er,q3,m3):=Hall2.out
      have Hfin:=lh hfin
      clear hfin
      go_region_with (first
       | (go_at_call 36;refine (tail_any (q:Int) HSub.out).mono ?_;rintro e w4 ⟨tv,rfl,hown4,hq4⟩;have hbv4:=(HBV3.out.quiet hq4);have HE2:=lh (rexact_any 19 ((HR3.out.quiet HQ3D.out).quiet hq4) hbv4 hR hx1.2.1 hx1.2.2 Hl.out hown4.ints);have HQ4:=lh hq4;clear hbv4 hown4 hq4)
       | (go_at_call 67;refine HE2.out.mono ?_;rintro e w5 ⟨ev,rfl,hev,hr5,hO5⟩;rw [HEX2.out] at hev hr5;simp only at hev hr5;have hev5:ErrV w4.heap.size w5.heap.size w5 ev er:=hev;obtain ⟨et,eu,rfl⟩:=hev5.held;clear hev;have HO5:=lh hO5;have HR5:=lh hr5;have hz6:=(HQ4.out).size;have hz7:=hO5.size;have rI5:=hO5.rowAt (HQ4.out.rowAt (HQ3D.out.rowAt HI3.out (by simp)) (by simp)) (by simp;omega);obtain ⟨⟨n0,n1,n2,n3,n4,n5⟩,⟨n6,n7,n8,n9,n10,n11⟩⟩:=cells12 rI5;obtain ⟨⟨y0,y1,y2,y3,y4,y5⟩,⟨y6,y7,y8,y9,y10,y11⟩⟩:=frz12 rI5;have HI5:=lh rI5;clear hO5 hr5 rI5 HE2)
       | fail)
      all_goals
       go_wp2_with fail
       generalize hWf:World.setCell _ _ _=Wf
       obtain ⟨hrow,hOf⟩:=end12' HI5.out hWf
       obtain ⟨⟨t0,t1,t2,t3,t4,t5⟩,⟨t6,t7,t8,t9,t10,t11⟩⟩:=cells12 hrow
       refine bodyPost_ret (v:=.tuple #[infoV 0 0 0 cfg0 (.slice none 0 0),.slice none 0 0,.slice none 0 0,.iface et eu]) (by simp [results,Tryz.results40,go_sem,t0,t1,t2,t3,t4,t5,t6,t7,t8,t9,t10,t11,infoV,cfg0]) rfl ?_
       unfold AllP
       rw [Hfin.out]
       have hAf:Only [R] w Wf:=(((((HOw.out.trans HQ2.out (U:=[R]) (fun g h _=>h) (by simp)).trans HO3.out (U:=[R]) (fun g h _=>h) (fun g h _=>h)).trans HQ3D.out (U:=[R]) (fun g h _=>h) (by simp)).trans HQ4.out (U:=[R]) (fun g h _=>h) (by simp)).trans HO5.out (U:=[R]) (fun g h _=>h) (fun g h _=>h)).trans hOf (fun g h _=>h) (fun g hg hlt=>absurd (mSg.1 hg) (by omega))
       exact ⟨hAf,(HR5.out).only hOf (by simp;omega),_,rfl,(ErrV.only hev5 hOf (by simp;omega)).mono (by omega) hOf.size⟩
     | none =>
      have hall3:=Hall2.out
      simp only at hall3
      cases hend:endR l q3 with
      | some er =>
       rw [hend] at hall3
       have Hfin:=lh hall3
       have Hend:=lh hend
       clear hall3 hend
       go_region_with (first
       | (go_at_call 36;refine (tail_any (q:Int) HSub.out).mono ?_;rintro e w4 ⟨tv,rfl,hown4,hq4⟩;have hbv4:=(HBV3.out.quiet hq4);have HE2:=lh (rexact_any 19 ((HR3.out.quiet HQ3D.out).quiet hq4) hbv4 hR hx1.2.1 hx1.2.2 Hl.out hown4.ints);have HQ4:=lh hq4;clear hbv4 hown4 hq4)
       | (go_at_call 67;refine HE2.out.mono ?_;rintro e w5 ⟨ev,rfl,hev,hr5,hO5⟩;rw [HEX2.out] at hev hr5;simp only at hev hr5;have hev5:ev=.nilIface:=hev;subst hev5;clear hev;have HO5:=lh hO5;have HR5:=lh hr5;have hz6:=(HQ4.out).size;have hz7:=hO5.size;have rI5:=hO5.rowAt (HQ4.out.rowAt (HQ3D.out.rowAt HI3.out (by simp)) (by simp)) (by simp;omega);obtain ⟨⟨n0,n1,n2,n3,n4,n5⟩,⟨n6,n7,n8,n9,n10,n11⟩⟩:=cells12 rI5;obtain ⟨⟨y0,y1,y2,y3,y4,y5⟩,⟨y6,y7,y8,y9,y10,y11⟩⟩:=frz12 rI5;have HI5:=lh rI5;clear hO5 hr5 rI5 HE2)
        | fail)
       all_goals
        have hbv5:=(HBV3.out.quiet HQ4.out).only HO5.out (by intro g hg;rw [mSg] at hg;omega)
        have HEnd:=lh (rend_any HR5.out hbv5 hx2.2.1)
        go_wp2_with (first
         | (go_at_call 48;refine HEnd.out.mono ?_;rintro e w6 ⟨ev,rfl,hev,hq6⟩;rw [Hend.out] at hev;have hev6:ErrV w5.heap.size w6.heap.size w6 ev er:=hev;obtain ⟨et,eu,rfl⟩:=hev6.held;clear hev;have rI6:=hq6.rowAt HI5.out (by simp);obtain ⟨⟨p0',p1,p2,p3,p4,p5⟩,⟨p6,p7,p8,p9,p10,p11⟩⟩:=cells12 rI6;obtain ⟨⟨x0,x1,x2,x3,x4,x5⟩,⟨x6,x7,x8,x9,x10,x11⟩⟩:=frz12 rI6;have HI6:=lh rI6;clear rI6)
         | fail)
        generalize hWf:World.setCell _ _ _=Wf
        obtain ⟨hrow,hOf⟩:=end12' HI6.out hWf
        obtain ⟨⟨t0,t1,t2,t3,t4,t5⟩,⟨t6,t7,t8,t9,t10,t11⟩⟩:=cells12 hrow
        refine bodyPost_ret (v:=.tuple #[infoV 0 0 0 cfg0 (.slice none 0 0),.slice none 0 0,.slice none 0 0,.iface et eu]) (by simp [results,Tryz.results40,go_sem,t0,t1,t2,t3,t4,t5,t6,t7,t8,t9,t10,t11,infoV,cfg0]) rfl ?_
        unfold AllP
        rw [Hfin.out]
        have hOw6:Only [R] w w6:=(((((HOw.out.trans HQ2.out (U:=[R]) (fun g h _=>h) (by simp)).trans HO3.out (U:=[R]) (fun g h _=>h) (fun g h _=>h)).trans HQ3D.out (U:=[R]) (fun g h _=>h) (by simp)).trans HQ4.out (U:=[R]) (fun g h _=>h) (by simp)).trans HO5.out (U:=[R]) (fun g h _=>h) (fun g h _=>h)).trans hq6 (fun g h _=>h) (by simp)
        have hAf:Only [R] w Wf:=hOw6.trans hOf (fun g h _=>h) (fun g hg hlt=>absurd (mSg.1 hg) (by omega))
        exact ⟨hAf,(HR5.out.quiet hq6).only hOf (by simp;omega),_,rfl,(ErrV.only hev6 hOf (by simp;omega)).mono (by omega) hOf.size⟩
      | none =>
       rw [hend] at hall3
       have Hfin:=lh hall3
       have Hend:=lh hend
       clear hall3 hend
       go_region_with (first
       | (go_at_call 36;refine (tail_any (q:Int) HSub.out).mono ?_;rintro e w4 ⟨tv,rfl,hown4,hq4⟩;have hbv4:=(HBV3.out.quiet hq4);have HE2:=lh (rexact_any 19 ((HR3.out.quiet HQ3D.out).quiet hq4) hbv4 hR hx1.2.1 hx1.2.2 Hl.out hown4.ints);have HQ4:=lh hq4;clear hbv4 hown4 hq4)
       | (go_at_call 67;refine HE2.out.mono ?_;rintro e w5 ⟨ev,rfl,hev,hr5,hO5⟩;rw [HEX2.out] at hev hr5;simp only at hev hr5;have hev5:ev=.nilIface:=hev;subst hev5;clear hev;have HO5:=lh hO5;have HR5:=lh hr5;have hz6:=(HQ4.out).size;have hz7:=hO5.size;have rI5:=hO5.rowAt (HQ4.out.rowAt (HQ3D.out.rowAt HI3.out (by simp)) (by simp)) (by simp;omega);obtain ⟨⟨n0,n1,n2,n3,n4,n5⟩,⟨n6,n7,n8,n9,n10,n11⟩⟩:=cells12 rI5;obtain ⟨⟨y0,y1,y2,y3,y4,y5⟩,⟨y6,y7,y8,y9,y10,y11⟩⟩:=frz12 rI5;have HI5:=lh rI5;clear hO5 hr5 rI5 HE2)
        | fail)
       all_goals
        have hbv5:=(HBV3.out.quiet HQ4.out).only HO5.out (by intro g hg;rw [mSg] at hg;omega)
        have HEnd:=lh (rend_any HR5.out hbv5 hx2.2.1)
        go_wp2_with (first
         | (go_at_call 48;refine HEnd.out.mono ?_;rintro e w6 ⟨ev,rfl,hev,hq6⟩;rw [Hend.out] at hev;have hev6:ev=.nilIface:=hev;subst hev6;clear hev;have rI6:=hq6.rowAt HI5.out (by simp);obtain ⟨⟨p0',p1,p2,p3,p4,p5⟩,⟨p6,p7,p8,p9,p10,p11⟩⟩:=cells12 rI6;obtain ⟨⟨x0,x1,x2,x3,x4,x5⟩,⟨x6,x7,x8,x9,x10,x11⟩⟩:=frz12 rI6;have rG6:=hq6.rowAt (HO5.out.rowAt (HQ4.out.rowAt (HQ3D.out.rowAt (HO3.out.rowAt (HQ2.out.rowAt HG.out (by simp)) (by simp;omega)) (by simp)) (by simp)) (by simp;omega)) (by simp);obtain ⟨⟨s0,s1,s2,s3,s4,s5⟩,⟨s6,s7,s8,s9,s10,s11⟩⟩:=cells12 rG6;have HI6:=lh rI6;clear rI6 rG6)
         | fail)
        generalize hWf:World.setCell _ _ _=Wf
        obtain ⟨hrow,hOf⟩:=end12' HI6.out hWf
        obtain ⟨⟨t0,t1,t2,t3,t4,t5⟩,⟨t6,t7,t8,t9,t10,t11⟩⟩:=cells12 hrow
        refine bodyPost_ret (v:=.tuple #[infoV hW hH hF ⟨c0,c1,c2,c3,c4,c5,c6,c7⟩ (.slice pa es.length pcap),.slice xa cs.length xcap,u10,.nilIface]) (by simp [results,Tryz.results40,go_sem,t0,t1,t2,t3,t4,t5,t6,t7,t8,t9,t10,t11,infoV]) rfl ?_
        unfold AllP
        rw [Hfin.out]
        have hOw6:Only [R] w w6:=(((((HOw.out.trans HQ2.out (U:=[R]) (fun g h _=>h) (by simp)).trans HO3.out (U:=[R]) (fun g h _=>h) (fun g h _=>h)).trans HQ3D.out (U:=[R]) (fun g h _=>h) (by simp)).trans HQ4.out (U:=[R]) (fun g h _=>h) (by simp)).trans HO5.out (U:=[R]) (fun g h _=>h) (fun g h _=>h)).trans hq6 (fun g h _=>h) (by simp)
        have hAf:Only [R] w Wf:=hOw6.trans hOf (fun g h _=>h) (fun g hg hlt=>absurd (mSg.1 hg) (by omega))
        have hoe6:=(((((HOE.out.quiet HQ2.out).only HO3.out (by intro g hg;rw [mSg] at hg;subst hg;exact fun e=>by have:=hfp _ e;omega)).quiet HQ3D.out).quiet HQ4.out).only HO5.out (by intro g hg;rw [mSg] at hg;subst hg;exact fun e=>by have:=hfp _ e;omega)).quiet hq6
        have hoc6:=(((((HOC.out.quiet HQ2.out).only HO3.out (by intro g hg;rw [mSg] at hg;omega)).quiet HQ3D.out).quiet HQ4.out).only HO5.out (by intro g hg;rw [mSg] at hg;omega)).quiet hq6
        have hof6:=(((((HOF.out.quiet HQ2.out).only HO3.out (by intro g hg;rw [mSg] at hg;subst hg;exact fun e=>by have:=hfy _ e;omega)).quiet HQ3D.out).quiet HQ4.out).only HO5.out (by intro g hg;rw [mSg] at hg;subst hg;exact fun e=>by have:=hfy _ e;omega)).quiet hq6
        exact ⟨hAf,(HR5.out.quiet hq6).only hOf (by simp;omega),_,_,_,rfl,(hoe6.only hOf (by intro g hg;rw [mSg] at hg;subst hg;exact fun e=>by have:=hfp _ e;omega)).lower (by omega),(hoc6.only hOf (by intro g hg;rw [mSg] at hg;omega)).lower (by omega),(hof6.only hOf (by intro g hg;rw [mSg] at hg;subst hg;exact fun e=>by have:=hfy _ e;omega)).lower (by omega),HSY.out⟩
end Go.Proofs.YtmdobcffijnaoaaGreatDoor
