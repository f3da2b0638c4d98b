/- Joined texts: Part, BackP, DLeansL, BAlP. Conditions: each part names its own. -/
import Derived.Test.YtmdobcffijnaoaaGreatDoorB1
import Derived.Test.YtmdobcffijnaoaaGreatDoorC1
import Derived.Test.YtmdobcffijnaoaaGreatDoorB5
import Derived.Test.YtmdobcffijnaoaaGreatDoorG7
import Derived.Test.YtmdobcffijnaoaaGreatDoorB3
namespace Go.Proofs.YtmdobcffijnaoaaGreatDoor
open Go.RowKit
set_option linter.unusedVariables false
set_option linter.unusedSimpArgs false
set_option maxRecDepth 100000
set_option maxHeartbeats 16000000
def sPart:ByteArray:=⟨#[112,97,114,116]⟩
def partOk (l:List Int) (e:Entry):Prop:=1≤e.count∧e.count≤16∧0≤e.first∧e.first<16∧0≤e.offset∧0≤e.length∧e.offset≤l.length∧e.length≤l.length-e.offset
instance (l:List Int) (e:Entry):Decidable (partOk l e):=by unfold partOk;infer_instance
def Part_R (l:List Int) (e:Entry):Except Err (List Coded×List Int) :=
 if partOk l e then
  match (aloneR ((l.drop e.offset.toNat).take e.length.toNat) 0 0 e.first e.count).1 with
  | .error er=>.error (inE sPart (aloneR ((l.drop e.offset.toNat).take e.length.toNat) 0 0 e.first e.count).2.2 er)
  | .ok x=>.ok x
 else .error ⟨[],3⟩
def PartP2 (w:World) (r:Except Err (List Coded×List Int)) (e:Ending) (w':World):Prop :=
 Only [] w w'∧match r with
  | .ok x=>∃ cv fv,e=.returned (.tuple #[cv,fv,.nilIface])∧CodedsAt w.heap.size w'.heap.size w' cv x.1∧Ints .i64 w.heap.size w'.heap.size w' fv x.2
  | .error er=>∃ ev,e=.returned (.tuple #[.slice none 0 0,.slice none 0 0,ev])∧ErrV w.heap.size w'.heap.size w' ev er
/-- a part, where the bytes are some and the part begins within them -/
theorem Part_ok {lo hi:Nat} {b off cap:Nat} {l:List Int} {w:World} (f c:Int) (O N:Nat) (h:Ints .u8 lo hi w (.slice (some ⟨b,off,none⟩) l.length cap) l) (hh:hi≤w.heap.size) (hok:partOk l ⟨f,c,O,N⟩) (hl:l.length≤1000000000000) (hcap:O<cap) (hlc:l.length≤cap) (hcm:cap≤9223372036854775807) :
  Calls Tryz.prog 11 #[.slice (some ⟨b,off,none⟩) l.length cap,.agg #[.int .i64 f,.int .i64 c,.int .i64 O,.int .i64 N]] w (PartP2 w (Part_R l ⟨f,c,O,N⟩)):=by
 have hfin:Part_R l ⟨f,c,O,N⟩=(match (aloneR ((l.drop O).take N) 0 0 f c).1 with
  | .error er=>.error (inE sPart (aloneR ((l.drop O).take N) 0 0 f c).2.2 er)
  | .ok x=>.ok x):=by unfold Part_R;rw [if_pos hok];simp only [Int.toNat_natCast]
 obtain ⟨k1,k2,k3,k4,k5,k6,k7,k8⟩:=hok
 simp only at k1 k2 k3 k4 k5 k6 k7 k8
 have hsub:=h.sub (i:=O) (j:=O+N) (by omega) (by omega) (cap-O) (by omega) (by omega)
 rw [show O+N-O=N by omega,show (l.take (O+N)).drop O=(l.drop O).take N by rw [List.drop_take];congr 1;omega] at hsub
 have hO:Only [] w ((w.alloc (.cells #[.int .i64 f,.int .i64 c,.int .i64 O,.int .i64 N] 46)).alloc (.cells #[.slice (some ⟨b,off+O,none⟩) N (cap-O),.int .i64 0,.int .i64 0] 79)):=(Only.new _ _).q (Only.new _ _)
 have hr:Rd (w.heap.size+1) (.slice (some ⟨b,off+O,none⟩) N (cap-O)) ((w.alloc (.cells #[.int .i64 f,.int .i64 c,.int .i64 O,.int .i64 N] 46)).alloc (.cells #[.slice (some ⟨b,off+O,none⟩) N (cap-O),.int .i64 0,.int .i64 0] 79)) 0 0:=heap_alloc_new' (by simp)
 have H:=lh (ralone_any f c (O:Int) (N:Int) hr (hsub.quiet hO) (by omega) (Nat.zero_le _) (Nat.le_refl _) (by rw [List.length_take];omega))
 have HO:=lh hO
 have Hfin:=lh hfin
 have h1:¬ c<1:=by omega
 have h2:¬ 16<c:=by omega
 have h3:¬ f<0:=by omega
 have h4:¬ 16≤f:=by omega
 have h5:¬ (O:Int)<0:=by omega
 have h6:¬ (N:Int)<0:=by omega
 have h7:¬ (l.length:Int)<(O:Int):=by omega
 have h8:¬ (l.length:Int)-(O:Int)<(N:Int):=by omega
 have hll:(l.length:Int)≤1000000000000:=by omega
 have hcz:¬ cap-O=0:=by omega
 have hcc:(O:Int)+(N:Int)≤(cap:Int):=by omega
 have hON:(O:Int)≤(O:Int)+(N:Int):=by omega
 have hOc:O<cap:=hcap
 have htn:((O:Int)+(N:Int)).toNat=O+N:=by omega
 have htm:O+N-O=N:=by omega
 clear hfin hO hr h hsub k1 k2 k3 k4 k5 k6 k7 k8
 generalize hal:aloneR ((l.drop O).take N) 0 0 f c=A at *
 obtain ⟨a,p,m⟩:=A
 simp only at Hfin
 clear hal
 cases a with
 | error er =>
  simp only at Hfin
  go_enter Tryz.func11,Tryz.ntmps11
  go_wp2_with (first
   | (go_at_call 25;refine H.out.mono ?_;rintro e w2 hP;unfold RFramesP at hP;simp only at hP;obtain ⟨hq2,hr2,ev,rfl,hev⟩:=hP;obtain ⟨et,eu,rfl⟩:=id hev.held;have c2:=hr2.c2;have HEv:=lh hev;have Hq2:=lh hq2;clear hev hq2 hr2)
   | (go_at_call 26;refine (in_any _ _ HEv.out (Nat.le_refl _) (by have:=Hq2.out.size;simp at this ⊢;omega)).mono ?_;rintro e w3 ⟨ev3,rfl,hev3,hq3⟩)
   | fail)
  refine bodyPost_ret (v:=.tuple #[.slice none 0 0,.slice none 0 0,ev3]) (by simp [results,Tryz.results11,go_sem]) rfl ?_
  unfold PartP2
  rw [Hfin.out]
  have hO2:Only [] w w2:=HO.out.trans Hq2.out (by simp) (by simp)
  exact ⟨hO2.q hq3,_,rfl,hev3.mono (by simp;omega) (Nat.le_refl _)⟩
 | ok x =>
  obtain ⟨cs,fs⟩:=x
  simp only at Hfin
  go_enter Tryz.func11,Tryz.ntmps11
  go_wp2_with (first
   | (go_at_call 25;refine H.out.mono ?_;rintro e w2 hP;unfold RFramesP at hP;simp only at hP;obtain ⟨hq2,hr2,cv,fv,rfl,hoc,hof⟩:=hP;have HOC:=lh hoc;have HOF:=lh hof;have Hq2:=lh hq2;clear hoc hof hq2 hr2)
   | fail)
  refine bodyPost_ret (v:=.tuple #[cv,fv,.nilIface]) (by simp [results,Tryz.results11,go_sem]) rfl ?_
  unfold PartP2
  rw [Hfin.out]
  have hO2:Only [] w w2:=HO.out.trans Hq2.out (by simp) (by simp)
  exact ⟨hO2,_,_,rfl,HOC.out.codeds.mono (by simp;omega) (Nat.le_refl _),HOF.out.ints.mono (by simp;omega) (Nat.le_refl _)⟩
theorem partR_alone {l:List Int} (hl:∀ x∈l,InK .u8 x) {p n:Nat} {num first left behind:Int} {x:Entry×List Coded×List Int} (hp:p≤l.length) (hn:n≤p)
  (h:(partR l p n num first left behind).1=.ok x) (hf0:0≤first) (hf1:first<16) (hlb:left-behind≤16):Part_R l x.1=.ok (x.2.1,x.2.2):=by
 have hpo:=partR_ok hl (num:=num) (first:=first) (left:=left) (behind:=behind) hp hn
 obtain ⟨k1,k2,k3,k4,k5,k6,k7,k8⟩:=hpo.2.2.2 x h
 have hp2:=hpo.1
 have hp3:=hpo.2.1
 clear hpo
 unfold partR at h k8 hp2 hp3
 cases hnx:nextR l p 17 3 with
 | error e=>rw [hnx] at h;cases h
 | ok u =>
  obtain ⟨hpk,_,_⟩:=nextR_peek hnx
  have h1:=peekR_ok hpk hp hl
  rw [hnx] at h k8 hp2 hp3
  simp only at h k8 hp2 hp3
  split at h
  ·cases h
  ·rename_i hb
   rw [if_neg hb] at k8 hp2 hp3
   simp only at k8 hp2 hp3
   cases hf:(framesR l (u.data.getD 2 0).toNat 0 u.end_ (n+1)).1 with
   | error e=>rw [hf] at h;cases h
   | ok y =>
    have hpos:=framesR_pos hl (u.data.getD 2 0).toNat 0 u.end_ (n+1) (by omega) (by omega)
    have hd1:u.data.getD 1 0=first:=Decidable.not_not.1 fun h'=>hb (.inr (.inl h'))
    rw [hf] at h
    cases h
    simp only at k1 k2 k3 k5 k6 k7 k8 ⊢
    have hok:partOk l ⟨first,u.data.getD 2 0,p,((framesR l (u.data.getD 2 0).toNat 0 u.end_ (n+1)).2.1:Int)-p⟩ :=
     ⟨k2,by show u.data.getD 2 0≤16;omega,hf0,hf1,by show (0:Int)≤(p:Int);omega,by show (0:Int)≤_-_;omega,by show (p:Int)≤l.length;omega,by show _-_≤(l.length:Int)-p;omega⟩
    unfold Part_R
    rw [if_pos hok]
    simp only [Int.toNat_natCast]
    have hL:(((framesR l (u.data.getD 2 0).toNat 0 u.end_ (n+1)).2.1:Int)-p).toNat=(framesR l (u.data.getD 2 0).toNat 0 u.end_ (n+1)).2.1-p:=by omega
    rw [hL]
    have hcut:=nextR_cut (o:=p) (L:=(framesR l (u.data.getD 2 0).toNat 0 u.end_ (n+1)).2.1-p) hl hnx (Nat.le_refl _) hp (by omega)
    rw [Nat.sub_self] at hcut
    have hfr:=framesR_cut (o:=p) (L:=(framesR l (u.data.getD 2 0).toNat 0 u.end_ (n+1)).2.1-p) hl (u.data.getD 2 0).toNat 0 u.end_ (n+1) (0+1) (by omega) (by omega) (by omega) hf (by omega)
    have hend:endR ((l.drop p).take ((framesR l (u.data.getD 2 0).toNat 0 u.end_ (n+1)).2.1-p)) ((framesR l (u.data.getD 2 0).toNat 0 u.end_ (n+1)).2.1-p)=none:=if_neg (by rw [List.length_take,List.length_drop];omega)
    have hal:aloneR ((l.drop p).take ((framesR l (u.data.getD 2 0).toNat 0 u.end_ (n+1)).2.1-p)) 0 0 first (u.data.getD 2 0) =
      (.ok y,(framesR ((l.drop p).take ((framesR l (u.data.getD 2 0).toNat 0 u.end_ (n+1)).2.1-p)) (u.data.getD 2 0).toNat 0 (u.end_-p) (0+1)).2):=by
     unfold aloneR
     rw [hcut]
     simp only
     rw [if_neg (by rintro (h | h);exact h hd1;exact h rfl),hfr.1]
     simp only
     rw [hfr.2,hend]
    rw [hal]
/-- the entries' parts, each by itself, one behind the other -/
inductive Segs (l:List Int):List Entry→List Coded→List Int→Prop
 | nil:Segs l [] [] []
 | cons {e:Entry} {es:List Entry} {cs cs':List Coded} {fs fs':List Int}:Part_R l e=.ok (cs,fs)→(cs.length:Int)=e.count→fs.length=cs.length→Segs l es cs' fs'→Segs l (e :: es) (cs ++ cs') (fs ++ fs')
theorem partsR_segs {l:List Int} (hl:∀ x∈l,InK .u8 x) {F parts:Int} (hF:F≤16):∀ (c k a p n:Nat) {x:List Entry×List Coded×List Int},p≤l.length→n≤p→(k:Int)+c≤parts→(partsR l F parts c k a p n).1=.ok x→Segs l x.1 x.2.1 x.2.2
 | 0,k,a,p,n,x,hp,hn,hk,h=>by
  simp only [partsR] at h
  cases h
  exact .nil
 | c+1,k,a,p,n,x,hp,hn,hk,h=>by
  unfold partsR at h
  have hpo:=partR_ok hl (num:=(k:Int)) (first:=(a:Int)) (left:=F-a) (behind:=parts-1-k) hp hn
  cases hpr:(partR l p n k a (F-a) (parts-1-k)).1 with
  | error e=>rw [hpr] at h;cases h
  | ok y =>
   obtain ⟨h1,h2,h3,h4,h5,h6,h7,h8⟩:=hpo.2.2.2 y hpr
   have hpart:=partR_alone hl hp hn hpr (by omega) (by omega) (by omega)
   rw [hpr] at h
   simp only [consP] at h
   cases hps:(partsR l F parts c (k+1) (a+y.2.1.length) (partR l p n k a (F-a) (parts-1-k)).2.1 (partR l p n k a (F-a) (parts-1-k)).2.2).1 with
   | error e=>rw [hps] at h;cases h
   | ok z =>
    rw [hps] at h
    have ih:=partsR_segs hl hF c _ _ _ _ hpo.2.1 hpo.2.2.1 (by omega) hps
    cases h
    exact .cons hpart h6 (by omega) ih
theorem openR_segs {l:List Int} (hl:∀ x∈l,InK .u8 x) {x:WholeD} (h:openR l=.ok x):Segs l x.parts x.coded x.fills:=by
 unfold openR at h
 cases ha:(allR l).1 with
 | error e=>rw [ha] at h;cases h
 | ok y =>
  rw [ha] at h
  cases h
  unfold allR at ha
  have hp:=headR_pos hl (p:=0) (n:=0) (Nat.zero_le _) (Nat.le_refl _)
  cases hhd:(headR l 0 0).1 with
  | error e=>rw [hhd] at ha;cases ha
  | ok hd =>
   have hok:=hp.2.2.2 _ hhd
   rw [hhd] at ha
   simp only [bodyR] at ha
   cases hps:(partsR l hd.F hd.parts hd.parts.toNat 0 0 (headR l 0 0).2.1 (headR l 0 0).2.2).1 with
   | error e=>rw [hps] at ha;cases ha
   | ok z =>
    rw [hps] at ha
    obtain ⟨_,_,h3,h4,_⟩:=hok
    have hf:=partsR_segs hl h3 _ _ _ _ _ hp.2.1 hp.2.2.1 (by omega) hps
    have:=closeR_ok ha
    subst this
    exact hf
/-- frames that coded frames mean, one behind the other -/
def chainD (W H:Int):FrameD→List Coded→List FrameD→Prop
 | _,[],[]=>True
 | prev,c :: l,f :: fs=>frameD c prev W H=.ok f∧chainD W H f l fs
 | _,_,_=>False
theorem framesGo_chain {W H:Int}:∀ (l:List Coded) (i:Nat) (prev:FrameD) (acc:List FrameD) {all:List FrameD},framesGo W H l i prev acc=.ok all→∃ fs,all=acc ++ fs∧chainD W H prev l fs
 | [],i,prev,acc,all,h=>by
  rw [framesGo] at h
  cases h
  exact ⟨[],by simp,trivial⟩
 | c :: l,i,prev,acc,all,h=>by
  cases hf:frameD c prev W H with
  | error e=>rw [framesGo_bad hf] at h;cases h
  | ok f =>
   rw [framesGo_more hf] at h
   obtain ⟨fs,h1,h2⟩:=framesGo_chain l (i+1) f (acc ++ [f]) h
   exact ⟨f :: fs,by rw [h1,List.append_assoc];rfl,hf,h2⟩
theorem chain_framesGo {W H:Int}:∀ (l:List Coded) (i:Nat) (prev:FrameD) (acc fs:List FrameD),chainD W H prev l fs→framesGo W H l i prev acc=.ok (acc ++ fs)
 | [],i,prev,acc,[],h=>by rw [framesGo,List.append_nil]
 | c :: l,i,prev,acc,f :: fs,h=>by
  obtain ⟨h1,h2⟩:=h
  rw [framesGo_more h1,chain_framesGo l (i+1) f (acc ++ [f]) fs h2,List.append_assoc]
  rfl
 | [],_,_,_,_ :: _,h=>h.elim
 | _ :: _,_,_,_,[],h=>h.elim
theorem framesD_chain {W H:Int} {l:List Coded} {all:List FrameD}:framesD l W H=.ok all↔l.length≤16∧chainD W H frame0 l all:=by
 unfold framesD
 by_cases h:16<l.length
 ·rw [if_pos h]
  exact ⟨fun e=>(by cases e),fun e=>absurd e.1 (by omega)⟩
 ·rw [if_neg h]
  constructor
  ·intro e
   obtain ⟨fs,h1,h2⟩:=framesGo_chain _ _ _ _ e
   rw [h1]
   exact ⟨by omega,h2⟩
  ·intro e
   exact chain_framesGo _ _ _ [] _ e.2
theorem chainD_len {W H:Int}:∀ {prev:FrameD} {l:List Coded} {fs:List FrameD},chainD W H prev l fs→fs.length=l.length
 | _,[],[],_=>rfl
 | _,c :: l,f :: fs,h=>by rw [List.length_cons,List.length_cons,chainD_len h.2]
 | _,[],_ :: _,h=>h.elim
 | _,_ :: _,[],h=>h.elim
theorem chainD_take {W H:Int}:∀ (k:Nat) {prev:FrameD} {l:List Coded} {fs:List FrameD},chainD W H prev l fs→chainD W H prev (l.take k) (fs.take k)
 | 0,_,l,fs,_=>by rw [List.take_zero,List.take_zero];trivial
 | k+1,_,[],[],_=>by trivial
 | k+1,_,c :: l,f :: fs,h=>by rw [List.take_succ_cons,List.take_succ_cons];exact ⟨h.1,chainD_take k h.2⟩
 | _+1,_,[],_ :: _,h=>h.elim
 | _+1,_,_ :: _,[],h=>h.elim
/-- the frame ahead of the k-th -/
def aheadD (prev:FrameD) (fs:List FrameD):Nat→FrameD
 | 0=>prev
 | k+1=>fs.getD k default
theorem chainD_drop {W H:Int}:∀ (k:Nat) {prev:FrameD} {l:List Coded} {fs:List FrameD},chainD W H prev l fs→k≤l.length→chainD W H (aheadD prev fs k) (l.drop k) (fs.drop k)
 | 0,_,l,fs,h,_=>h
 | k+1,prev,c :: l,f :: fs,h,hk=>by
  rw [List.drop_succ_cons,List.drop_succ_cons]
  have ih:=chainD_drop k h.2 (by simp at hk;omega)
  have e:aheadD f fs k=aheadD prev (f :: fs) (k+1):=by cases k <;> rfl
  rw [e] at ih
  exact ih
 | k+1,_,[],[],_,hk=>by simp at hk
 | _+1,_,[],_ :: _,h,_=>h.elim
 | _+1,_,_ :: _,[],h,_=>h.elim
theorem chainD_at {W H:Int} {prev:FrameD} {l:List Coded} {fs:List FrameD} (h:chainD W H prev l fs) {k:Nat} (hk:k<l.length):frameD (l.getD k default) (aheadD prev fs k) W H=.ok (fs.getD k default):=by
 have h1:=chainD_drop k h (by omega)
 have hl:k<fs.length:=by rw [chainD_len h];exact hk
 rw [List.drop_eq_getElem_cons hk,List.drop_eq_getElem_cons hl] at h1
 rw [List.getD_eq_getElem?_getD,List.getElem?_eq_getElem hk,List.getD_eq_getElem?_getD,List.getElem?_eq_getElem hl]
 exact h1.1
/-- a frame that is by itself hangs on nothing ahead -/
theorem laySq_alone (f p p':FrameD) (x y qp:Int) (s:SqD) (h:2≤s.kind):laySq f p x y qp s=laySq f p' x y qp s:=by
 have h0:¬ s.kind=0:=by omega
 have h1:¬ s.kind=1:=by omega
 unfold laySq
 simp only [if_neg h0,if_neg h1]
theorem squaresGo_alone (p p':FrameD) (qp:Int):∀ (k i:Nat) (f:FrameD) {m:Mod},ModOk m→squaresGo true p qp k i f m=squaresGo true p' qp k i f m
 | 0,i,f,m,h=>rfl
 | k+1,i,f,m,h=>by
  obtain ⟨A,a1,a2⟩:=squareD_adv true h
  unfold squaresGo
  cases hs:(squareD true m).1 with
  | error e=>rfl
  | ok s =>
   simp only
   rw [laySq_alone _ p p' _ _ _ s ((a1 s hs).2 rfl)]
   exact squaresGo_alone p p' qp k (i+1) _ A.ok
theorem frameD_alone {c:Coded} (hd:∀ x∈c.data,InK .u8 x) (hk:c.kind=1∨c.kind=4) (p p':FrameD) (W H:Int):frameD c p W H=frameD c p' W H:=by
 unfold frameD
 split
 ·rfl
 cases hr:readB c with
 | some k=>rfl
 | none =>
  have n1:¬ ((c.kind=2∨c.kind=3)∧matesB p W H=false):=by omega
  have n2:¬ ((c.kind=2∨c.kind=3)∧matesB p' W H=false):=by omega
  have n3:¬ c.kind=3:=by omega
  simp only [if_neg n1,if_neg n2,if_neg n3]
  split
  ·rfl
  ·rename_i h4
   have h1:c.kind=1:=by omega
   simp only [h1,decide_true]
   exact squaresGo_alone p p' _ _ _ _ (modNew_ok (fun z hz=>hd z (List.mem_of_mem_drop hz)))
theorem heads_at {W H:Int} {l:List Coded} {all:List FrameD} (h:framesD l W H=.ok all) (k:Nat):framesD (l.take k) W H=.ok (all.take k):=by
 obtain ⟨hl,hc⟩:=framesD_chain.1 h
 exact framesD_chain.2 ⟨by rw [List.length_take];omega,chainD_take k hc⟩
theorem tails_at {W H:Int} {l:List Coded} {all:List FrameD} (hd:∀ c∈l,∀ x∈c.data,InK .u8 x) (h:framesD l W H=.ok all) {k:Nat} (hi:k<l.length) (hk:(l.getD k default).kind=1∨(l.getD k default).kind=4) :
  framesD (l.drop k) W H=.ok (all.drop k)∧∀ p,frameD (l.getD k default) p W H=.ok (all.getD k default):=by
 obtain ⟨hl,hc⟩:=framesD_chain.1 h
 have hmem:l.getD k default∈l:=by rw [List.getD_eq_getElem?_getD,List.getElem?_eq_getElem hi];exact List.getElem_mem _
 have h1:=chainD_at hc hi
 have h2:∀ p,frameD (l.getD k default) p W H=.ok (all.getD k default):=fun p=>by rw [frameD_alone (hd _ hmem) hk p (aheadD frame0 all k)];exact h1
 refine ⟨framesD_chain.2 ⟨by rw [List.length_drop];omega,?_⟩,h2⟩
 have h3:=chainD_drop k hc (by omega)
 have hla:k<all.length:=by rw [chainD_len hc];exact hi
 rw [List.drop_eq_getElem_cons hi,List.drop_eq_getElem_cons hla] at h3 ⊢
 have e1:l[k]=l.getD k default:=by rw [List.getD_eq_getElem?_getD,List.getElem?_eq_getElem hi];rfl
 have e2:all[k]=all.getD k default:=by rw [List.getD_eq_getElem?_getD,List.getElem?_eq_getElem hla];rfl
 refine ⟨?_,h3.2⟩
 rw [e1,e2]
 exact h2 frame0
theorem all_len {W H:Int} {l:List Coded} {all:List FrameD} (h:framesD l W H=.ok all):all.length=l.length:=chainD_len (framesD_chain.1 h).2
/-- the entries' first frames follow one another -/
def Firsts:Int→List Entry→Prop
 | _,[]=>True
 | a,e :: es=>e.first=a∧1≤e.count∧Firsts (a+e.count) es
theorem framesR_first {l:List Int} {c p n:Nat} {x:List Coded×List Int} (h:(framesR l (c+1) 0 p n).1=.ok x):(x.1.getD 0 default).kind=1∨(x.1.getD 0 default).kind=4:=by
 unfold framesR at h
 cases hp:peekR l p with
 | error e=>rw [hp] at h;cases h
 | ok u =>
  rw [hp] at h
  dsimp only at h
  by_cases hk:u.kind<1∨4<u.kind∨((0:Nat)=0∧u.kind≠1∧u.kind≠4)
  ·rw [if_pos hk] at h;cases h
  ·rw [if_neg hk] at h
   cases hr:readB ⟨u.kind,u.data⟩ with
   | some k=>rw [hr] at h;cases h
   | none =>
    rw [hr] at h
    simp only [consF] at h
    cases hf:(framesR l c (0+1) (u.end_+zeros (l.drop u.end_)) (n+1+zeros (l.drop u.end_))).1 with
    | error e=>rw [hf] at h;cases h
    | ok y =>
     rw [hf] at h
     cases h
     show u.kind=1∨u.kind=4
     omega
theorem part_first {l:List Int} {e:Entry} {cs:List Coded} {fs:List Int} (h:Part_R l e=.ok (cs,fs)):(cs.getD 0 default).kind=1∨(cs.getD 0 default).kind=4:=by
 unfold Part_R at h
 by_cases ho:partOk l e
 ·rw [if_pos ho] at h
  obtain ⟨h1,-⟩:=ho
  obtain ⟨c,hc⟩:∃ c:Nat,e.count.toNat=c+1:=⟨e.count.toNat-1,by omega⟩
  unfold aloneR at h
  generalize (l.drop e.offset.toNat).take e.length.toNat=m at *
  rw [hc] at h
  cases hn:nextR m 0 17 3 with
  | error er=>rw [hn] at h;cases h
  | ok u =>
   rw [hn] at h
   simp only at h
   by_cases hd:u.data.getD 1 0≠e.first∨u.data.getD 2 0≠e.count
   ·rw [if_pos hd] at h;cases h
   ·rw [if_neg hd] at h
    cases hf:(framesR m (c+1) 0 u.end_ (0+1)).1 with
    | error er=>rw [hf] at h;cases h
    | ok x =>
     rw [hf] at h
     simp only at h
     cases he:endR m (framesR m (c+1) 0 u.end_ (0+1)).2.1 with
     | some er=>rw [he] at h;cases h
     | none =>
      rw [he] at h
      cases h
      exact framesR_first hf
 ·rw [if_neg ho] at h;cases h
theorem partsR_firsts {l:List Int} (hl:∀ x∈l,InK .u8 x) {F parts:Int}:∀ (c k a p n:Nat) {x:List Entry×List Coded×List Int},p≤l.length→n≤p→(partsR l F parts c k a p n).1=.ok x→Firsts a x.1
 | 0,k,a,p,n,x,hp,hn,h=>by
  simp only [partsR] at h
  cases h
  exact trivial
 | c+1,k,a,p,n,x,hp,hn,h=>by
  unfold partsR at h
  have hpo:=partR_ok hl (num:=(k:Int)) (first:=(a:Int)) (left:=F-a) (behind:=parts-1-k) hp hn
  cases hpr:(partR l p n k a (F-a) (parts-1-k)).1 with
  | error e=>rw [hpr] at h;cases h
  | ok y =>
   obtain ⟨h1,h2,h3,h4,h5,h6,h7,h8⟩:=hpo.2.2.2 y hpr
   rw [hpr] at h
   simp only [consP] at h
   cases hps:(partsR l F parts c (k+1) (a+y.2.1.length) (partR l p n k a (F-a) (parts-1-k)).2.1 (partR l p n k a (F-a) (parts-1-k)).2.2).1 with
   | error e=>rw [hps] at h;cases h
   | ok z =>
    rw [hps] at h
    have ih:=partsR_firsts hl c _ _ _ _ hpo.2.1 hpo.2.2.1 hps
    cases h
    refine ⟨h1,h2,?_⟩
    rw [Int.natCast_add,h6] at ih
    exact ih
theorem openR_firsts {l:List Int} (hl:∀ x∈l,InK .u8 x) {x:WholeD} (h:openR l=.ok x):Firsts 0 x.parts:=by
 unfold openR at h
 cases ha:(allR l).1 with
 | error e=>rw [ha] at h;cases h
 | ok y =>
  rw [ha] at h
  cases h
  unfold allR at ha
  have hp:=headR_pos hl (p:=0) (n:=0) (Nat.zero_le _) (Nat.le_refl _)
  cases hhd:(headR l 0 0).1 with
  | error e=>rw [hhd] at ha;cases ha
  | ok hd =>
   rw [hhd] at ha
   simp only [bodyR] at ha
   cases hps:(partsR l hd.F hd.parts hd.parts.toNat 0 0 (headR l 0 0).2.1 (headR l 0 0).2.2).1 with
   | error e=>rw [hps] at ha;cases ha
   | ok z =>
    rw [hps] at ha
    have hf:=partsR_firsts hl _ _ _ _ _ hp.2.1 hp.2.2.1 hps
    have:=closeR_ok ha
    subst this
    exact hf
theorem framesR_in {l:List Int} (hl:∀ x∈l,InK .u8 x):∀ (c i p n:Nat) {x:List Coded×List Int},(framesR l c i p n).1=.ok x→∀ q∈x.1,∀ y∈q.data,InK .u8 y
 | 0,i,p,n,x,h=>by
  simp only [framesR] at h
  cases h
  simp
 | c+1,i,p,n,x,h=>by
  unfold framesR at h
  cases hpk:peekR l p with
  | error e=>rw [hpk] at h;cases h
  | ok u =>
   have h1:=peekR_in hpk hl
   rw [hpk] at h
   simp only at h
   split at h
   ·cases h
   ·cases hrb:readB ⟨u.kind,u.data⟩ with
    | some k=>rw [hrb] at h;cases h
    | none =>
     rw [hrb] at h
     simp only [consF] at h
     cases hf:(framesR l c (i+1) (u.end_+zeros (l.drop u.end_)) (n+1+zeros (l.drop u.end_))).1 with
     | error e=>rw [hf] at h;cases h
     | ok y =>
      rw [hf] at h
      have ih:=framesR_in hl c _ _ _ hf
      cases h
      intro q hq
      rcases List.mem_cons.1 hq with rfl | hq
      ·exact h1
      ·exact ih q hq
theorem partR_in {l:List Int} (hl:∀ x∈l,InK .u8 x) {p n:Nat} {num first left behind:Int} {x:Entry×List Coded×List Int} (h:(partR l p n num first left behind).1=.ok x):∀ q∈x.2.1,∀ y∈q.data,InK .u8 y:=by
 unfold partR at h
 cases hnx:nextR l p 17 3 with
 | error e=>rw [hnx] at h;cases h
 | ok u =>
  rw [hnx] at h
  simp only at h
  split at h
  ·cases h
  ·cases hf:(framesR l (u.data.getD 2 0).toNat 0 u.end_ (n+1)).1 with
   | error e=>rw [hf] at h;cases h
   | ok y =>
    rw [hf] at h
    have:=framesR_in hl _ _ _ _ hf
    cases h
    exact this
theorem partsR_in {l:List Int} (hl:∀ x∈l,InK .u8 x) {F parts:Int}:∀ (c k a p n:Nat) {x:List Entry×List Coded×List Int},(partsR l F parts c k a p n).1=.ok x→∀ q∈x.2.1,∀ y∈q.data,InK .u8 y
 | 0,k,a,p,n,x,h=>by
  simp only [partsR] at h
  cases h
  simp
 | c+1,k,a,p,n,x,h=>by
  unfold partsR at h
  cases hpr:(partR l p n k a (F-a) (parts-1-k)).1 with
  | error e=>rw [hpr] at h;cases h
  | ok y =>
   have h1:=partR_in hl hpr
   rw [hpr] at h
   simp only [consP] at h
   cases hps:(partsR l F parts c (k+1) (a+y.2.1.length) (partR l p n k a (F-a) (parts-1-k)).2.1 (partR l p n k a (F-a) (parts-1-k)).2.2).1 with
   | error e=>rw [hps] at h;cases h
   | ok z =>
    rw [hps] at h
    have ih:=partsR_in hl c _ _ _ _ hps
    cases h
    intro q hq
    rcases List.mem_append.1 hq with hq | hq
    ·exact h1 q hq
    ·exact ih q hq
theorem openR_in {l:List Int} (hl:∀ x∈l,InK .u8 x) {x:WholeD} (h:openR l=.ok x):∀ q∈x.coded,∀ y∈q.data,InK .u8 y:=by
 unfold openR at h
 cases ha:(allR l).1 with
 | error e=>rw [ha] at h;cases h
 | ok y =>
  rw [ha] at h
  cases h
  unfold allR at ha
  cases hhd:(headR l 0 0).1 with
  | error e=>rw [hhd] at ha;cases ha
  | ok hd =>
   rw [hhd] at ha
   simp only [bodyR] at ha
   cases hps:(partsR l hd.F hd.parts hd.parts.toNat 0 0 (headR l 0 0).2.1 (headR l 0 0).2.2).1 with
   | error e=>rw [hps] at ha;cases ha
   | ok z =>
    rw [hps] at ha
    have hf:=partsR_in hl _ _ _ _ _ hps
    have:=closeR_ok ha
    subst this
    exact hf
/-- a part by itself: its frames are those of all -/
theorem part_frames {W H:Int} {cs:List Coded} {all:List FrameD} (hd:∀ c∈cs,∀ x∈c.data,InK .u8 x) (h:framesD cs W H=.ok all) {k:Nat} {c1 rest:List Coded} (e:cs.drop k=c1 ++ rest) (h0:0<c1.length) (hk:(c1.getD 0 default).kind=1∨(c1.getD 0 default).kind=4) :
  framesD c1 W H=.ok ((all.drop k).take c1.length)∧k+c1.length+rest.length=all.length:=by
 have hlen:(cs.drop k).length=c1.length+rest.length:=by rw [e,List.length_append]
 rw [List.length_drop] at hlen
 have hi:k<cs.length:=by omega
 have hk':(cs.getD k default).kind=1∨(cs.getD k default).kind=4:=by
  have h2:cs.getD k default=c1.getD 0 default:=by
   have h3:(cs.drop k).getD 0 default=(c1 ++ rest).getD 0 default:=by rw [e]
   rw [List.getD_eq_getElem?_getD,List.getElem?_drop,Nat.add_zero,← List.getD_eq_getElem?_getD] at h3
   rw [h3,List.getD_eq_getElem?_getD,List.getElem?_append_left h0,← List.getD_eq_getElem?_getD]
  rw [h2];exact hk
 have h1:=heads_at (tails_at hd h hi hk').1 c1.length
 rw [e,List.take_left] at h1
 exact ⟨h1,by have:=all_len h;omega⟩
end Go.Proofs.YtmdobcffijnaoaaGreatDoor
