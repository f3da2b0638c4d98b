/- Joined texts: MuxS, Loc, Ext, Made, MuxL, Mux. Conditions: each part names its own. -/
import Derived.Test.YtmdobcffijnaoaaGreatDoorB3
import Derived.Test.YtmdobcffijnaoaaGreatDoorB4
import Derived.Test.YtmdobcffijnaoaaGreatDoorG0
import Derived.Test.YtmdobcffijnaoaaGreatDoorG1
import Derived.Test.YtmdobcffijnaoaaGreatDoorK2
import Derived.Test.YtmdobcffijnaoaaGreatDoorB2
namespace Go.Proofs.YtmdobcffijnaoaaGreatDoor
open Go.RowKit
set_option linter.unusedVariables false
set_option linter.unusedSimpArgs false
set_option maxRecDepth 100000
set_option maxHeartbeats 16000000
/-- frames with what is filled behind each -/
def muxF (fl:List Int) (first:Nat):Nat→List Coded→List Int
 | _,[]=>[]
 | f,c :: cs=>unitB c.kind c.data ++ List.replicate (fl.getD (first+f) 0).toNat 0 ++ muxF fl first (f+1) cs
def chunkBytes (fl:List Int) (n:Nat) (k:Chunk):List Int:=unitB 17 [(n:Int) % 256,k.first % 256,k.count % 256] ++ muxF fl k.first.toNat 0 k.coded
/-- the parts' bytes and their entries -/
def muxP (fl:List Int):Nat→Nat→List Chunk→List Int×List Entry
 | _,_,[]=>([],[])
 | n,off,k :: l=>(chunkBytes fl n k ++ (muxP fl (n+1) (off+(chunkBytes fl n k).length) l).1,⟨k.first,k.count,off,(chunkBytes fl n k).length⟩ :: (muxP fl (n+1) (off+(chunkBytes fl n k).length) l).2)
def allSizes (l:List Chunk):List Int:=l.flatMap fun k=>sizesOf k.coded
def muxBytes (c:Cfg) (W H:Int) (l:List Chunk) (fl:List Int):List Int :=
 let hd:=unitB 16 (headerB W H (allSizes l).length l.length c)
 let r:=muxP fl 0 hd.length l
 let b:=hd ++ r.1
 let b2:=b ++ unitB 18 (indexB r.2)
 b2 ++ unitB 19 (tailB b2 b.length)
def muxR (c:Cfg) (W H:Int) (l:List Chunk):Except Err (List Int) :=
 if mayB c=false then .error ⟨[],11⟩
 else if newB W H 0=false then .error ⟨[],3⟩
 else match checkB l with
  | some k=>.error ⟨[],k⟩
  | none=>match fills c (allSizes l) with
   | .error e=>.error e
   | .ok fl=>.ok (muxBytes c W H l fl)
/-! ### what the chapter's examples fix -/
def cfgF:Cfg:=⟨0,3,0,0,4,8,64,64⟩
def chunksF:List Chunk:=[⟨0,0,1,[⟨4,[]⟩]⟩]
def testF:Bool :=
 match muxR cfgF 8 8 chunksF with
 | .ok b=>decide (b.length=83) && (match openR b with
  | .ok x=>decide (x.head.W=8) && decide (x.parts=[⟨0,1,30,19⟩]) && decide (takenR x.coded x.fills=[8])
  | .error _=>false)
 | .error _=>false
theorem testF_true:testF=true:=by decide +kernel
theorem first_mux:∃ b x,muxR cfgF 8 8 chunksF=.ok b∧b.length=83∧openR b=.ok x∧x.head.W=8∧x.parts=[⟨0,1,30,19⟩]∧takenR x.coded x.fills=[8]:=by
 have h:=testF_true
 unfold testF at h
 cases hm:muxR cfgF 8 8 chunksF with
 | error e=>rw [hm] at h;cases h
 | ok b =>
  rw [hm] at h
  simp only [Bool.and_eq_true,decide_eq_true_eq] at h
  obtain ⟨h1,h2⟩:=h
  cases ho:openR b with
  | error e=>rw [ho] at h2;cases h2
  | ok x =>
   rw [ho] at h2
   simp only [Bool.and_eq_true,decide_eq_true_eq] at h2
   exact ⟨b,x,rfl,h1,ho,h2.1.1,h2.1.2,h2.2⟩
def isErr (r:Except Err WholeD) (c:Int) (p:List (ByteArray×Int)):Bool :=
 match r with
 | .ok _=>false
 | .error e=>decide (e.code=c) && decide (e.path=p)
theorem first_nil:isErr (openR []) 1 [(sBox,0)]=true:=by decide +kernel
theorem first_zero:isErr (openR [0]) 2 [(sBox,0)]=true:=by decide +kernel
theorem isErr_eq {r:Except Err WholeD} {c:Int} {p:List (ByteArray×Int)} (h:isErr r c p=true):r=.error ⟨p,c⟩:=by
 unfold isErr at h
 cases r with
 | ok x=>cases h
 | error e =>
  obtain ⟨ep,ec⟩:=e
  simp only [Bool.and_eq_true,decide_eq_true_eq] at h
  rw [h.1,h.2]
theorem getD_take {d:List Int} {m i:Nat} (h:i<m):(d.take m).getD i 0=d.getD i 0:=by
 simp [List.getD_eq_getElem?_getD,List.getElem?_take,h]
theorem zeros_take:∀ (d:List Int) (m:Nat),zeros (d.take m)=min (zeros d) m
 | [],m=>by simp [zeros]
 | x :: d,0=>by simp [zeros]
 | x :: d,m+1=>by
  simp only [List.take_succ_cons,zeros]
  split
  ·rw [zeros_take d m];omega
  ·simp
theorem lenU_take {d:List Int} {m:Nat} (h:4≤m):lenU (d.take m)=lenU d:=by
 simp only [lenU,getD_take (show 1<m by omega),getD_take (show 2<m by omega),getD_take (show 3<m by omega)]
theorem sumU_take {d:List Int} {m n:Nat} (h:8+n≤m):sumU (d.take m) n=sumU d n:=by
 simp only [sumU,getD_take (show 4+n<m by omega),getD_take (show 5+n<m by omega),getD_take (show 6+n<m by omega),getD_take (show 7+n<m by omega)]
theorem nextD_take {d:List Int} {p p' m:Nat} {u:UnitD} (hr:∀ x∈d,InK .u8 x) (h:nextD d p=.ok u) (hm:u.end_≤p+m):nextD (d.take m) p'=.ok ⟨u.kind,u.data,p',p'+(u.end_-p)⟩:=by
 have hnn:=lenU_nn d hr
 unfold nextD at h
 split at h
 ·rename_i h0
  cases h
  have hm1:0<m:=by simp only at hm;omega
  unfold nextD
  rw [if_pos (by rw [getD_take hm1];exact h0)]
  simp
 rename_i h0
 split at h
 ·cases h
 rename_i h4
 split at h
 ·cases h
 rename_i h5
 split at h
 ·cases h
 rename_i h8
 split at h
 ·cases h
 rename_i hc
 cases h
 simp only at hm ⊢
 have hm8:8+(lenU d).toNat≤m:=by omega
 have hc':(crc (d.take (4+(lenU d).toNat)):Int)=sumU d (lenU d).toNat:=Decidable.not_not.1 hc
 unfold nextD
 rw [getD_take (by omega),if_neg h0,if_neg (by rw [List.length_take];omega),lenU_take (by omega),if_neg h5,if_neg (by rw [List.length_take];omega)]
 rw [List.take_take,show min (4+(lenU d).toNat) m=4+(lenU d).toNat by omega,sumU_take (by omega),if_neg (by rw [hc'];simp)]
 congr 2
 ·rw [List.drop_take,List.take_take];congr 1;omega
 ·omega
theorem peekR_cut {l:List Int} {o L p:Nat} {u:UnitD} (hr:∀ x∈l,InK .u8 x) (h:peekR l p=.ok u) (ho:o≤p) (hp:p≤l.length) (hm:u.end_≤o+L):peekR ((l.drop o).take L) (p-o)=.ok ⟨u.kind,u.data,p-o,u.end_-o⟩:=by
 have h1:=peekR_ok h hp hr
 unfold peekR at h
 split at h
 ·cases h
 have hd:(((l.drop o).take L).drop (p-o))=(l.drop p).take (L-(p-o)):=by
  rw [List.drop_take,List.drop_drop,show o+(p-o)=p by omega]
 unfold peekR
 rw [if_neg (by rw [List.length_take,List.length_drop];omega),hd,nextD_take (p':=p-o) (fun x hx=>hr x (List.mem_of_mem_drop hx)) h (by omega)]
 congr 2
 omega
theorem nextR_cut {l:List Int} {o L p:Nat} {k n:Int} {u:UnitD} (hr:∀ x∈l,InK .u8 x) (h:nextR l p k n=.ok u) (ho:o≤p) (hp:p≤l.length) (hm:u.end_≤o+L):nextR ((l.drop o).take L) (p-o) k n=.ok ⟨u.kind,u.data,p-o,u.end_-o⟩:=by
 obtain ⟨h1,h2,h3⟩:=nextR_peek h
 unfold nextR
 rw [peekR_cut hr h1 ho hp hm]
 simp [h2,h3]
theorem framesR_cut {l:List Int} {o L:Nat} (hr:∀ x∈l,InK .u8 x):∀ (c i p n n':Nat) {x:List Coded×List Int},o≤p→p≤l.length→n≤p→(framesR l c i p n).1=.ok x→(framesR l c i p n).2.1≤o+L →
  (framesR ((l.drop o).take L) c i (p-o) n').1=.ok x∧(framesR ((l.drop o).take L) c i (p-o) n').2.1=(framesR l c i p n).2.1-o
 | 0,i,p,n,n',x,ho,hp,hn,h,hL=>by
  simp only [framesR] at h ⊢
  exact ⟨h,trivial⟩
 | c+1,i,p,n,n',x,ho,hp,hn,h,hL=>by
  unfold framesR at h hL
  cases hpk:peekR l p with
  | error e=>rw [hpk] at h;cases h
  | ok u =>
   have h1:=peekR_ok hpk hp hr
   have hz:=zeros_le (l.drop u.end_)
   rw [List.length_drop] at hz
   have hpos:=framesR_pos hr c (i+1) (u.end_+zeros (l.drop u.end_)) (n+1+zeros (l.drop u.end_)) (by omega) (by omega)
   rw [hpk] at h hL
   simp only at h hL
   split at h
   ·cases h
   ·rename_i hb
    rw [if_neg hb] at hL
    cases hrb:readB ⟨u.kind,u.data⟩ with
    | some k=>rw [hrb] at h;cases h
    | none =>
     rw [hrb] at h hL
     simp only [consF] at h hL
     cases hf:(framesR l c (i+1) (u.end_+zeros (l.drop u.end_)) (n+1+zeros (l.drop u.end_))).1 with
     | error e=>rw [hf] at h;cases h
     | ok y =>
      rw [hf] at h
      have hzc:zeros (((l.drop o).take L).drop (u.end_-o))=zeros (l.drop u.end_):=by
       rw [List.drop_take,List.drop_drop,show o+(u.end_-o)=u.end_ by omega,zeros_take]
       omega
      have ih:=framesR_cut hr c (i+1) (u.end_+zeros (l.drop u.end_)) (n+1+zeros (l.drop u.end_)) (n'+1+zeros (l.drop u.end_)) (by omega) (by omega) (by omega) hf hL
      unfold framesR
      rw [peekR_cut (L:=L) hr hpk ho hp (by omega)]
      simp only
      rw [if_neg hb,hrb]
      simp only [consF]
      rw [hzc,show u.end_-o+zeros (l.drop u.end_)=u.end_+zeros (l.drop u.end_)-o by omega,ih.1]
      cases h
      refine ⟨rfl,?_⟩
      simp only [hpk,if_neg hb,hrb,consF]
      exact ih.2
theorem tailB_length (l:List Int) (n:Int):(tailB l n).length=8:=by simp [tailB,be_length]
theorem readB_none {c:Coded} (h:readB c=none):1≤c.kind∧c.kind≤4∧c.data.length≤65536:=by
 unfold readB at h
 split at h
 ·cases h
 rename_i hk
 have hk':kindB c.kind=true:=by simpa using hk
 simp only [kindB,decide_eq_true_eq] at hk'
 split at h
 ·split at h
  ·cases h
  ·omega
 split at h
 ·cases h
 split at h
 ·cases h
 split at h
 ·cases h
 omega
theorem chunkB_parts {k:Chunk} (h:chunkB k=true):(0≤k.first∧k.first<16∧1≤k.count∧k.count≤16∧(k.coded.length:Int)=k.count)∧firstB (k.coded.getD 0 default).kind=true∧∀ c∈k.coded,readB c=none:=by
 simp only [chunkB,Bool.and_eq_true,headB,decide_eq_true_eq,List.all_eq_true,Option.isNone_iff_eq_none] at h
 exact ⟨by omega,h.1.2,h.2⟩
theorem flat_le:∀ {ks:List Chunk},(∀ k∈ks,chunkB k=true)→ks.length≤(ks.flatMap Chunk.coded).length
 | [],_=>by simp
 | k :: ks,h=>by
  have h1:=flat_le (ks:=ks) (fun k' hk'=>h k' (by simp [hk']))
  have h2:=(chunkB_parts (h k (by simp))).1
  simp only [List.flatMap_cons,List.length_append,List.length_cons]
  omega
theorem headerB_length (W H F np:Int) (c:Cfg):(headerB W H F np c).length=22:=by simp [headerB,be_length]
theorem muxP_length {fl:List Int}:∀ (ks:List Chunk) (num off:Nat),(muxP fl num off ks).2.length=ks.length
 | [],num,off=>rfl
 | k :: ks,num,off=>by rw [muxP];simp [muxP_length ks]
theorem allSizes_length (l:List Chunk):(allSizes l).length=(l.flatMap Chunk.coded).length:=by
 induction l with
 | nil=>rfl
 | cons k l ih=>simp only [allSizes,List.flatMap_cons,List.length_append,sizesOf,List.length_map] at ih ⊢;omega
theorem checkB_none {l:List Chunk} (h:checkB l=none):l≠[]∧(∀ k∈l,chunkB k=true)∧runsOn 0 0 l=true:=by
 unfold checkB at h
 split at h
 ·cases h
 rename_i hb
 have h1:l≠[]:=fun e=>hb (.inl e)
 have h2:badB l=false:=by simpa using fun e=>hb (.inr e)
 refine ⟨h1,fun k hk=>?_,?_⟩
 ·have:=List.any_eq_false.1 h2 k hk
  simpa using this
 ·cases hr:runsOn 0 0 l with
  | true=>rfl
  | false=>rw [hr] at h;cases h
theorem runsOn_le:∀ {l:List Chunk} {i a:Int},(∀ k∈l,chunkB k=true)→runsOn i a l=true→a≤16→a+(l.flatMap Chunk.coded).length≤16
 | [],i,a,_,_,ha=>by simpa using ha
 | k :: l,i,a,hc,h,ha=>by
  have hk:=(chunkB_parts (hc k (by simp))).1
  rw [runsOn] at h
  split at h
  ·cases h
  rename_i hb
  have:=runsOn_le (fun k' hk'=>hc k' (by simp [hk'])) h (by omega)
  simp only [List.flatMap_cons,List.length_append]
  push_cast
  omega
theorem fillsGo_ok {rate room:Int}:∀ (l:List Int) (i:Nat) (has:Int) {fl:List Int},fillsGo rate room i has l=.ok fl→fl.length=l.length∧∀ z∈fl,0≤z
 | [],i,has,fl,h=>by simp only [fillsGo] at h;cases h;simp
 | n :: l,i,has,fl,h=>by
  rw [fillsGo] at h
  split at h
  ·cases h
  cases hf:fillsGo rate room (i+1) (min (has+(rate-n)) room) l with
  | error e=>rw [hf] at h;cases h
  | ok r =>
   rw [hf] at h
   cases h
   obtain ⟨h1,h2⟩:=fillsGo_ok l _ _ hf
   refine ⟨by simp [h1],fun z hz=>?_⟩
   rcases List.mem_cons.1 hz with rfl | hz
   ·omega
   ·exact h2 z hz
theorem fills_ok {c:Cfg} {l fl:List Int} (h:fills c l=.ok fl):vcheck c l=none∧fillsGo c.rate c.room 0 c.fill l=.ok fl:=by
 unfold fills at h
 cases hv:vcheck c l with
 | some k=>rw [hv] at h;cases h
 | none=>rw [hv] at h;exact ⟨rfl,h⟩
theorem allSizes_eq (l:List Chunk):allSizes l=(l.flatMap Chunk.coded).map costOf:=by
 induction l with
 | nil=>rfl
 | cons k l ih=>simp only [allSizes,List.flatMap_cons,sizesOf,List.map_append] at ih ⊢;rw [ih]
theorem muxF_snoc {fl:List Int} {first:Nat}:∀ (cs:List Coded) (f:Nat) (c:Coded),muxF fl first f (cs ++ [c])=muxF fl first f cs ++ (unitB c.kind c.data ++ List.replicate (fl.getD (first+(f+cs.length)) 0).toNat 0)
 | [],f,c=>by simp [muxF]
 | d :: cs,f,c=>by
  rw [List.cons_append,muxF,muxF,muxF_snoc cs (f+1) c,List.length_cons,show f+1+cs.length=f+(cs.length+1) by omega]
  simp only [List.append_assoc]
theorem muxP_snoc {fl:List Int}:∀ (l:List Chunk) (n off:Nat) (k:Chunk),muxP fl n off (l ++ [k])=((muxP fl n off l).1 ++ chunkBytes fl (n+l.length) k,(muxP fl n off l).2 ++ [⟨k.first,k.count,((off+(muxP fl n off l).1.length:Nat):Int),(chunkBytes fl (n+l.length) k).length⟩])
 | [],n,off,k=>by simp [muxP]
 | d :: l,n,off,k=>by
  rw [List.cons_append,muxP,muxP,muxP_snoc l (n+1) _ k,List.length_cons,show n+1+l.length=n+(l.length+1) by omega]
  simp only [List.append_assoc,List.cons_append,List.length_append,Nat.add_assoc]
def ents0 (l:List Chunk):List Entry:=l.map fun k=>⟨k.first,k.count,0,0⟩
theorem ents0_length (l:List Chunk):(ents0 l).length=l.length:=by simp [ents0]
theorem chunk_take {l:List Chunk} {k:Nat} (h:k<l.length):l.take (k+1)=l.take k ++ [l.getD k default]:=by
 rw [List.take_succ_eq_append_getElem h];simp [h]
theorem chunk_drop {l:List Chunk} {k:Nat} (h:k<l.length):l.drop k=l.getD k default :: l.drop (k+1):=by
 rw [List.drop_eq_getElem_cons h];simp [h]
theorem coded_take {l:List Coded} {k:Nat} (h:k<l.length):l.take (k+1)=l.take k ++ [l.getD k default]:=by
 rw [List.take_succ_eq_append_getElem h];simp [h]
theorem ents0_take {l:List Chunk} {k:Nat} (h:k<l.length):ents0 (l.take (k+1))=ents0 (l.take k) ++ [⟨(l.getD k default).first,(l.getD k default).count,0,0⟩]:=by
 rw [chunk_take h,ents0,List.map_append];rfl
theorem allSizes_take {l:List Chunk} {k:Nat} (h:k<l.length):allSizes (l.take (k+1))=allSizes (l.take k) ++ sizesOf (l.getD k default).coded:=by
 rw [chunk_take h,allSizes,List.flatMap_append];simp [allSizes]
/-- the entries when k parts are made -/
def entsAt (fl:List Int) (off:Nat) (l:List Chunk) (k:Nat):List Entry:=(muxP fl 0 off (l.take k)).2 ++ ents0 (l.drop k)
theorem entsAt_length {fl:List Int} {off:Nat} {l:List Chunk} {k:Nat} (h:k≤l.length):(entsAt fl off l k).length=l.length:=by
 rw [entsAt,List.length_append,muxP_length,ents0_length,List.length_take,List.length_drop];omega
theorem entsAt_zero {fl:List Int} {off:Nat} {l:List Chunk}:entsAt fl off l 0=ents0 l:=by simp [entsAt,muxP]
theorem entsAt_end {fl:List Int} {off:Nat} {l:List Chunk}:entsAt fl off l l.length=(muxP fl 0 off l).2:=by simp [entsAt,ents0]
theorem entsAt_getD {fl:List Int} {off:Nat} {l:List Chunk} {k:Nat} (h:k<l.length):(entsAt fl off l k).getD k default=⟨(l.getD k default).first,(l.getD k default).count,0,0⟩:=by
 have hl:(muxP fl 0 off (l.take k)).2.length=k:=by rw [muxP_length,List.length_take];omega
 rw [entsAt,chunk_drop h,List.getD_eq_getElem?_getD,List.getElem?_append_right (by omega),hl,Nat.sub_self]
 rfl
theorem set_mid {α:Type} {D R:List α} {x y:α} {k:Nat} (h:D.length=k):(D ++ x :: R).set k y=D ++ y :: R:=by
 subst h
 rw [List.set_append_right _ _ (Nat.le_refl _),Nat.sub_self,List.set_cons_zero]
theorem entsAt_succ {fl:List Int} {off:Nat} {l:List Chunk} {k:Nat} (h:k<l.length) :
  entsAt fl off l (k+1)=(entsAt fl off l k).set k ⟨(l.getD k default).first,(l.getD k default).count,((off+(muxP fl 0 off (l.take k)).1.length:Nat):Int),(chunkBytes fl k (l.getD k default)).length⟩:=by
 have hl:(muxP fl 0 off (l.take k)).2.length=k:=by rw [muxP_length,List.length_take];omega
 have hk:(l.take k).length=k:=by rw [List.length_take];omega
 have e0:ents0 (l.getD k default :: l.drop (k+1))=⟨(l.getD k default).first,(l.getD k default).count,0,0⟩ :: ents0 (l.drop (k+1)):=rfl
 rw [entsAt,entsAt,chunk_drop h,e0,set_mid hl,chunk_take h,muxP_snoc,hk,Nat.zero_add]
 simp
theorem bytes_succ {fl:List Int} {off:Nat} {l:List Chunk} {k:Nat} (h:k<l.length):(muxP fl 0 off (l.take (k+1))).1=(muxP fl 0 off (l.take k)).1 ++ chunkBytes fl k (l.getD k default):=by
 have hk:(l.take k).length=k:=by rw [List.length_take];omega
 rw [chunk_take h,muxP_snoc,hk,Nat.zero_add]
/-! ### bounds -/
theorem fillsGo_le {rate room:Int} (h0:0≤rate):∀ (l:List Int) (i:Nat) (has:Int) {fl:List Int},has≤room→(∀ n∈l,0≤n)→fillsGo rate room i has l=.ok fl→∀ z∈fl,z≤rate
 | [],i,has,fl,_,_,h=>by simp only [fillsGo] at h;cases h;simp
 | n :: l,i,has,fl,g,hn,h=>by
  rw [fillsGo] at h
  split at h
  ·cases h
  have hn0:=hn n (by simp)
  cases hf:fillsGo rate room (i+1) (min (has+(rate-n)) room) l with
  | error e=>rw [hf] at h;cases h
  | ok r =>
   rw [hf] at h
   cases h
   intro z hz
   rcases List.mem_cons.1 hz with rfl | hz
   ·omega
   ·exact fillsGo_le h0 l _ _ (by omega) (fun x hx=>hn x (by simp [hx])) hf z hz
def FlOk (fl:List Int):Prop:=∀ z∈fl,0≤z∧z≤16384
theorem FlOk.at {fl:List Int} (h:FlOk fl) (i:Nat):0≤fl.getD i 0∧fl.getD i 0≤16384:=by
 by_cases hi:i<fl.length
 ·exact h _ (by simp [hi])
 ·rw [List.getD_eq_getElem?_getD,List.getElem?_eq_none (by omega)];simp
theorem fills_flok {c:Cfg} {l fl:List Int} (hm:mayB c=true) (hn:∀ n∈l,0≤n) (h:fills c l=.ok fl):fl.length=l.length∧FlOk fl:=by
 obtain ⟨_,hf⟩:=fills_ok h
 obtain ⟨q0,q1,q2,q3,q4,q5,q6,q7,q8,q9,q10,q11,q12,q13,q14,q15,q16,q17⟩:=may_bounds hm
 obtain ⟨h1,h2⟩:=fillsGo_ok _ _ _ hf
 have h3:=fillsGo_le (by omega) _ _ _ (by omega) hn hf
 exact ⟨h1,fun z hz=>⟨h2 z hz,by have:=h3 z hz;omega⟩⟩
theorem muxF_le {fl:List Int} (hf:FlOk fl) {first:Nat}:∀ (cs:List Coded) (f:Nat),(∀ c∈cs,c.data.length≤65536)→(muxF fl first f cs).length≤cs.length*90000
 | [],f,_=>by simp [muxF]
 | c :: cs,f,h=>by
  have h1:=muxF_le hf (first:=first) cs (f+1) (fun c' hc=>h c' (by simp [hc]))
  have h2:=h c (by simp)
  have h3:=hf.at (first+f)
  rw [muxF,List.length_append,List.length_append,List.length_replicate,unitB_length,List.length_cons]
  omega
theorem chunkBytes_le {fl:List Int} (hf:FlOk fl) {k:Chunk} (n:Nat) (hk:chunkB k=true):(chunkBytes fl n k).length≤1450000:=by
 obtain ⟨⟨_,_,_,_,hc⟩,_,hr⟩:=chunkB_parts hk
 have:=muxF_le hf (first:=k.first.toNat) k.coded 0 (fun c hc=>(readB_none (hr c hc)).2.2)
 rw [chunkBytes,List.length_append,unitB_length]
 simp only [List.length_cons,List.length_nil]
 omega
theorem muxP_le {fl:List Int} (hf:FlOk fl):∀ (l:List Chunk) (n off:Nat),(∀ k∈l,chunkB k=true)→(muxP fl n off l).1.length≤l.length*1450000
 | [],n,off,_=>by simp [muxP]
 | k :: l,n,off,h=>by
  have h1:=chunkBytes_le hf n (h k (by simp))
  have h2:=muxP_le hf l (n+1) (off+(chunkBytes fl n k).length) (fun k' hk=>h k' (by simp [hk]))
  rw [muxP,List.length_append,List.length_cons]
  omega
theorem runsOn_first:∀ {l:List Chunk} {i a:Int},(∀ k∈l,chunkB k=true)→runsOn i a l=true→∀ j,j<l.length→(l.getD j default).first=a+((l.take j).flatMap Chunk.coded).length∧((l.take j).flatMap Chunk.coded).length+(l.getD j default).coded.length≤(l.flatMap Chunk.coded).length
 | [],i,a,_,_,j,hj=>absurd hj (by simp)
 | k :: l,i,a,hc,h,j,hj=>by
  have hk:=(chunkB_parts (hc k (by simp))).1
  rw [runsOn] at h
  split at h
  ·cases h
  rename_i hb
  cases j with
  | zero =>
   simp only [List.take_zero,List.flatMap_nil,List.length_nil,List.getD_cons_zero,List.flatMap_cons,List.length_append]
   omega
  | succ j =>
   have:=runsOn_first (fun k' hk'=>hc k' (by simp [hk'])) h j (by simpa using hj)
   simp only [List.take_succ_cons,List.flatMap_cons,List.length_append,List.getD_cons_succ]
   omega
/-! ### entries stored in place -/
theorem OwnE.form {base:Nat} {w:World} {v:Value} {l:List Entry} (h:OwnE base w v l) (hl:0<l.length):∃ g cap,v=.slice (some ⟨g,0,none⟩) l.length cap∧base≤g∧g<w.heap.size:=by
 rcases h.2 with ⟨_,h0⟩ | ⟨g,cap,cur,rfl,hb,hg,_⟩
 ·omega
 ·exact ⟨g,cap,rfl,hb,(Array.getElem?_eq_some_iff.1 hg).1⟩
theorem Own.cell {k:IntKind} {e:TypeId} {base:Nat} {w:World} {g n cap:Nat} {l:List Int} (h:Own k e base w (.slice (some ⟨g,0,none⟩) n cap) l) {i:Nat} (hi:i<l.length):w.cell? ⟨g,i,none⟩=some (.int k (l.getD i 0)):=by
 have:=h.1.cells (g:=g) rfl i (.int k (l.getD i 0)) (by simp [hi])
 simpa [Addr.add_lit] using this
theorem From.mono {B B':Nat} {v:Value} (h:From B v) (hb:B'≤B):From B' v:=fun g hg=>Nat.le_trans hb (h g hg)
theorem OwnE.cell {base:Nat} {w:World} {g n cap:Nat} {l:List Entry} (h:OwnE base w (.slice (some ⟨g,0,none⟩) n cap) l) {i:Nat} (hi:i<l.length) {j:Nat} (hj:j<4):w.cell? ⟨g,i*4+j,none⟩=some (entryF l i j):=by
 have:=h.cells (g:=g) rfl (i*4+j) _ (flatE_at l i j hi hj)
 simpa [Addr.add_lit] using this
theorem OwnE.frozen {base:Nat} {w:World} {g n cap:Nat} {l:List Entry} (h:OwnE base w (.slice (some ⟨g,0,none⟩) n cap) l) (j:Nat):w.frozen? ⟨g,j,none⟩=false:=by
 rcases h.2 with ⟨h0,_⟩ | ⟨g',cap',cur,he,hb,hg,_⟩
 ·cases h0
 ·cases he
  exact frozen_of_row w g j _ _ hg
theorem OwnE.setAt {base:Nat} {w:World} {g n cap:Nat} {l l':List Entry} {i:Nat} {x:Value} (h:OwnE base w (.slice (some ⟨g,0,none⟩) n cap) l) (hl:l'.length=l.length) (hf:flatE l'=(flatE l).set i x) :
  OwnE base (w.setCell ⟨g,i,none⟩ x) (.slice (some ⟨g,0,none⟩) n cap) l':=by
 have h1:=h.1
 refine ⟨by rw [hf,List.length_set,hl];exact h1,?_⟩
 rcases h.2 with ⟨h0,_⟩ | ⟨g',cap',cur,he,hb,hg,hn,hm,hcs,ht⟩
 ·cases h0
 ·cases he
  refine .inr ⟨g,cap,_,by rw [hl],hb,heap_setCell_same w g i _ _ x hg,by rw [hl];exact hn,hm,by simpa using hcs,?_⟩
  rw [hl,hf,← ht,Array.toList_setIfInBounds,List.take_set]
theorem flatE_cons (e:Entry) (l:List Entry):flatE (e :: l)=.int .i64 e.first :: .int .i64 e.count :: .int .i64 e.offset :: .int .i64 e.length :: flatE l:=rfl
theorem flatE_set2 (x:Int):∀ (l:List Entry) (i:Nat),i<l.length→flatE (l.set i ⟨(l.getD i default).first,(l.getD i default).count,x,(l.getD i default).length⟩)=(flatE l).set (i*4+2) (.int .i64 x)
 | [],_,h=>absurd h (by simp)
 | e :: l,0,_=>rfl
 | e :: l,i+1,h=>by
  have ih:=flatE_set2 x l i (by simpa using h)
  rw [List.set_cons_succ,flatE_cons,flatE_cons,show (i+1)*4+2=(i*4+2)+4 by omega]
  simp only [List.set_cons_succ,List.getD_cons_succ,ih]
theorem flatE_set3 (x:Int):∀ (l:List Entry) (i:Nat),i<l.length→flatE (l.set i ⟨(l.getD i default).first,(l.getD i default).count,(l.getD i default).offset,x⟩)=(flatE l).set (i*4+3) (.int .i64 x)
 | [],_,h=>absurd h (by simp)
 | e :: l,0,_=>rfl
 | e :: l,i+1,h=>by
  have ih:=flatE_set3 x l i (by simpa using h)
  rw [List.set_cons_succ,flatE_cons,flatE_cons,show (i+1)*4+3=(i*4+3)+4 by omega]
  simp only [List.set_cons_succ,List.getD_cons_succ,ih]
def MuxP (w:World) (r:Except Err (List Int)) (e:Ending) (w':World):Prop :=
 Only [] w w'∧match r with
  | .ok b=>∃ v,e=.returned (.tuple #[v,.nilIface])∧Own .u8 5 w.heap.size w' v b
  | .error er=>∃ ev,e=.returned (.tuple #[.slice none 0 0,ev])∧ErrV w.heap.size w'.heap.size w' ev er
/-- a configuration that may not be, sides that may not be, chunks that none may be -/
theorem mux_bad {lo hi:Nat} (c:Cfg) (W H:Int) {v:Value} {l:List Chunk} {w:World} (h:ChunksAt lo hi w v l) (hl:l.length≤1000000) (hbad:mayB c=false∨newB W H 0=false∨∃ k,checkB l=some k) :
  Calls Tryz.prog 13 #[c.v,.int .i64 W,.int .i64 H,v] w (MuxP w (muxR c W H l)):=by
 have HC:=lh (fun w' (o:Only [] w w')=>bcheck_any (h.quiet o) hl)
 obtain ⟨a,cap,rfl,_⟩:=h.open
 obtain ⟨a0,a1,a2,a3,a4,a5,a6,a7⟩:=c
 have HV:=lh (fun w'=>check_any ⟨a0,a1,a2,a3,a4,a5,a6,a7⟩ w')
 have hO:Only [] w (w.alloc (.cells #[.int .i64 a0,.int .i64 a1,.int .i64 a2,.int .i64 a3,.int .i64 a4,.int .i64 a5,.int .i64 a6,.int .i64 a7] 39)):=Only.new _ _
 have HO:=lh hO
 clear h hO
 unfold Cfg.v at HV ⊢
 by_cases hm:mayB ⟨a0,a1,a2,a3,a4,a5,a6,a7⟩=true
 ·rw [if_pos hm] at HV
  simp only [codeV] at HV
  by_cases hn:newB W H 0=true
  ·obtain ⟨k,hk⟩:∃ k,checkB l=some k:=by
    rcases hbad with h | h | h
    ·rw [hm] at h;cases h
    ·rw [hn] at h;cases h
    ·exact h
   have hfin:muxR ⟨a0,a1,a2,a3,a4,a5,a6,a7⟩ W H l=.error ⟨[],k⟩:=by unfold muxR;rw [if_neg (by simp [hm]),if_neg (by simp [hn]),hk]
   have Hfin:=lh hfin
   have Hn:=lh hn
   have Hk:=lh hk
   clear hfin hn hk hm hbad
   go_enter Tryz.func13,Tryz.ntmps13
   go_wp2_with (first
    | (go_at_call 28;refine (HV.out _).mono ?_;rintro e w1 ⟨rfl,hq1⟩;have Hq1:=lh hq1;clear hq1)
    | (go_at_call 29;refine (pnew_any _ _ _ _).mono ?_;rintro e w2 hP;unfold NewP at hP;rw [Hn.out] at hP;obtain ⟨hq2,fa,fn,fc,rfl⟩:=hP;have Hq2:=lh hq2;clear hq2)
    | (go_at_call 30;refine (HC.out _ (HO.out.q (Hq1.out.q (Hq2.out.q (Only.new _ _))))).mono ?_;rintro e w3 ⟨⟨u,rfl,hu⟩,hq3⟩;rw [Hk.out] at hu;have hu2:u=.iface 29 (.int .i64 k):=hu;subst hu2;have Hq3:=lh hq3;clear hu hq3)
    | fail)
   go_ret2
   rw [Hfin.out]
   exact ⟨HO.out.q (Hq1.out.q (Hq2.out.q ((Only.new _ _).q Hq3.out))),_,rfl,rfl⟩
  ·have hn':newB W H 0=false:=by simpa using hn
   have hfin:muxR ⟨a0,a1,a2,a3,a4,a5,a6,a7⟩ W H l=.error ⟨[],3⟩:=by unfold muxR;rw [if_neg (by simp [hm]),if_pos hn']
   have Hfin:=lh hfin
   have Hn:=lh hn'
   clear hfin hn hn' hm hbad
   go_enter Tryz.func13,Tryz.ntmps13
   go_wp2_with (first
    | (go_at_call 28;refine (HV.out _).mono ?_;rintro e w1 ⟨rfl,hq1⟩;have Hq1:=lh hq1;clear hq1)
    | (go_at_call 29;refine (pnew_any _ _ _ _).mono ?_;rintro e w2 hP;unfold NewP at hP;rw [Hn.out] at hP;obtain ⟨hq2,rfl⟩:=hP;have Hq2:=lh hq2;clear hq2)
    | fail)
   go_ret2
   rw [Hfin.out]
   exact ⟨HO.out.q (Hq1.out.q (Hq2.out.q (Only.new _ _))),_,rfl,rfl⟩
 ·have hm':mayB ⟨a0,a1,a2,a3,a4,a5,a6,a7⟩=false:=by simpa using hm
  rw [if_neg hm] at HV
  simp only [codeV] at HV
  have hfin:muxR ⟨a0,a1,a2,a3,a4,a5,a6,a7⟩ W H l=.error ⟨[],11⟩:=if_pos hm'
  have Hfin:=lh hfin
  clear hfin hm hm' hbad
  go_enter Tryz.func13,Tryz.ntmps13
  go_wp2_with (first
   | (go_at_call 28;refine (HV.out _).mono ?_;rintro e w1 ⟨rfl,hq1⟩;have Hq1:=lh hq1;clear hq1)
   | fail)
  go_ret2
  rw [Hfin.out]
  exact ⟨HO.out.q Hq1.out,_,rfl,rfl⟩
end Go.Proofs.YtmdobcffijnaoaaGreatDoor
