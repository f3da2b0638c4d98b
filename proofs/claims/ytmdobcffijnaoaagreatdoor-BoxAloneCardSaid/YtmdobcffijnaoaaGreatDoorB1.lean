/- Joined texts: RdE, RdA, RdT. Conditions: each part names its own. -/
import Derived.Test.YtmdobcffijnaoaaGreatDoorG1
namespace Go.Proofs.YtmdobcffijnaoaaGreatDoor
open Go.RowKit
set_option linter.unusedVariables false
set_option linter.unusedSimpArgs false
set_option maxRecDepth 100000
set_option maxHeartbeats 16000000
def exactR (l:List Int) (p n:Nat) (kind:Int) (data:List Int):Option Err×Nat×Nat :=
 match nextR l p kind data.length with
 | .error e=>(some e,p,n)
 | .ok u=>if u.data=data then (none,u.end_,n+1) else (some ⟨[],2⟩,p,n)
theorem nextR_peek {l:List Int} {p:Nat} {k m:Int} {u:UnitD} (h:nextR l p k m=.ok u):peekR l p=.ok u∧u.kind=k∧(u.data.length:Int)=m:=by
 unfold nextR at h
 split at h
 ·cases h
 ·rename_i v hv
  split at h
  ·cases h
  ·rename_i hk
   cases h
   exact ⟨hv,Decidable.not_not.1 fun h=>hk (.inl h),Decidable.not_not.1 fun h=>hk (.inr h)⟩
theorem rexact_any {lo hi lo' hi' R p n:Nat} {bv dv:Value} {l data:List Int} {w:World} (kind:Int) (hr:Rd R bv w p n) (h:Ints .u8 lo hi w bv l) (hR:hi≤R) (hp:p≤l.length) (hn:n≤p) (hl:l.length≤1000000000000) (hd:Ints .u8 lo' hi' w dv data) :
  Calls Tryz.prog 67 #[.pointer (some ⟨R,0,none⟩),.int .i64 kind,dv] w fun e w'=>∃ ev,e=.returned ev∧OErrV w.heap.size w'.heap.size w' ev (exactR l p n kind data).1∧Rd R bv w' (exactR l p n kind data).2.1 (exactR l p n kind data).2.2∧Only [R] w w':=by
 have H:=lh (rnext_any kind data.length hr h hp)
 have HR:=lh hr
 have Hd:=lh hd
 have hr8:=h.2
 have hdl:=hd.1.len_le
 unfold maxLen at hdl
 have hdl2:(data.length:Int)≤9223372036854775807:=by omega
 obtain ⟨a,cap,rfl,_⟩:=hd.open
 clear hr h hd hdl
 cases hres:nextR l p kind data.length with
 | error er =>
  have hfin:exactR l p n kind data=(some er,p,n):=by unfold exactR;rw [hres]
  have Hfin:=lh hfin
  have Hres:=lh hres
  clear hfin hres hr8
  go_enter Tryz.func67,Tryz.ntmps67
  go_wp2_with (first | (go_at_call 45;refine H.out.mono ?_;rintro e w1 hP;rw [Hres.out] at hP;obtain ⟨hq,ev,rfl,hev⟩:=hP;obtain ⟨et,eu,rfl⟩:=hev.held) | fail)
  go_ret
  refine ⟨_,rfl,?_⟩
  rw [Hfin.out]
  exact ⟨(hev.quiet (Only.new _ _)).mono (Nat.le_refl _) (by simp),HR.out.quiet (hq.q (Only.new _ _)),(hq.q (Only.new _ _)).mono (by simp)⟩
 | ok u =>
  obtain ⟨hpk,huk,hul⟩:=nextR_peek hres
  have hpe:=peekR_ok hpk hp hr8
  obtain ⟨uk,ud,ua,ue⟩:=u
  simp only at huk hul hpe
  subst huk
  have hul':ud.length=data.length:=by omega
  have HB:=lh (fun (w1:World) (dv:Value) (W2:World) (hq:Only [] w W2) (h:Ints .u8 w.heap.size w1.heap.size w1 dv ud) (o:Only [] w1 W2)=>bequal_any (h.quiet o) (Hd.out.quiet hq))
  have Hres:=lh hres
  have Hul:=lh hul'
  clear hres hpk hr8 hul hul'
  by_cases he:ud=data
  ·have hfin:exactR l p n uk data=(none,ue,n+1):=by unfold exactR;rw [Hres.out];exact if_pos he
   have hb:eqB ud data=true:=by simp [eqB,he]
   have Hfin:=lh hfin
   have Hb:=lh hb
   clear hfin hb he
   go_enter Tryz.func67,Tryz.ntmps67
   go_wp2_with (first
    | (go_at_call 45;refine H.out.mono ?_;rintro e w1 hP;rw [Hres.out] at hP;obtain ⟨hq,dv,rfl,hdv⟩:=hP;obtain ⟨da,dcap,rfl,_⟩:=hdv.open;simp only;have Hdv:=lh hdv;clear hdv)
    | (go_at_call 109;refine (HB.out w1 _ _ (hq.q (Only.new _ _)) Hdv.out (Only.new _ _)).mono ?_;rintro e w2 ⟨rfl,rfl⟩;rw [Hb.out])
    | (go_at_call 46;refine (pass_any _ _ _ _ _ (n:=n) (e_:=ue) (HR.out.quiet (hq.q (Only.new _ _))) (by omega)).mono ?_;rintro e w3 ⟨rfl,hr3,hq3⟩)
    | fail)
   go_ret
   refine ⟨_,rfl,?_⟩
   rw [Hfin.out]
   exact ⟨rfl,hr3,((hq.q (Only.new _ _)).mono (U:=[R]) (by simp)).trans hq3 (fun g h _=>h) (fun g h _=>h)⟩
  ·have hfin:exactR l p n uk data=(some ⟨[],2⟩,p,n):=by unfold exactR;rw [Hres.out];exact if_neg he
   have hb:eqB ud data=false:=by simp [eqB,he]
   have Hfin:=lh hfin
   have Hb:=lh hb
   clear hfin hb he
   go_enter Tryz.func67,Tryz.ntmps67
   go_wp2_with (first
    | (go_at_call 45;refine H.out.mono ?_;rintro e w1 hP;rw [Hres.out] at hP;obtain ⟨hq,dv,rfl,hdv⟩:=hP;obtain ⟨da,dcap,rfl,_⟩:=hdv.open;simp only;have Hdv:=lh hdv;clear hdv)
    | (go_at_call 109;refine (HB.out w1 _ _ (hq.q (Only.new _ _)) Hdv.out (Only.new _ _)).mono ?_;rintro e w2 ⟨rfl,rfl⟩;rw [Hb.out])
    | fail)
   go_ret
   refine ⟨_,rfl,?_⟩
   rw [Hfin.out]
   exact ⟨rfl,HR.out.quiet (hq.q (Only.new _ _)),(hq.q (Only.new _ _)).mono (by simp)⟩
def aloneR (l:List Int) (p n:Nat) (first count:Int):(Except Err (List Coded×List Int))×Nat×Nat :=
 match nextR l p 17 3 with
 | .error e=>(.error e,p,n)
 | .ok u =>
  if u.data.getD 1 0≠first∨u.data.getD 2 0≠count then (.error ⟨[],2⟩,p,n)
  else match (framesR l count.toNat 0 u.end_ (n+1)).1 with
   | .error e=>(.error e,(framesR l count.toNat 0 u.end_ (n+1)).2)
   | .ok x=>match endR l (framesR l count.toNat 0 u.end_ (n+1)).2.1 with
    | some e=>(.error e,(framesR l count.toNat 0 u.end_ (n+1)).2)
    | none=>(.ok x,(framesR l count.toNat 0 u.end_ (n+1)).2)
theorem framesR_pos {l:List Int} (hl:∀ x∈l,InK .u8 x):∀ (c i p n:Nat),p≤l.length→n≤p→p≤(framesR l c i p n).2.1∧(framesR l c i p n).2.1≤l.length∧(framesR l c i p n).2.2≤(framesR l c i p n).2.1
 | 0,i,p,n,hp,hn=>⟨Nat.le_refl _,hp,hn⟩
 | c+1,i,p,n,hp,hn=>by
  unfold framesR
  cases hpk:peekR l p with
  | error e=>exact ⟨Nat.le_refl _,hp,hn⟩
  | ok u =>
   simp only
   split
   ·exact ⟨Nat.le_refl _,hp,hn⟩
   ·cases readB ⟨u.kind,u.data⟩ with
    | some k=>exact ⟨Nat.le_refl _,hp,hn⟩
    | none =>
     have h1:=peekR_ok hpk hp hl
     have hz:=zeros_le (l.drop u.end_)
     rw [List.length_drop] at hz
     have ih:=framesR_pos hl c (i+1) (u.end_+zeros (l.drop u.end_)) (n+1+zeros (l.drop u.end_)) (by omega) (by omega)
     simp only [consF]
     omega
theorem ints_range {l:List Int} (h:∀ x∈l,InK .u8 x) {i:Nat} (hi:i<l.length):0≤l.getD i 0∧l.getD i 0≤255:=by
 have:InK .u8 (l.getD i 0):=by refine h _ ?_;simp [hi]
 exact this
theorem nextD_in {d:List Int} {p:Nat} {u:UnitD} (h:nextD d p=.ok u) (hr:∀ x∈d,InK .u8 x):∀ x∈u.data,InK .u8 x:=by
 unfold nextD at h
 split at h
 ·cases h;simp
 split at h
 ·cases h
 split at h
 ·cases h
 split at h
 ·cases h
 split at h
 ·cases h
 cases h
 exact fun x hx=>hr x (List.mem_of_mem_drop (List.mem_of_mem_take hx))
theorem peekR_in {l:List Int} {p:Nat} {u:UnitD} (h:peekR l p=.ok u) (hr:∀ x∈l,InK .u8 x):∀ x∈u.data,InK .u8 x:=by
 unfold peekR at h
 split at h
 ·cases h
 exact nextD_in h (fun x hx=>hr x (List.mem_of_mem_drop hx))
theorem ralone_any {lo hi R p n:Nat} {bv:Value} {l:List Int} {w:World} (first count off len:Int) (hr:Rd R bv w p n) (h:Ints .u8 lo hi w bv l) (hR:hi≤R) (hp:p≤l.length) (hn:n≤p) (hl:l.length≤1000000000000) :
  Calls Tryz.prog 25 #[.pointer (some ⟨R,0,none⟩),.agg #[.int .i64 first,.int .i64 count,.int .i64 off,.int .i64 len]] w (RFramesP R bv w (aloneR l p n first count)):=by
 have hRl:=hr.lt
 have H:=lh (fun w' (o:Only [] w w')=>rnext_any 17 3 (hr.quiet o) (h.quiet o) hp)
 have HR:=lh hr
 have Hh:=lh h
 have Hl:=lh hl
 have hr8:=h.2
 clear hr h
 cases hres:nextR l p 17 3 with
 | error er =>
  have hfin:aloneR l p n first count=(.error er,p,n):=by unfold aloneR;rw [hres]
  have Hfin:=lh hfin
  have Hres:=lh hres
  clear hfin hres hr8
  go_enter Tryz.func25,Tryz.ntmps25
  go_wp2_with (first
   | (go_at_call 45;refine (H.out _ (Only.new _ _)).mono ?_;rintro e w1 hP;rw [Hres.out] at hP;obtain ⟨hq,ev,rfl,hev⟩:=hP;obtain ⟨et,eu,rfl⟩:=hev.held)
   | fail)
  go_quiet (fail)
  go_wp2_with fail
  refine bodyPost_ret (v:=.tuple #[.slice none 0 0,.slice none 0 0,.iface et eu]) (by simp [results,Tryz.results25,go_sem]) rfl ?_
  unfold RFramesP
  rw [Hfin.out]
  have hqa:Only [] w (w1.alloc (.cells #[.int .i64 0,.slice none 0 0,.int .i64 0,.int .i64 0] 119)):=((Only.new _ _).q hq).q (Only.new _ _)
  exact ⟨(hqa.drewN _).mono (by simp),HR.out.quiet (hqa.drewN _),_,rfl,(hev.quiet (((Only.refl _ _).alloc _).drewN _)).mono (by simp) (by simp)⟩
 | ok u =>
  obtain ⟨hpk,huk,hul⟩:=nextR_peek hres
  have hpe:=peekR_ok hpk hp hr8
  have hdr:=peekR_in hpk hr8
  obtain ⟨uk,ud,ua,ue⟩:=u
  simp only at huk hul hpe hdr
  subst huk
  have hul3:ud.length=3:=by omega
  obtain ⟨hua,hue1,hue2,hk0,hk1,hud⟩:=hpe
  have hua2:=hua.symm
  subst hua2
  clear hua
  have hr1:=ints_range hdr (i:=1) (by omega)
  have hr2:=ints_range hdr (i:=2) (by omega)
  have hA:aloneR l p n first count=(if ud.getD 1 0≠first∨ud.getD 2 0≠count then (.error ⟨[],2⟩,p,n)
    else match (framesR l count.toNat 0 ue (n+1)).1 with
     | .error e=>(.error e,(framesR l count.toNat 0 ue (n+1)).2)
     | .ok x=>match endR l (framesR l count.toNat 0 ue (n+1)).2.1 with
      | some e=>(.error e,(framesR l count.toNat 0 ue (n+1)).2)
      | none=>(.ok x,(framesR l count.toNat 0 ue (n+1)).2)):=by unfold aloneR;rw [hres] <;> rfl
  have HA:=lh hA
  have Hres:=lh hres
  have Hul:=lh hul3
  have Hr8:=lh hr8
  clear hA hres hpk hul hdr hr8
  generalize hx1:ud.getD 1 0=x1 at *
  generalize hx2:ud.getD 2 0=x2 at *
  have Hx1:=lh hx1
  have Hx2:=lh hx2
  have hw1:IntKind.i64.wrap x1=x1:=wraps_i64 _ hr1.1 (by omega)
  have hw2:IntKind.i64.wrap x2=x2:=wraps_i64 _ hr2.1 (by omega)
  clear hx1 hx2
  by_cases hbad:x1≠first∨x2≠count
  ·have hfin:aloneR l p n first count=(.error ⟨[],2⟩,p,n):=by rw [HA.out,if_pos hbad]
   have Hfin:=lh hfin
   clear hfin
   have h3:(x1 != first)=true∨((x1 != first)=false∧(x2 != count)=true):=by
    by_cases h1:x1=first
    ·rcases hbad with h | h
     ·exact absurd h1 h
     ·exact .inr ⟨by simp [h1],by simpa using h⟩
    ·exact .inl (by simpa using h1)
   clear hbad
   rcases h3 with h1 | ⟨h1,h2⟩
   all_goals
    go_enter Tryz.func25,Tryz.ntmps25
    go_wp2_with (first
     | (go_at_call 45;refine (H.out _ (Only.new _ _)).mono ?_;rintro e w1 hP;rw [Hres.out] at hP;obtain ⟨hq,dv,rfl,hdv⟩:=hP;have hdv:Ints .u8 (w.heap.size+1) w1.heap.size w1 dv ud:=(by simpa using hdv);obtain ⟨da,dcap,rfl,_,_,hat,hcl⟩:=hdv.open;simp only;obtain ⟨db,doff,rfl,hdb1,hdb2⟩:=hat 0 (by have:=Hul.out;omega);have hcl:=hcl db doff rfl;have Hdv:=lh hdv;have d1:=(fun o=>(Only.new w1 o).cell (hcl 1 (by have:=Hul.out;omega)) (by simp));have d2:=(fun o=>(Only.new w1 o).cell (hcl 2 (by have:=Hul.out;omega)) (by simp));have rE:=hq.fresh;obtain ⟨y0,y1,y2,y3⟩:=row4_cells rE;have e0:=(fun o=>(Only.new w1 o).cell y0 (by simp));have e1:=(fun o=>(Only.new w1 o).cell y1 (by simp));rw [Hul.out];clear hdv hat hcl rE y2 y3)
     | fail)
    rw [Hx1.out] at d1
    rw [Hx2.out] at d2
    go_quiet (fail)
    go_wp2_with fail
    refine bodyPost_ret (v:=.tuple #[.slice none 0 0,.slice none 0 0,.iface 29 (.int .i64 2)]) (by simp [results,Tryz.results25,go_sem]) rfl ?_
    unfold RFramesP
    rw [Hfin.out]
    have hqa:=fun o=>((Only.new _ _).q hq).q (Only.new w1 o)
    exact ⟨((hqa _).drewN _).mono (by simp),HR.out.quiet ((hqa _).drewN _),_,rfl,rfl⟩
  ·obtain ⟨h1,h2⟩:x1=first∧x2=count:=⟨Decidable.not_not.1 fun h=>hbad (.inl h),Decidable.not_not.1 fun h=>hbad (.inr h)⟩
   subst h1;subst h2
   obtain ⟨c,rfl⟩:=Int.eq_ofNat_of_zero_le hr2.1
   have hA2:=HA.out
   rw [if_neg hbad,Int.toNat_natCast] at hA2
   have hfp:=framesR_pos Hr8.out c 0 ue (n+1) (by omega) (by omega)
   clear hbad
   generalize hfr:framesR l c 0 ue (n+1)=FR at *
   obtain ⟨fr,fp,fn⟩:=FR
   have Hfr:=lh hfr
   simp only at hA2 hfp
   clear hfr HA
   cases fr with
   | error er =>
    have Hfin:=lh hA2
    clear hA2
    go_enter Tryz.func25,Tryz.ntmps25
    go_wp2_with (first
     | (go_at_call 45;refine (H.out _ (Only.new _ _)).mono ?_;rintro e w1 hP;rw [Hres.out] at hP;obtain ⟨hq,dv,rfl,hdv⟩:=hP;have hdv:Ints .u8 (w.heap.size+1) w1.heap.size w1 dv ud:=(by simpa using hdv);obtain ⟨da,dcap,rfl,_,_,hat,hcl⟩:=hdv.open;simp only;obtain ⟨db,doff,rfl,hdb1,hdb2⟩:=hat 0 (by have:=Hul.out;omega);have hcl:=hcl db doff rfl;have Hdv:=lh hdv;have d1:=(fun o=>(Only.new w1 o).cell (hcl 1 (by have:=Hul.out;omega)) (by simp));have d2:=(fun o=>(Only.new w1 o).cell (hcl 2 (by have:=Hul.out;omega)) (by simp));have rE:=hq.fresh;obtain ⟨y0,y1,y2,y3⟩:=row4_cells rE;have e0:=(fun o=>(Only.new w1 o).cell y0 (by simp));have e1:=(fun o=>(Only.new w1 o).cell y1 (by simp));rw [Hul.out];clear hdv hat hcl rE y2 y3)
     | fail)
    rw [Hx1.out] at d1
    rw [Hx2.out] at d2
    go_quiet (fail)
    generalize hW3:World.drewN _ _=W3
    have hqD:Only [] (w1.alloc (.cells #[.int .i64 17,.slice (some ⟨db,doff,none⟩) 3 dcap,.int .i64 p,.int .i64 ue] 119)) W3:=by rw [← hW3];exact (Only.refl _ _).drewN _
    obtain ⟨m0,m1,m2,m3⟩:=row4_cells hqD.fresh
    have f1:=hqD.cell (e1 _) (by simp)
    have hqa:Only [] w W3:=((Only.new _ _).q hq).q ((Only.new _ _).q hqD)
    clear hW3 d1 d2 e0 e1 hqD
    have Hqa:=lh hqa
    clear hqa
    go_wp2_with (first
     | (go_at_call 46;refine (pass_any _ _ _ _ _ (n:=n) (e_:=ue) (HR.out.quiet Hqa.out) (by omega)).mono ?_;rintro e w3 ⟨rfl,hr3,hq3⟩;have f3:=hq3.cell f1 (by simp;omega);have hO3:Only [R] w w3:=(Hqa.out.mono (U:=[R]) (by simp)).trans hq3 (fun g h _=>h) (fun g h _=>h);have HF:=lh (rframes_any c hr3 (Hh.out.only hO3 (by intro g hg;rw [mSg] at hg;omega)) hR (by omega) (by omega) Hl.out (by omega));clear hr3)
     | (go_at_call 47;refine HF.out.mono ?_;rintro e w4 hP;unfold RFramesP at hP;rw [Hfr.out] at hP;obtain ⟨hq4,hr4,ev,rfl,hev⟩:=hP;obtain ⟨et,eu,rfl⟩:=hev.held)
     | fail)
    refine bodyPost_ret (v:=.tuple #[.slice none 0 0,.slice none 0 0,.iface et eu]) (by simp [results,Tryz.results25,go_sem]) rfl ?_
    unfold RFramesP
    rw [Hfin.out]
    exact ⟨hO3.trans hq4 (fun g h _=>h) (fun g h _=>h),hr4,_,rfl,hev.mono hO3.size (Nat.le_refl _)⟩
   | ok x =>
    obtain ⟨cs,fs⟩:=x
    simp only at hA2
    have hend:∃ eo,eo=endR l fp:=⟨_,rfl⟩
    obtain ⟨eo,heo⟩:=hend
    rw [← heo] at hA2
    have Heo:=lh heo
    clear heo
    cases eo with
    | some er =>
     simp only at hA2
     have Hfin:=lh hA2
     clear hA2
     go_enter Tryz.func25,Tryz.ntmps25
     go_wp2_with (first
      | (go_at_call 45;refine (H.out _ (Only.new _ _)).mono ?_;rintro e w1 hP;rw [Hres.out] at hP;obtain ⟨hq,dv,rfl,hdv⟩:=hP;have hdv:Ints .u8 (w.heap.size+1) w1.heap.size w1 dv ud:=(by simpa using hdv);obtain ⟨da,dcap,rfl,_,_,hat,hcl⟩:=hdv.open;simp only;obtain ⟨db,doff,rfl,hdb1,hdb2⟩:=hat 0 (by have:=Hul.out;omega);have hcl:=hcl db doff rfl;have Hdv:=lh hdv;have d1:=(fun o=>(Only.new w1 o).cell (hcl 1 (by have:=Hul.out;omega)) (by simp));have d2:=(fun o=>(Only.new w1 o).cell (hcl 2 (by have:=Hul.out;omega)) (by simp));have rE:=hq.fresh;obtain ⟨y0,y1,y2,y3⟩:=row4_cells rE;have e0:=(fun o=>(Only.new w1 o).cell y0 (by simp));have e1:=(fun o=>(Only.new w1 o).cell y1 (by simp));rw [Hul.out];clear hdv hat hcl rE y2 y3)
      | fail)
     rw [Hx1.out] at d1
     rw [Hx2.out] at d2
     go_quiet (fail)
     generalize hW3:World.drewN _ _=W3
     have hqD:Only [] (w1.alloc (.cells #[.int .i64 17,.slice (some ⟨db,doff,none⟩) 3 dcap,.int .i64 p,.int .i64 ue] 119)) W3:=by rw [← hW3];exact (Only.refl _ _).drewN _
     obtain ⟨m0,m1,m2,m3⟩:=row4_cells hqD.fresh
     have f1:=hqD.cell (e1 _) (by simp)
     have hqa:Only [] w W3:=((Only.new _ _).q hq).q ((Only.new _ _).q hqD)
     clear hW3 d1 d2 e0 e1 hqD
     have Hqa:=lh hqa
     clear hqa
     go_wp2_with (first
      | (go_at_call 46;refine (pass_any _ _ _ _ _ (n:=n) (e_:=ue) (HR.out.quiet Hqa.out) (by omega)).mono ?_;rintro e w3 ⟨rfl,hr3,hq3⟩;have f3:=hq3.cell f1 (by simp;omega);have hO3:Only [R] w w3:=(Hqa.out.mono (U:=[R]) (by simp)).trans hq3 (fun g h _=>h) (fun g h _=>h);have HF:=lh (rframes_any c hr3 (Hh.out.only hO3 (by intro g hg;rw [mSg] at hg;omega)) hR (by omega) (by omega) Hl.out (by omega));clear hr3)
      | (go_at_call 47;refine HF.out.mono ?_;rintro e w4 hP;unfold RFramesP at hP;rw [Hfr.out] at hP;obtain ⟨hq4,hr4,cv,fv,rfl,hoc,hof⟩:=hP;have hO4:Only [R] w w4:=hO3.trans hq4 (fun g h _=>h) (fun g h _=>h);have HE:=lh (rend_any hr4 (Hh.out.only hO4 (by intro g hg;rw [mSg] at hg;omega)) hfp.2.1);have Hr4:=lh hr4;clear hr4)
      | (go_at_call 48;refine HE.out.mono ?_;rintro e w5 ⟨ev,rfl,hev,hq5⟩;rw [← Heo.out] at hev;have hev2:ErrV w4.heap.size w5.heap.size w5 ev er:=hev;obtain ⟨et,eu,rfl⟩:=hev2.held;clear hev)
      | fail)
     refine bodyPost_ret (v:=.tuple #[.slice none 0 0,.slice none 0 0,.iface et eu]) (by simp [results,Tryz.results25,go_sem]) rfl ?_
     unfold RFramesP
     rw [Hfin.out]
     exact ⟨hO4.trans hq5 (fun g h _=>h) (by simp),Hr4.out.quiet hq5,_,rfl,hev2.mono hO4.size (Nat.le_refl _)⟩
    | none =>
     simp only at hA2
     have Hfin:=lh hA2
     clear hA2
     go_enter Tryz.func25,Tryz.ntmps25
     go_wp2_with (first
      | (go_at_call 45;refine (H.out _ (Only.new _ _)).mono ?_;rintro e w1 hP;rw [Hres.out] at hP;obtain ⟨hq,dv,rfl,hdv⟩:=hP;have hdv:Ints .u8 (w.heap.size+1) w1.heap.size w1 dv ud:=(by simpa using hdv);obtain ⟨da,dcap,rfl,_,_,hat,hcl⟩:=hdv.open;simp only;obtain ⟨db,doff,rfl,hdb1,hdb2⟩:=hat 0 (by have:=Hul.out;omega);have hcl:=hcl db doff rfl;have Hdv:=lh hdv;have d1:=(fun o=>(Only.new w1 o).cell (hcl 1 (by have:=Hul.out;omega)) (by simp));have d2:=(fun o=>(Only.new w1 o).cell (hcl 2 (by have:=Hul.out;omega)) (by simp));have rE:=hq.fresh;obtain ⟨y0,y1,y2,y3⟩:=row4_cells rE;have e0:=(fun o=>(Only.new w1 o).cell y0 (by simp));have e1:=(fun o=>(Only.new w1 o).cell y1 (by simp));rw [Hul.out];clear hdv hat hcl rE y2 y3)
      | fail)
     rw [Hx1.out] at d1
     rw [Hx2.out] at d2
     go_quiet (fail)
     generalize hW3:World.drewN _ _=W3
     have hqD:Only [] (w1.alloc (.cells #[.int .i64 17,.slice (some ⟨db,doff,none⟩) 3 dcap,.int .i64 p,.int .i64 ue] 119)) W3:=by rw [← hW3];exact (Only.refl _ _).drewN _
     obtain ⟨m0,m1,m2,m3⟩:=row4_cells hqD.fresh
     have f1:=hqD.cell (e1 _) (by simp)
     have hqa:Only [] w W3:=((Only.new _ _).q hq).q ((Only.new _ _).q hqD)
     clear hW3 d1 d2 e0 e1 hqD
     have Hqa:=lh hqa
     clear hqa
     go_wp2_with (first
      | (go_at_call 46;refine (pass_any _ _ _ _ _ (n:=n) (e_:=ue) (HR.out.quiet Hqa.out) (by omega)).mono ?_;rintro e w3 ⟨rfl,hr3,hq3⟩;have f3:=hq3.cell f1 (by simp;omega);have hO3:Only [R] w w3:=(Hqa.out.mono (U:=[R]) (by simp)).trans hq3 (fun g h _=>h) (fun g h _=>h);have HF:=lh (rframes_any c hr3 (Hh.out.only hO3 (by intro g hg;rw [mSg] at hg;omega)) hR (by omega) (by omega) Hl.out (by omega));clear hr3)
      | (go_at_call 47;refine HF.out.mono ?_;rintro e w4 hP;unfold RFramesP at hP;rw [Hfr.out] at hP;obtain ⟨hq4,hr4,cv,fv,rfl,hoc,hof⟩:=hP;have hO4:Only [R] w w4:=hO3.trans hq4 (fun g h _=>h) (fun g h _=>h);have HE:=lh (rend_any hr4 (Hh.out.only hO4 (by intro g hg;rw [mSg] at hg;omega)) hfp.2.1);have Hr4:=lh hr4;clear hr4)
      | (go_at_call 48;refine HE.out.mono ?_;rintro e w5 ⟨ev,rfl,hev,hq5⟩;rw [← Heo.out] at hev;have hev2:ev=.nilIface:=hev;subst hev2;clear hev)
      | fail)
     refine bodyPost_ret (v:=.tuple #[cv,fv,.nilIface]) (by simp [results,Tryz.results25,go_sem]) rfl ?_
     unfold RFramesP
     rw [Hfin.out]
     exact ⟨hO4.trans hq5 (fun g h _=>h) (by simp),Hr4.out.quiet hq5,_,_,rfl,(hoc.quiet hq5).lower hO3.size,(hof.quiet hq5).lower hO3.size⟩
def partR (l:List Int) (p n:Nat) (num first left behind:Int):(Except Err (Entry×List Coded×List Int))×Nat×Nat :=
 match nextR l p 17 3 with
 | .error e=>(.error e,p,n)
 | .ok u =>
  if u.data.getD 0 0≠num∨u.data.getD 1 0≠first∨u.data.getD 2 0<1∨left-behind<u.data.getD 2 0∨(behind=0∧u.data.getD 2 0≠left) then (.error ⟨[],2⟩,p,n)
  else (match (framesR l (u.data.getD 2 0).toNat 0 u.end_ (n+1)).1 with
   | .error e=>.error e
   | .ok x=>.ok (⟨first,u.data.getD 2 0,p,((framesR l (u.data.getD 2 0).toNat 0 u.end_ (n+1)).2.1:Int)-p⟩,x.1,x.2),(framesR l (u.data.getD 2 0).toNat 0 u.end_ (n+1)).2)
def PartP (R:Nat) (bv:Value) (w:World) (r:(Except Err (Entry×List Coded×List Int))×Nat×Nat) (e:Ending) (w':World):Prop :=
 Only [R] w w'∧Rd R bv w' r.2.1 r.2.2∧match r.1 with
  | .ok x=>∃ cv fv,e=.returned (.tuple #[.agg #[.int .i64 x.1.first,.int .i64 x.1.count,.int .i64 x.1.offset,.int .i64 x.1.length],cv,fv,.nilIface])∧OwnC w.heap.size w' cv x.2.1 (fun b=>fv.ownBlock=some b)∧Own .i64 3 w.heap.size w' fv x.2.2
  | .error er=>∃ (a b c d:Int) (ev:Value),e=.returned (.tuple #[.agg #[.int .i64 a,.int .i64 b,.int .i64 c,.int .i64 d],.slice none 0 0,.slice none 0 0,ev])∧ErrV w.heap.size w'.heap.size w' ev er
theorem end4' {w1 Wf:World} {g:Nat} {a b c d v0 v1 v2 v3:Value} {t:TypeId} (r:w1.heap[g]?=some (.cells #[a,b,c,d] t (0,0)))
  (h:((((w1.setCell ⟨g,0,none⟩ v0).setCell ⟨g,1,none⟩ v1).setCell ⟨g,2,none⟩ v2).setCell ⟨g,3,none⟩ v3)=Wf) :
  (Wf.cell? ⟨g,0,none⟩=some v0∧Wf.cell? ⟨g,1,none⟩=some v1∧Wf.cell? ⟨g,2,none⟩=some v2∧Wf.cell? ⟨g,3,none⟩=some v3)∧Only [g] w1 Wf:=by
 have r2:=row4 (v0:=v0) (v1:=v1) (v2:=v2) (v3:=v3) r
 have o:Only [g] w1 ((((w1.setCell ⟨g,0,none⟩ v0).setCell ⟨g,1,none⟩ v1).setCell ⟨g,2,none⟩ v2).setCell ⟨g,3,none⟩ v3):=((((Only.refl _ _).setCell (by simp) _).setCell (by simp) _).setCell (by simp) _).setCell (by simp) _
 rw [h] at r2 o
 exact ⟨row4_cells r2,o⟩
theorem rpart_any {lo hi R p n:Nat} {bv:Value} {l:List Int} {w:World} (num first left behind:Int) (hr:Rd R bv w p n) (h:Ints .u8 lo hi w bv l) (hR:hi≤R) (hp:p≤l.length) (hn:n≤p) (hl:l.length≤1000000000000)
  (hL:-1000000≤left∧left≤1000000) (hB:-1000000≤behind∧behind≤1000000) :
  Calls Tryz.prog 66 #[.pointer (some ⟨R,0,none⟩),.int .i64 num,.int .i64 first,.int .i64 left,.int .i64 behind] w (PartP R bv w (partR l p n num first left behind)):=by
 have hRl:=hr.lt
 have H:=lh (fun w' (o:Only [] w w')=>rnext_any 17 3 (hr.quiet o) (h.quiet o) hp)
 have HR:=lh hr
 have Hh:=lh h
 have Hl:=lh hl
 have hr8:=h.2
 clear hr h
 cases hres:nextR l p 17 3 with
 | error er =>
  have hfin:partR l p n num first left behind=(.error er,p,n):=by unfold partR;rw [hres]
  have Hfin:=lh hfin
  have Hres:=lh hres
  clear hfin hres hr8
  go_enter Tryz.func66,Tryz.ntmps66
  go_wp2_with (first
   | (go_at_call 45;refine (H.out _ (Only.new _ _)).mono ?_;rintro e w1 hP;rw [Hres.out] at hP;obtain ⟨hq,ev,rfl,hev⟩:=hP;obtain ⟨et,eu,rfl⟩:=hev.held;have rI:=hq.fresh;obtain ⟨m0,m1,m2,m3⟩:=row4_cells rI;have k0:=frozen_of_row w1 w.heap.size 0 _ _ rI;have k1:=frozen_of_row w1 w.heap.size 1 _ _ rI;have k2:=frozen_of_row w1 w.heap.size 2 _ _ rI;have k3:=frozen_of_row w1 w.heap.size 3 _ _ rI;have hwl:w.heap.size<w1.heap.size:=(Array.getElem?_eq_some_iff.1 rI).1;clear rI)
   | fail)
  generalize hWf:World.alloc _ _=Wf
  obtain ⟨⟨t0,t1,t2,t3⟩,hO2⟩:=end4 hq hWf
  refine bodyPost_ret (v:=.tuple #[.agg #[.int .i64 0,.int .i64 0,.int .i64 0,.int .i64 0],.slice none 0 0,.slice none 0 0,.iface et eu]) (by simp [results,Tryz.results66,go_sem,t0,t1,t2,t3]) rfl ?_
  unfold PartP
  rw [Hfin.out]
  have hA:Only [] w Wf:=((Only.new _ _).q hq).trans hO2 (by simp) (by simp)
  exact ⟨hA.mono (by simp),HR.out.quiet hA,_,_,_,_,_,rfl,(hev.only hO2 (by simp)).mono (by simp) hO2.size⟩
 | ok u =>
  obtain ⟨hpk,huk,hul⟩:=nextR_peek hres
  have hpe:=peekR_ok hpk hp hr8
  have hdr:=peekR_in hpk hr8
  obtain ⟨uk,ud,ua,ue⟩:=u
  simp only at huk hul hpe hdr
  subst huk
  have hul3:ud.length=3:=by omega
  obtain ⟨hua,hue1,hue2,hk0,hk1,hud⟩:=hpe
  have hua2:=hua.symm
  subst hua2
  clear hua
  have hr0:=ints_range hdr (i:=0) (by omega)
  have hr1:=ints_range hdr (i:=1) (by omega)
  have hr2:=ints_range hdr (i:=2) (by omega)
  have hA:partR l p n num first left behind=(if ud.getD 0 0≠num∨ud.getD 1 0≠first∨ud.getD 2 0<1∨left-behind<ud.getD 2 0∨(behind=0∧ud.getD 2 0≠left) then (.error ⟨[],2⟩,p,n)
    else (match (framesR l (ud.getD 2 0).toNat 0 ue (n+1)).1 with
     | .error e=>.error e
     | .ok x=>.ok (⟨first,ud.getD 2 0,p,((framesR l (ud.getD 2 0).toNat 0 ue (n+1)).2.1:Int)-p⟩,x.1,x.2),(framesR l (ud.getD 2 0).toNat 0 ue (n+1)).2)):=by unfold partR;rw [hres]
  have HA:=lh hA
  have Hres:=lh hres
  have Hul:=lh hul3
  have Hr8:=lh hr8
  clear hA hres hpk hul hdr hr8 hul3
  have HC:∀ (w1:World) (db doff:Nat),(∀ i,i<ud.length→w1.cell? ⟨db,doff+i,none⟩=some (.int .u8 (ud.getD i 0)))→Hid (w1.cell? ⟨db,doff,none⟩=some (.int .u8 (ud.getD 0 0))∧w1.cell? ⟨db,doff+1,none⟩=some (.int .u8 (ud.getD 1 0))∧w1.cell? ⟨db,doff+2,none⟩=some (.int .u8 (ud.getD 2 0))):=fun w1 db doff h =>
   lh ⟨h 0 (by have:=Hul.out;omega),h 1 (by have:=Hul.out;omega),h 2 (by have:=Hul.out;omega)⟩
  have HCC:=lh HC
  clear HC
  generalize ud.getD 0 0=x0 at *
  generalize ud.getD 1 0=x1 at *
  generalize ud.getD 2 0=x2 at *
  have hw0:IntKind.i64.wrap x0=x0:=wraps_i64 _ hr0.1 (by omega)
  have hw1:IntKind.i64.wrap x1=x1:=wraps_i64 _ hr1.1 (by omega)
  have hw2:IntKind.i64.wrap x2=x2:=wraps_i64 _ hr2.1 (by omega)
  go_enter Tryz.func66,Tryz.ntmps66
  go_wp2_with (first
   | (go_at_call 45;refine (H.out _ (Only.new _ _)).mono ?_;rintro e w1 hP;rw [Hres.out] at hP;obtain ⟨hq,dv,rfl,hdv⟩:=hP;have hdv:Ints .u8 (w.heap.size+1) w1.heap.size w1 dv ud:=(by simpa using hdv);obtain ⟨da,dcap,rfl,hdc,_,hat,hcl⟩:=hdv.open;simp only;obtain ⟨db,doff,rfl,hdb1,hdb2⟩:=hat 0 (by have:=Hul.out;omega);have hcl:=hcl db doff rfl;have Hcl:=lh hcl;rw [Hul.out];clear hdv hat hcl)
   | fail)
  generalize hW3:World.alloc w1 _=W3
  have hqU:Only [] w1 W3:=by rw [← hW3];exact Only.new _ _
  have rU:W3.heap[w1.heap.size]?=some (.cells #[.int .i64 17,.slice (some ⟨db,doff,none⟩) 3 dcap,.int .i64 p,.int .i64 ue] 119 (0,0)):=by rw [← hW3];exact heap_alloc_new _ _
  obtain ⟨c0,c1,c2⟩:=(HCC.out W3 db doff (fun i hi=>hqU.cell (Hcl.out i hi) (by simp))).out
  obtain ⟨a0,a1,a2,a3⟩:=row4_cells rU
  have hr3:=HR.out.quiet (((Only.new _ _).q hq).q hqU)
  have b1:=hr3.c1
  have RI:=lh (hqU.rowAt hq.fresh (by simp))
  have RU:=lh rU
  have HqU:=lh hqU
  have Hr3:=lh hr3
  have hW3s:W3.heap.size=w1.heap.size+1:=by rw [← hW3];simp
  have HW3s:=lh hW3s
  clear hW3 hqU rU hr3 hW3s HCC Hcl
  go_wp2_with fail
  go_region_held3 (fun w'=>(w'.cell? ⟨db,doff+2,none⟩=some (.int .u8 x2)∧w'.cell? ⟨w1.heap.size,1,none⟩=some (.slice (some ⟨db,doff,none⟩) 3 dcap)∧w'.cell? ⟨R,1,none⟩=some (.int .i64 p)))
   (first | (simp [*,World.cell?_alloc_some,World.cell?_setCell_far,frozen?_alloc_cells,frozen_drew,World.frozen?_setCell]) | fail)
   (fail)
  generalize hW4:World.drew _=W4
  have hqI:Only [] W3 W4:=by rw [← hW4];exact (Only.new _ _).drew
  have rE:W4.heap[W3.heap.size]?=some (.cells #[.int .i64 first,.int .i64 x2,.int .i64 p,.int .i64 0] 46 (0,0)):=by rw [← hW4];exact heap_alloc_new' rfl
  have RE:=lh rE
  have RI4:=lh (hqI.rowAt RI.out (by simp))
  have RU4:=lh (hqI.rowAt RU.out (by simp))
  have HO4:=lh ((((Only.new _ _).q hq).q HqU.out).q hqI)
  obtain ⟨e0,e1,e2,e3⟩:=row4_cells rE
  obtain ⟨u0,u1,u2,u3⟩:=row4_cells RU4.out
  obtain ⟨m0,m1,m2,m3⟩:=row4_cells RI4.out
  have k0:=frozen_of_row W4 w.heap.size 0 _ _ RI4.out
  have k1:=frozen_of_row W4 w.heap.size 1 _ _ RI4.out
  have k2:=frozen_of_row W4 w.heap.size 2 _ _ RI4.out
  have k3:=frozen_of_row W4 w.heap.size 3 _ _ RI4.out
  have d0:=hqI.cell c0 (by simp)
  have d1:=hqI.cell c1 (by simp)
  have HZ:Hid (w.heap.size<W3.heap.size):=lh (by have:=HW3s.out;have:=hq.size;simp at this;omega)
  clear hqI rE hW4 c0 c1 c2 a0 a1 a2 a3 b1
  have hsub:-2000000≤left-behind∧left-behind≤2000000:=by omega
  by_cases hbad:x0≠num∨x1≠first∨x2<1∨left-behind<x2∨(behind=0∧x2≠left)
  ·have hfin:partR l p n num first left behind=(.error ⟨[],2⟩,p,n):=by rw [HA.out,if_pos hbad]
   have Hfin:=lh hfin
   clear hfin
   have hc:(x0 != num)=true∨((x0 != num)=false∧((x1 != first)=true∨((x1 != first)=false∧(x2<1∨(¬ x2<1∧(left-behind<x2∨(¬ left-behind<x2∧(behind == 0)=true∧(x2 != left)=true))))))):=by
    by_cases h0:x0=num
    ·refine .inr ⟨by simp [h0],?_⟩
     by_cases h1:x1=first
     ·refine .inr ⟨by simp [h1],?_⟩
      by_cases h2:x2<1
      ·exact .inl h2
      refine .inr ⟨h2,?_⟩
      by_cases h3:left-behind<x2
      ·exact .inl h3
      refine .inr ⟨h3,?_⟩
      rcases hbad with h | h | h | h | ⟨h,h'⟩
      ·exact absurd h0 h
      ·exact absurd h1 h
      ·exact absurd h h2
      ·exact absurd h h3
      ·exact ⟨by simp [h],by simpa using h'⟩
     ·exact .inl (by simpa using h1)
    ·exact .inl (by simpa using h0)
   clear hbad
   rcases hc with h1 | ⟨h1,h2 | ⟨h2,h3 | ⟨h3,h4 | ⟨h4,h5,h6⟩⟩⟩⟩
   all_goals
    go_wp2_with fail
    generalize hWf:World.setCell _ _ _=Wf
    obtain ⟨⟨t0,t1,t2,t3⟩,hO2⟩:=end4' RI4.out hWf
    refine bodyPost_ret (v:=.tuple #[.agg #[.int .i64 0,.int .i64 0,.int .i64 0,.int .i64 0],.slice none 0 0,.slice none 0 0,.iface 29 (.int .i64 2)]) (by simp [results,Tryz.results66,go_sem,t0,t1,t2,t3]) rfl ?_
    unfold PartP
    rw [Hfin.out]
    have hA:Only [] w Wf:=HO4.out.trans hO2 (by simp) (by simp)
    exact ⟨hA.mono (by simp),HR.out.quiet hA,_,_,_,_,_,rfl,rfl⟩
  ·have hg0:x0=num:=Decidable.not_not.1 fun h=>hbad (.inl h)
   have hg1:x1=first:=Decidable.not_not.1 fun h=>hbad (.inr (.inl h))
   have hg2:¬ x2<1:=fun h=>hbad (.inr (.inr (.inl h)))
   have hg3:¬ left-behind<x2:=fun h=>hbad (.inr (.inr (.inr (.inl h))))
   have hg4:(behind == 0)=false∨((behind == 0)=true∧(x2 != left)=false):=by
    by_cases h:behind=0
    ·refine .inr ⟨by simp [h],?_⟩
     have:x2=left:=Decidable.not_not.1 fun h'=>hbad (.inr (.inr (.inr (.inr ⟨h,h'⟩))))
     simp [this]
    ·exact .inl (by simpa using h)
   subst hg0;subst hg1
   obtain ⟨c,rfl⟩:=Int.eq_ofNat_of_zero_le hr2.1
   have hA2:=HA.out
   rw [if_neg hbad,Int.toNat_natCast] at hA2
   have hfp:=framesR_pos Hr8.out c 0 ue (n+1) (by omega) (by omega)
   clear hbad
   generalize hfr:framesR l c 0 ue (n+1)=FR at *
   obtain ⟨fr,fp,fn⟩:=FR
   have Hfr:=lh hfr
   simp only at hA2 hfp
   clear hfr HA
   have hfpi:(fp:Int)≤1000000000000:=by have:=Hl.out;omega
   have hppi:(p:Int)≤1000000000000:=by have:=Hl.out;omega
   have hwf:IntKind.i64.wrap ((fp:Int)-(p:Int))=(fp:Int)-(p:Int):=wraps_i64 _ (by omega) (by omega)
   cases fr with
   | error er =>
    simp only at hA2
    have Hfin:=lh hA2
    clear hA2
    rcases hg4 with hg4 | ⟨hg4,hg5⟩
    all_goals
     go_wp2_with (first
      | (go_at_call 46;refine (pass_any _ _ _ _ _ (n:=n) (e_:=ue) (HR.out.quiet HO4.out) (by omega)).mono ?_;rintro e w5 ⟨rfl,hr5,hq5⟩;have rE5:=hq5.rowAt RE.out (by simp;have:=HZ.out;omega);obtain ⟨v0,v1,v2,v3⟩:=row4_cells rE5;have hO5:Only [R] w w5:=(HO4.out.mono (U:=[R]) (by simp)).trans hq5 (fun g h _=>h) (fun g h _=>h);have HF:=lh (rframes_any c hr5 (Hh.out.only hO5 (by intro g hg;rw [mSg] at hg;omega)) hR (by omega) (by omega) Hl.out (by omega));have RE5:=lh rE5;clear hr5 rE5)
      | (go_at_call 47;refine HF.out.mono ?_;rintro e w6 hP;unfold RFramesP at hP;rw [Hfr.out] at hP;obtain ⟨hq6,hr6,ev,rfl,hev⟩:=hP;obtain ⟨et,eu,rfl⟩:=hev.held;have rE6:=hq6.rowAt RE5.out (by simp;have:=HZ.out;omega);have rI6:=hq6.rowAt (hq5.rowAt RI4.out (by simp;omega)) (by simp;omega);obtain ⟨g0,g1,g2,g3⟩:=row4_cells rE6;have g4:=frozen_of_row w6 W3.heap.size 3 _ _ rE6;have RE6:=lh rE6;have RI6:=lh rI6;have b1:=hr6.c1;have Hr6:=lh hr6;clear rE6 rI6 hr6)
      | fail)
     have hRE:¬ R=W3.heap.size:=by have:=HZ.out;omega
     have hRE':¬ W3.heap.size=R:=by have:=HZ.out;omega
     have hcR:∀ u,(w6.setCell ⟨W3.heap.size,3,none⟩ u).cell? ⟨R,1,none⟩=some (.int .i64 fp):=fun u=>by rw [World.cell?_setCell_other _ _ _ _ (by simp [hRE,hRE'])];exact b1
     have hcE:∀ u,(w6.setCell ⟨W3.heap.size,3,none⟩ u).cell? ⟨W3.heap.size,2,none⟩=some (.int .i64 p):=fun u=>by rw [World.cell?_setCell_other _ _ _ _ (by simp)];exact g2
     go_region_held3 (fun w'=>w'.cell? ⟨R,1,none⟩=some (.int .i64 fp)∧w'.cell? ⟨W3.heap.size,2,none⟩=some (.int .i64 p))
      (first | (go_split_ands;exact ⟨hcR _,hcE _⟩) | (simp [*,World.cell?_alloc_some,World.cell?_setCell_far,frozen?_alloc_cells,frozen_drew,World.frozen?_setCell]) | fail)
      (fail)
     generalize hW7:World.drew _=W7
     have hS7:Only [W3.heap.size] w6 W7:=by rw [← hW7];exact ((Only.refl _ _).setCell (by simp) _).drew
     have rE7:W7.heap[W3.heap.size]?=some (.cells #[.int .i64 x1,.int .i64 c,.int .i64 p,.int .i64 ((fp:Int)-p)] 46 (0,0)):=by rw [← hW7];exact heap_setCell_same w6 W3.heap.size 3 _ _ (.int .i64 ((fp:Int)-p)) RE6.out
     have rI7:=hS7.rowAt RI6.out (by simp;have:=HZ.out;omega)
     obtain ⟨n0,n1,n2,n3⟩:=row4_cells rE7
     obtain ⟨y0,y1,y2,y3⟩:=row4_cells rI7
     have k0:=frozen_of_row W7 w.heap.size 0 _ _ rI7
     have k1:=frozen_of_row W7 w.heap.size 1 _ _ rI7
     have k2:=frozen_of_row W7 w.heap.size 2 _ _ rI7
     have k3:=frozen_of_row W7 w.heap.size 3 _ _ rI7
     have RI7:=lh rI7
     clear hW7 rE7 rI7
     go_wp2_with fail
     generalize hWf:World.setCell _ _ _=Wf
     obtain ⟨⟨t0,t1,t2,t3⟩,hO2⟩:=end4' RI7.out hWf
     refine bodyPost_ret (v:=.tuple #[.agg #[.int .i64 x1,.int .i64 c,.int .i64 p,.int .i64 ((fp:Int)-p)],.slice none 0 0,.slice none 0 0,.iface et eu]) (by simp [results,Tryz.results66,go_sem,t0,t1,t2,t3]) rfl ?_
     unfold PartP
     rw [Hfin.out]
     have hO6:Only [R] w w6:=hO5.trans hq6 (fun g h _=>h) (fun g h _=>h)
     have hz:=HZ.out
     have hO7:Only [R] w W7:=hO6.trans hS7 (fun g h _=>h) (fun g hg hlt=>absurd (mSg.1 hg) (by omega))
     have hO8:Only [R] w Wf:=hO7.trans hO2 (fun g h _=>h) (fun g hg hlt=>absurd (mSg.1 hg) (by omega))
     have hr8':=(Hr6.out.only hS7 (by simp;omega)).only hO2 (by simp;omega)
     have hz5:=hO5.size
     have hz4:=HO4.out.size
     have hzw:=(Array.getElem?_eq_some_iff.1 RE5.out).1
     exact ⟨hO8,hr8',_,_,_,_,_,rfl,((hev.only hS7 (by intro g hg;rw [mSg] at hg;omega)).only hO2 (by intro g hg;rw [mSg] at hg;omega)).mono hz5 (by have:=hS7.size;have:=hO2.size;omega)⟩
   | ok x =>
    obtain ⟨cs,fs⟩:=x
    simp only at hA2
    have Hfin:=lh hA2
    clear hA2
    rcases hg4 with hg4 | ⟨hg4,hg5⟩
    all_goals
     go_wp2_with (first
      | (go_at_call 46;refine (pass_any _ _ _ _ _ (n:=n) (e_:=ue) (HR.out.quiet HO4.out) (by omega)).mono ?_;rintro e w5 ⟨rfl,hr5,hq5⟩;have rE5:=hq5.rowAt RE.out (by simp;have:=HZ.out;omega);obtain ⟨v0,v1,v2,v3⟩:=row4_cells rE5;have hO5:Only [R] w w5:=(HO4.out.mono (U:=[R]) (by simp)).trans hq5 (fun g h _=>h) (fun g h _=>h);have HF:=lh (rframes_any c hr5 (Hh.out.only hO5 (by intro g hg;rw [mSg] at hg;omega)) hR (by omega) (by omega) Hl.out (by omega));have RE5:=lh rE5;clear hr5 rE5)
      | (go_at_call 47;refine HF.out.mono ?_;rintro e w6 hP;unfold RFramesP at hP;rw [Hfr.out] at hP;obtain ⟨hq6,hr6,cv,fv,rfl,hoc,hof⟩:=hP;have Hoc:=lh hoc;have Hof:=lh hof;clear hoc hof;have rE6:=hq6.rowAt RE5.out (by simp;have:=HZ.out;omega);have rI6:=hq6.rowAt (hq5.rowAt RI4.out (by simp;omega)) (by simp;omega);obtain ⟨g0,g1,g2,g3⟩:=row4_cells rE6;have g4:=frozen_of_row w6 W3.heap.size 3 _ _ rE6;have RE6:=lh rE6;have RI6:=lh rI6;have b1:=hr6.c1;have Hr6:=lh hr6;clear rE6 rI6 hr6)
      | fail)
     have hRE:¬ R=W3.heap.size:=by have:=HZ.out;omega
     have hRE':¬ W3.heap.size=R:=by have:=HZ.out;omega
     have hcR:∀ u,(w6.setCell ⟨W3.heap.size,3,none⟩ u).cell? ⟨R,1,none⟩=some (.int .i64 fp):=fun u=>by rw [World.cell?_setCell_other _ _ _ _ (by simp [hRE,hRE'])];exact b1
     have hcE:∀ u,(w6.setCell ⟨W3.heap.size,3,none⟩ u).cell? ⟨W3.heap.size,2,none⟩=some (.int .i64 p):=fun u=>by rw [World.cell?_setCell_other _ _ _ _ (by simp)];exact g2
     go_region_held3 (fun w'=>w'.cell? ⟨R,1,none⟩=some (.int .i64 fp)∧w'.cell? ⟨W3.heap.size,2,none⟩=some (.int .i64 p))
      (first | (go_split_ands;exact ⟨hcR _,hcE _⟩) | (simp [*,World.cell?_alloc_some,World.cell?_setCell_far,frozen?_alloc_cells,frozen_drew,World.frozen?_setCell]) | fail)
      (fail)
     generalize hW7:World.drew _=W7
     have hS7:Only [W3.heap.size] w6 W7:=by rw [← hW7];exact ((Only.refl _ _).setCell (by simp) _).drew
     have rE7:W7.heap[W3.heap.size]?=some (.cells #[.int .i64 x1,.int .i64 c,.int .i64 p,.int .i64 ((fp:Int)-p)] 46 (0,0)):=by rw [← hW7];exact heap_setCell_same w6 W3.heap.size 3 _ _ (.int .i64 ((fp:Int)-p)) RE6.out
     have rI7:=hS7.rowAt RI6.out (by simp;have:=HZ.out;omega)
     obtain ⟨n0,n1,n2,n3⟩:=row4_cells rE7
     obtain ⟨y0,y1,y2,y3⟩:=row4_cells rI7
     have k0:=frozen_of_row W7 w.heap.size 0 _ _ rI7
     have k1:=frozen_of_row W7 w.heap.size 1 _ _ rI7
     have k2:=frozen_of_row W7 w.heap.size 2 _ _ rI7
     have k3:=frozen_of_row W7 w.heap.size 3 _ _ rI7
     have RI7:=lh rI7
     clear hW7 rE7 rI7
     go_wp2_with fail
     generalize hWf:World.setCell _ _ _=Wf
     obtain ⟨⟨t0,t1,t2,t3⟩,hO2⟩:=end4' RI7.out hWf
     refine bodyPost_ret (v:=.tuple #[.agg #[.int .i64 x1,.int .i64 c,.int .i64 p,.int .i64 ((fp:Int)-p)],cv,fv,.nilIface]) (by simp [results,Tryz.results66,go_sem,t0,t1,t2,t3]) rfl ?_
     unfold PartP
     rw [Hfin.out]
     have hO6:Only [R] w w6:=hO5.trans hq6 (fun g h _=>h) (fun g h _=>h)
     have hz:=HZ.out
     have hO7:Only [R] w W7:=hO6.trans hS7 (fun g h _=>h) (fun g hg hlt=>absurd (mSg.1 hg) (by omega))
     have hO8:Only [R] w Wf:=hO7.trans hO2 (fun g h _=>h) (fun g hg hlt=>absurd (mSg.1 hg) (by omega))
     have hr8':=(Hr6.out.only hS7 (by simp;omega)).only hO2 (by simp;omega)
     have hz5:=hO5.size
     have hz4:=HO4.out.size
     have hzw:=(Array.getElem?_eq_some_iff.1 RE5.out).1
     exact ⟨hO8,hr8',cv,fv,rfl,(((Hoc.out.only hS7 (by intro g hg;rw [mSg] at hg;omega)).only hO2 (by intro g hg;rw [mSg] at hg;omega)).lower hz5),(((Hof.out.only hS7 (by intro g hg;rw [mSg] at hg;exact fun e=>by have:=(Hof.out.at _ e).1;omega)).only hO2 (by intro g hg;rw [mSg] at hg;exact fun e=>by have:=(Hof.out.at _ e).1;omega)).lower hz5)⟩
end Go.Proofs.YtmdobcffijnaoaaGreatDoor
