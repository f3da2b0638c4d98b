/- Joined texts: Zeros, MuxG. Conditions: each part names its own. -/
import Derived.Test.YtmdobcffijnaoaaGreatDoorC1
import Derived.Lib.AppendZerosOnto
import Derived.Test.YtmdobcffijnaoaaGreatDoorB5
namespace Go.Proofs.YtmdobcffijnaoaaGreatDoor
open Go.RowKit
set_option linter.unusedVariables false
set_option linter.unusedSimpArgs false
set_option maxRecDepth 100000
set_option maxHeartbeats 16000000
theorem zeroCells_one (k:IntKind) (m:Nat):Builtin.zeroCells #[.int k 0] m=(List.replicate m (Value.int k 0)).toArray:=by
 unfold Builtin.zeroCells
 apply Array.ext
 ·simp
 ·intro i h1 h2
  simp [Nat.mod_one]
theorem map_rep (k:IntKind) (m:Nat):(List.replicate m (0:Int)).map (Value.int k)=List.replicate m (Value.int k 0):=by simp
section
variable {P:Program}
theorem run_append_zeros {w:World} {t tn ty e:TypeId} {k kn:IntKind} {bytes base m:Nat} {v:Value} {l:List Int} (E:Elem P t e (.int k 0) 1 bytes) (htn:P.underlying tn=some (.int kn))
  (hown:Own k e base w v l) (hbytes:(l.length+m)*bytes≤140737488355328) (hbase:base≤w.heap.size) (h0:InK k 0) :
  ∃ v' w',(Builtin.append_ #[t,tn] ty #[v,.int .i64 m]).run P w=.ok v' w'∧Own k e base w' v' (l ++ List.replicate m 0)∧Acc v w v' w':=by
 have hle:l.length+m≤140737488355328:=Nat.le_trans (Nat.le_mul_of_pos_right _ E.bp) hbytes
 have hmb:m*bytes≤140737488355328:=Nat.le_trans (Nat.mul_le_mul_right _ (by omega)) hbytes
 obtain ⟨i,hi,hz,hsize,hby⟩:=E.inf
 have hw:IntKind.i64.wrap (m:Int)=m:=by rw [IntKind.wrap_i64];omega
 have hneg:¬ ((m:Int)<0):=by omega
 have hw0:IntKind.i64.wrap 0=0:=by rw [IntKind.wrap_i64];omega
 have hr:∀ y∈l ++ List.replicate m 0,InK k y:=by
  intro y hy
  rcases List.mem_append.1 hy with hy | hy
  ·exact hown.2 y hy
  ·rw [(List.mem_replicate.1 hy).2];exact h0
 have hcz:(Value.int k 0).cells=#[.int k 0]:=rfl
 have h48i:¬ (281474976710656<(m:Int)*(i.bytes:Int)):=by
  rw [hby,← Int.natCast_mul];omega
 have grown:∀ (n old:Nat) (xs:List Value),n=l.length→xs=l.map (Value.int k)→old<n+m →
   Own k e base (w.drew.alloc (.cells (xs.toArray ++ Builtin.zeroCells (Value.int k 0).cells m ++ Builtin.zeroCells (Value.int k 0).cells (grownCap w (n+m) old e-(n+m))) e)) (.slice (some ⟨w.heap.size,0,none⟩) (n+m) (grownCap w (n+m) old e)) (l ++ List.replicate m 0):=by
  intro n old xs hn hxs ho
  subst hn;subst hxs
  have hge:=grownCap_ge w (l.length+m) old e
  have hcm:grownCap w (l.length+m) old e≤maxLen:=grownCap_le_maxLen w (l.length+m) old e (by simp only [maxLen];omega)
  have hlen:(l ++ List.replicate m 0).length=l.length+m:=by simp
  refine ⟨?_,hr⟩
  rw [hlen]
  refine ⟨by simp,.inr ⟨w.heap.size,_,_,rfl,hbase,heap_alloc_new w.drew _,hge,hcm,?_,?_⟩⟩
  ·simp only [Array.size_append,List.size_toArray,size_zeroCells,hcz,List.length_map]
   simp;omega
  ·rw [hcz,zeroCells_one,zeroCells_one,Array.toList_append,Array.toList_append]
   simp only [List.map_append,map_rep]
   rw [List.take_left' (by simp)]
 have quiet:∀ (cs:Array Value) (v0:Value) n c,Acc v0 w (.slice (some ⟨w.heap.size,0,none⟩) n c) (w.drew.alloc (.cells cs e)):=fun cs v0 n c =>
  ⟨((Only.refl v0.ownBlock.toList w).drew).alloc _,.inr (fun g hg=>by simp [Value.ownBlock] at hg;omega)⟩
 rcases hown.1.2 with ⟨rfl,hl0⟩ | ⟨g,cap,cur,rfl,hbg,hg,hnc,hcm,hcs,htake⟩
 ·have hl:l=[]:=List.eq_nil_of_length_eq_zero hl0
  subst hl
  by_cases hm:m=0
  ·subst hm
   refine ⟨.slice none 0 0,w,?_,by simpa using hown,Acc.refl _ _⟩
   simp [Builtin.append_,run_underlying E.ut,run_underlying htn,sizeOf,typeInfo,hi,asInt,asIntOf,hw0,storeCells]
  ·have hr2:=Lib.run_append_grow_zeros (P:=P) w t tn ty e i _ .i64 kn E.ut htn hi hz none 0 0 [] (by simp [Builtin.firstCells]) m (by omega) (by omega) (by omega) (by omega) (by rw [hby];omega) (by rw [hby];exact growslice_fits (by omega) (by simpa using hbytes))
   exact ⟨_,_,hr2,grown 0 0 [] rfl rfl (by omega),quiet _ _ _ _⟩
 ·by_cases hroom:l.length+m≤cap
  ·by_cases hm:m=0
   ·subst hm
    refine ⟨_,w,?_,by simpa using hown,Acc.refl _ _⟩
    simp [Builtin.append_,run_underlying E.ut,run_underlying htn,sizeOf,typeInfo,hi,asInt,asIntOf,hw0,hnc,storeCells]
   ·have hst:=run_storeCells_at (P:=P) g l.length e (List.replicate m (Value.int k 0)) 0 cur w hg (by rw [List.length_replicate];omega) (by intro u hu;rw [(List.mem_replicate.1 hu).2];rfl)
    simp only [Nat.add_zero,List.length_replicate] at hst
    have hadd:(⟨g,0,none⟩:Addr).add l.length=⟨g,l.length,none⟩:=by unfold Addr.add;split <;> simp_all
    have hrun:(Builtin.append_ #[t,tn] ty #[.slice (some ⟨g,0,none⟩) l.length cap,.int .i64 m]).run P w=.ok (.slice (some ⟨g,0,none⟩) (l.length+m) cap) (w.setRow g (cur.toList.take l.length ++ List.replicate m (Value.int k 0) ++ cur.toList.drop (l.length+m)).toArray):=by
     simp [Builtin.append_,run_underlying E.ut,run_underlying htn,sizeOf,typeInfo,zeroValue,hi,hz,asInt,asIntOf,hw,hneg,hroom,hsize,hm,h48i,hcz,zeroCells_one,hadd]
     simp only [List.append_assoc] at hst
     rw [hst]
     rfl
    have hL:(l ++ List.replicate m (0:Int)).length=l.length+m:=by simp
    refine ⟨_,_,hrun,⟨?_,hr⟩,⟨?_,.inl rfl⟩⟩
    ·rw [hL]
     refine ⟨by simp,.inr ⟨g,cap,_,rfl,hbg,setRow_heap w g cur _ e _ hg,hroom,hcm,?_,?_⟩⟩
     ·simp only [List.size_toArray,List.length_append,List.length_take,List.length_drop,Array.length_toList,List.length_replicate]
      omega
     ·simp only [Nat.mul_one] at htake ⊢
      rw [htake,List.map_append,map_rep]
      exact List.take_left' (by simp)
    ·exact ⟨rfl,rfl,rfl,by simp,fun j hj hn=>setRow_other w g j _ (fun e=>hn (by simp [Value.ownBlock,e]))⟩
  ·have holds:∀ j u,(l.map (Value.int k))[j]?=some u→w.cell? ((⟨g,0,none⟩:Addr).add j)=some u:=hown.1.cells (g:=g) rfl
   have hr2:=Lib.run_append_grow_zeros (P:=P) w t tn ty e i _ .i64 kn E.ut htn hi hz (some ⟨g,0,none⟩) l.length cap (l.map (Value.int k)) (by rw [hsize];exact run_firstCells_some w.drew 1 l.length ⟨g,0,none⟩ l.length cap _ (by simp) (by simpa using holds)) m (by omega) (by omega) (by omega) (by omega) (by rw [hby];omega) (by rw [hby];exact growslice_fits (by omega) hbytes)
   exact ⟨_,_,hr2,grown l.length cap _ rfl rfl (by omega),quiet _ _ _ _⟩
theorem wp_append_zeros {w:World} {o:Oper} {a:Act} {K:Act→World→Prop} {Q:Exit→Act→World→Prop} (s x:Operand) (t tn:TypeId)
  (ho:o.op=.call { callee:=.builtin .append,args:=#[s,x],argTypes:=#[t,tn] })
  {e:TypeId} {k kn:IntKind} {bytes base:Nat} {v:Value} {l:List Int} {m:Int} (E:Elem P t e (.int k 0) 1 bytes) (htn:P.underlying tn=some (.int kn))
  (hown:Own k e base w v l) (hv:a.eval s=v) (hx:a.eval x=.int .i64 m) (hm:0≤m) (hbytes:(l.length+m.toNat)*bytes≤140737488355328) (hbase:base≤w.heap.size) (h0:InK k 0)
  (h:∀ v' w',Own k e base w' v' (l ++ List.replicate m.toNat 0)→Acc v w v' w'→K (a.put o.dst v') w'):o.wp P a w K Q:=by
 obtain ⟨n,rfl⟩:=Int.eq_ofNat_of_zero_le hm
 simp only [Int.toNat_natCast] at hbytes h
 obtain ⟨v',w',hrun,h2,h3⟩:=run_append_zeros (P:=P) (ty:=o.type) E htn hown hbytes hbase h0
 unfold Oper.wp execOp
 simp only [ho,resolve,invoke,builtin,Sem.run_bind,Sem.run_pure,Result.andThen_ok,List.map_toArray,List.map_cons,List.map_nil,hv,hx,hrun]
 exact h v' w' h2 h3
theorem step_append_zeros {w:World} {ops:Array Oper} {o:Oper} {a:Act} {K:Act→World→Prop} {Q:Exit→Act→World→Prop} {E':Prop} (hgd:o.guard=none) (s x:Operand) (t tn:TypeId)
  (ho:o.op=.call { callee:=.builtin .append,args:=#[s,x],argTypes:=#[t,tn] })
  {e:TypeId} {k kn:IntKind} {bytes base:Nat} {v:Value} {l:List Int} {m:Int} (E:Elem P t e (.int k 0) 1 bytes) (htn:P.underlying tn=some (.int kn))
  (hown:Own k e base w v l) (hv:a.eval s=v) (hx:a.eval x=.int .i64 m) (hm:0≤m) (hbytes:(l.length+m.toNat)*bytes≤140737488355328) (hbase:base≤w.heap.size) (h0:InK k 0)
  (h:∀ v' w',Own k e base w' v' (l ++ List.replicate m.toNat 0)→Acc v w v' w'→K (a.put o.dst v') w'):if Region.wanted o (yielded ops a.tmps)=true then Oper.wp P o a w K Q else E':=by
 rw [if_pos (by simp [Region.wanted,hgd])]
 exact wp_append_zeros s x t tn ho E htn hown hv hx hm hbytes hbase h0 h
end
theorem cells8 {Wf:World} {g:Nat} {v0 v1 v2 v3 v4 v5 v6 v7:Value} {t:TypeId} (h:Wf.heap[g]?=some (.cells #[v0,v1,v2,v3,v4,v5,v6,v7] t (0,0))) :
  (Wf.cell? ⟨g,0,none⟩=some v0∧Wf.cell? ⟨g,1,none⟩=some v1∧Wf.cell? ⟨g,2,none⟩=some v2∧Wf.cell? ⟨g,3,none⟩=some v3)∧(Wf.cell? ⟨g,4,none⟩=some v4∧Wf.cell? ⟨g,5,none⟩=some v5∧Wf.cell? ⟨g,6,none⟩=some v6∧Wf.cell? ⟨g,7,none⟩=some v7):=by
 refine ⟨⟨?_,?_,?_,?_⟩,?_,?_,?_,?_⟩ <;> (rw [cell_of_row _ _ _ _ _ _ h];rfl)
theorem mux_good {lo hi:Nat} (c:Cfg) (W H:Int) {v:Value} {l:List Chunk} {w:World} (h:ChunksAt lo hi w v l) (hhi:hi≤w.heap.size) (hm:mayB c=true) (hn:newB W H 0=true) (hc:checkB l=none) :
  Calls Tryz.prog 13 #[c.v,.int .i64 W,.int .i64 H,v] w (MuxP w (muxR c W H l)):=by
 obtain ⟨hne,hck,hro⟩:=checkB_none hc
 have h16:=runsOn_le hck hro (by omega)
 have hle:=flat_le hck
 have hl0:0<l.length:=List.length_pos_iff.2 hne
 have hl16:l.length≤16:=by omega
 have hfirst:=runsOn_first hck hro
 have hckd:∀ k,k<l.length→chunkB (l.getD k default)=true:=fun k hk=>hck _ (by simp [hk])
 have hMUX:muxR c W H l=(match fills c (allSizes l) with | .error e=>.error e | .ok fl=>.ok (muxBytes c W H l fl)):=by
  unfold muxR;rw [if_neg (by simp [hm]),if_neg (by simp [hn]),hc];rfl
 have HC:=lh (fun w' (o:Only [] w w')=>bcheck_any (h.quiet o) (by omega:l.length≤1000000))
 have HH:=lh h
 have HHI:=lh hhi
 obtain ⟨a,cap,rfl,_,_,hel⟩:=h.open
 have HV:=lh (fun w'=>check_any c w')
 have HFILL:=lh (fun (w':World) (lo hi:Nat) (v:Value) (h:Ints .i64 lo hi w' v (allSizes l))=>fills_any c h)
 have HM:=lh hm
 have HMUX:=lh hMUX
 have Hn:=lh hn
 have Hc:=lh hc
 have Hel:=lh hel
 have Hck:=lh hckd
 have Hck2:=lh hck
 have Hfirst:=lh hfirst
 have H16:=lh h16
 have hHEAD:=fun (np:Nat) (a:Option Addr) (cap:Nat) (F:Int) (w':World) (hF0:0≤F) (hF1:F≤255) (hnp:np≤255) (h1:0≤W∧W≤2040) (h2:0≤H∧H≤2040)=>header_any W H F c a np cap (w:=w') hm h1.1 h1.2 h2.1 h2.2 hF0 hF1 hnp
 have hWH:(0≤W∧W≤2040)∧(0≤H∧H≤2040):=by
  simp only [newB,Bool.and_eq_true,sideB,decide_eq_true_eq] at hn
  omega
 have HWH:=lh hWH
 have HHEAD:=lh hHEAD
 rw [if_pos hm] at HV
 simp only [codeV] at HV
 have hMX:=fun fl=>(rfl:muxBytes c W H l fl=muxBytes c W H l fl)
 obtain ⟨a0,a1,a2,a3,a4,a5,a6,a7⟩:=c
 have HO:=lh (Only.new w (.cells #[.int .i64 a0,.int .i64 a1,.int .i64 a2,.int .i64 a3,.int .i64 a4,.int .i64 a5,.int .i64 a6,.int .i64 a7] 39))
 clear h hhi hel hn hc hm hMUX hck hckd hro hfirst h16 hle hne hHEAD hWH hMX
 unfold Cfg.v at HV HFILL ⊢
 unfold infoV at HHEAD
 simp only at HHEAD
 go_enter Tryz.func13,Tryz.ntmps13
 go_wp2_with (first
  | (go_at_call 28;refine (HV.out _).mono ?_;rintro e w1 ⟨rfl,hq1⟩;have Hq1:=lh hq1;clear hq1)
  | (go_at_call 29;refine (pnew_any _ _ _ _).mono ?_;rintro e w2 hP;unfold NewP at hP;rw [Hn.out] at hP;obtain ⟨hq2,fa,fn,fc,rfl⟩:=hP;have Hq2:=lh hq2;clear hq2)
  | (go_at_call 30;refine (HC.out _ (HO.out.q (Hq1.out.q (Hq2.out.q (Only.new _ _))))).mono ?_;rintro e w3 ⟨⟨u,rfl,hu⟩,hq3⟩;rw [Hc.out] at hu;have hu2:u=.nilIface:=hu;subst hu2;have rC:=hq3.rowAt ((Only.new _ _).rowAt (Hq2.out.rowAt (Hq1.out.rowAt (heap_alloc_new w _) (by simp)) (by simp)) (by simp)) (by simp);obtain ⟨⟨m0,m1,m2,m3⟩,m4,m5,m6,m7⟩:=cells8 rC;have RC:=lh rC;have Hq3:=lh hq3;clear hu hq3 rC)
  | fail)
 generalize hW0:World.alloc w3 _=W0
 have rG:W0.heap[w3.heap.size]?=some (.cells #[.int .i64 W,.int .i64 H,.int .i64 0,.int .i64 a0,.int .i64 a1,.int .i64 a2,.int .i64 a3,.int .i64 a4,.int .i64 a5,.int .i64 a6,.int .i64 a7,.slice none 0 0] 42 (0,0)):=by rw [← hW0];exact heap_alloc_new _ _
 have hqN:Only [] w3 W0:=by rw [← hW0];exact Only.new _ _
 have rC0:=hqN.rowAt RC.out (by simp)
 have hO0:Only [] w W0:=HO.out.q (Hq1.out.q (Hq2.out.q (((Only.new _ _).q Hq3.out).q hqN)))
 have hsz0:W0.heap.size=w3.heap.size+1:=by rw [← hW0];simp
 have hsz3:w.heap.size<w3.heap.size:=(Array.getElem?_eq_some_iff.1 RC.out).1
 clear hW0 hqN HC HV m0 m1 m2 m3 m4 m5 m6 m7
 generalize hGg:w3.heap.size=G at *
 clear hGg
 go_loopw [52,15] (fun i y wr=>∃ (k:Nat) (pv:Value),k≤l.length∧i=.int .i64 k∧Own .i64 3 (G+1) wr y (allSizes (l.take k)) ∧
   wr.heap[G]?=some (.cells #[.int .i64 W,.int .i64 H,.int .i64 0,.int .i64 a0,.int .i64 a1,.int .i64 a2,.int .i64 a3,.int .i64 a4,.int .i64 a5,.int .i64 a6,.int .i64 a7,pv] 42 (0,0)) ∧
   wr.heap[w.heap.size]?=some (.cells #[.int .i64 a0,.int .i64 a1,.int .i64 a2,.int .i64 a3,.int .i64 a4,.int .i64 a5,.int .i64 a6,.int .i64 a7] 39 (0,0)) ∧
   OwnE (G+1) wr pv (ents0 (l.take k))∧Sep y pv∧From (G+1) y∧From (G+1) pv∧Only [] w wr) (fun i _ _=>l.length-(intOf i).toNat)
 case atStart=>exact ⟨0,.slice none 0 0,by omega,rfl,Own.nil _ _ _ _,rG,rC0,World.ownsRow_nil _ _ _ _,Sep.nil _,From.nil _,From.nil _,hO0⟩
 case round =>
  clear rG rC0 hO0
  obtain ⟨k,pv,hk,rfl,hown,rG,rC,hoe,hsep,hfy,hfp,hO⟩:=hrel
  have hz:=hO.size
  have hGl:G<wr.heap.size:=(Array.getElem?_eq_some_iff.1 rG).1
  by_cases hlt:k<l.length
  ·obtain ⟨b,off,cv,rfl,_,_,hc0,hc1,hc2,hc3,hok,hcd⟩:=Hel.out k hlt
   have c0:=hO.cell hc0 (by simp)
   have c1:=hO.cell hc1 (by simp)
   have c2:=hO.cell hc2 (by simp)
   have c3:=hO.cell hc3 (by simp)
   have hcd':=hcd.quiet hO
   have hx:(0:Int)≤(k:Int):=by omega
   have hx1:(k:Int)<(l.length:Int):=by omega
   have hgood:=chunkB_parts (Hck.out k hlt)
   have hcl16:(l.getD k default).coded.length≤16:=by have:=hgood.1;omega
   have hdl:∀ i,i<(l.getD k default).coded.length→((l.getD k default).coded.getD i default).data.length≤1000000000000000:=fun i hi=>by have:=(readB_none (hgood.2.2 ((l.getD k default).coded.getD i default) (by generalize (l.getD k default).coded=q at *;simp [hi]))).2.2;omega
   have Hs:=lh (allSizes_take hlt)
   have He:=lh (ents0_take hlt)
   have hsl:(allSizes (l.take k)).length≤16:=by
    have:=(Hfirst.out k hlt).2;have:=H16.out;rw [allSizes_length];omega
   have hel2:(ents0 (l.take k)).length≤16:=by rw [ents0_length,List.length_take];omega
   clear hc0 hc1 hc2 hc3 hcd hgood
   generalize allSizes (l.take k)=S0 at *
   generalize ents0 (l.take k)=E0 at *
   generalize l.getD k default=x at *
   obtain ⟨xn,xf,xc,xl⟩:=x
   simp only at c0 c1 c2 c3 hcd' hcl16 hdl Hs He
   obtain ⟨ca,ccap,rfl,_⟩:=hcd'.open
   obtain ⟨pa,pcap,rfl⟩:=hoe.isSlice
   obtain ⟨ya,ycap,rfl,_⟩:=hown.ints.open
   have HCD:=lh hcd'
   have HOWN:=lh hown
   have HOE:=lh hoe
   have HG:=lh rG
   have HCc:=lh rC
   have HOw:=lh hO
   have HDL:=lh hdl
   clear hcd' hown hoe rG rC hdl hO
   have hyG:(Value.slice ya S0.length ycap).ownBlock≠some G:=fun e=>by have:=hfy _ e;omega
   have hyX:(Value.slice ya S0.length ycap).ownBlock≠some wr.heap.size:=fun e=>by have:=(HOWN.out.at _ e).2;omega
   have hpG:(Value.slice pa E0.length pcap).ownBlock≠some G:=fun e=>by have:=hfp _ e;omega
   have hyC:(Value.slice ya S0.length ycap).ownBlock≠some w.heap.size:=fun e=>by have:=hfy _ e;omega
   have hpC:(Value.slice pa E0.length pcap).ownBlock≠some w.heap.size:=fun e=>by have:=hfp _ e;omega
   have hfpl:∀ g,(Value.slice pa E0.length pcap).ownBlock=some g→g<wr.heap.size:=fun g e=>(HOE.out.lt g e).2
   have HSEP:=lh hsep
   clear hsep
   go_wp2_with (first
    | (go_at_call 31;refine (sizes_any (HCD.out.quiet (Only.new _ _)) (by omega) HDL.out).mono ?_;rintro e w2 ⟨v1,rfl,hown1,hq2⟩;have hq12:Only [] wr w2:=(Only.new _ _).q hq2;have hz2:=hq12.size;have HO1:=lh hown1;have HQ12:=lh hq12;have HX2:=lh (hq2.rowAt (heap_alloc_new _ _) (by simp));have hsz:=hq2.size;have hown0:=HOWN.out.quiet hq12;have hint1:=hown1.ints;clear hown1 hq2 hq12)
    | (at_builtin;refine wpList_append_ints rfl (.tmp 56) (.tmp 59) _ rfl EI hown0 rfl hint1 rfl (by simp [sizesOf];omega) (by omega) (fun v3 w3 hown3 acc3=>?_);have rG3:=acc3.only.rowAt (HQ12.out.rowAt HG.out (by simp)) (fun hg=>hyG (by simpa using hg));have g11:w3.cell? ⟨G,11,none⟩=some (.slice pa E0.length pcap):=(by rw [cell_of_row _ _ _ _ _ _ rG3];rfl);have rX3:=acc3.only.rowAt HX2.out (fun hg=>hyX (by simpa using hg));have x1:w3.cell? ⟨wr.heap.size,1,none⟩=some (.int .i64 xf):=(by rw [cell_of_row _ _ _ _ _ _ rX3];rfl);have x2:w3.cell? ⟨wr.heap.size,2,none⟩=some (.int .i64 xc):=(by rw [cell_of_row _ _ _ _ _ _ rX3];rfl);have HO3:=lh hown3;have HA3:=lh acc3;have HG3:=lh rG3;have hz3:=acc3.only.size;have HC3:=lh (acc3.only.rowAt (HQ12.out.rowAt HCc.out (by simp)) (fun hg=>hyC (by simpa using hg)));have hoe4:=((HOE.out.quiet HQ12.out).only acc3.only (fun g hg hg2=>by have h1:=hfy g (by simpa using hg);exact HSEP.out g (by simpa using hg) hg2)).quiet (Only.new _ (.cells #[.int .i64 xf,.int .i64 xc,.int .i64 0,.int .i64 0] 46));have hsrc:Cells 4 w3.heap.size (w3.heap.size+1) (w3.alloc (.cells #[.int .i64 xf,.int .i64 xc,.int .i64 0,.int .i64 0] 46)) (.slice (some ⟨w3.heap.size,0,none⟩) 1 1) 1 (flatE [⟨xf,xc,0,0⟩]):=cells_newG rfl rfl (by simp [maxLen]) rfl;have hone:=flatE_one [(⟨xf,xc,0,0⟩:Entry)];have h63:E0.length+1≤maxLen:=(by simp only [maxLen];omega);have hby1:(E0.length+1)*32≤140737488355328:=(by omega);have hba1:G+1≤(w3.alloc (.cells #[.int .i64 xf,.int .i64 xc,.int .i64 0,.int .i64 0] 46)).heap.size:=(by simp;omega);clear hown3 acc3 rG3 rX3)
    | (at_builtin;refine wpList_append_cells rfl (.tmp 62) (.tmp 70) 40 rfl EE hoe4 rfl hsrc rfl hone h63 hby1 hba1 (fun v5 w5 h5 ho5 hat5=>?_);obtain ⟨_,a5,cap5,rfl,_⟩:=Cells.of_own h5;have acc5:Acc (.slice pa E0.length pcap) (w3.alloc (.cells #[.int .i64 xf,.int .i64 xc,.int .i64 0,.int .i64 0] 46)) (.slice a5 (E0.length+1) cap5) w5:=⟨ho5,hat5.imp id (fun e g hg=>by rw [e] at hg;injection hg with hg;omega)⟩;have rG5:=acc5.only.rowAt ((Only.new _ _).rowAt HG3.out (by simp)) (fun hg=>hpG (by simpa using hg));have y11:w5.cell? ⟨G,11,none⟩=some (.slice pa E0.length pcap):=(by rw [cell_of_row _ _ _ _ _ _ rG5];rfl);have z11:=frozen_of_row w5 G 11 _ _ rG5;have H5:=lh h5;have ACC5:=lh acc5;have HG5:=lh rG5;have hz5:=acc5.only.size;have HC5:=lh (acc5.only.rowAt ((Only.new _ _).rowAt HC3.out (by simp)) (fun hg=>hpC (by simpa using hg)));clear h5 acc5 rG5 ho5 hat5)
    | fail)
   go_roundw
   case rel =>
    have acc5:=ACC5.out
    have hS:Only [G] w5 (w5.setCell ⟨G,11,none⟩ (.slice a5 (E0.length+1) cap5)):=(Only.refl _ _).setCell (by simp) _
    have s35:Sep v3 (.slice pa E0.length pcap):=HA3.out.sep HSEP.out (fun g e=>by have:=hfpl g e;omega)
    have s5:Sep (.slice a5 (E0.length+1) cap5) v3:=acc5.sep s35.symm (fun g e=>by have:=(HO3.out.at g e).2;simp;omega)
    have f3:From (G+1) v3:=HA3.out.from_ hfy (by omega)
    have f5:From (G+1) (.slice a5 (E0.length+1) cap5):=acc5.from_ hfp (by simp;omega)
    have o3:=(((HO3.out.quiet (Only.new _ _)).acc acc5 s35.symm).only hS (fun g hg e=>by rw [mSg] at hg;subst hg;have:=f3 _ e;omega))
    have e5:OwnE (G+1) w5 (.slice a5 (E0.length+1) cap5) (E0 ++ [⟨xf,xc,0,0⟩]):=by
     unfold OwnE;rw [flatE_append,List.length_append];exact H5.out
    have e6:=e5.only hS (fun g hg e=>by rw [mSg] at hg;subst hg;have:=f5 _ e;omega)
    have oA:Only [] w w5:=((((HOw.out.q HQ12.out).acc HA3.out (fun g hg=>by have:=hfy g hg;omega)).q (Only.new _ _)).acc acc5 (fun g hg=>by have:=hfp g hg;omega))
    have oB:Only [] w (w5.setCell ⟨G,11,none⟩ (.slice a5 (E0.length+1) cap5)):=oA.trans hS (by simp) (fun g hg hlt=>by rw [mSg] at hg;omega)
    exact ⟨k+1,.slice a5 (E0.length+1) cap5,by omega,by go_num,by rw [Hs.out];exact o3,step12_11 HG5.out,hS.rowAt HC5.out (by simp;omega),by rw [He.out];exact e6,s5.symm,f3,f5,oB⟩
   case measure=>simp [intOf];omega
  ·obtain rfl:k=l.length:=by omega
   have hx:¬ (l.length:Int)<(l.length:Int):=by omega
   rw [List.take_length] at hown hoe
   have hsl:(allSizes l).length≤16:=by have:=H16.out;rw [allSizes_length];omega
   have hsl0:1≤(allSizes l).length:=by have:=flat_le Hck2.out;rw [allSizes_length];omega
   obtain ⟨ya,ycap,rfl,_⟩:=hown.ints.open
   obtain ⟨pg,pcap,hpv,hpg1,hpg2⟩:=hoe.form (by rw [ents0_length];exact hl0)
   rw [ents0_length] at hpv
   subst hpv
   have hcells:=cells8 rC
   have hset:∀ u,Only [G] wr (wr.setCell ⟨G,2,none⟩ u):=fun u=>(Only.refl _ _).setCell (by simp) u
   have hCG:w.heap.size∉[G]:=by simp;omega
   have m0:=fun u=>(hset u).cell hcells.1.1 hCG
   have m1:=fun u=>(hset u).cell hcells.1.2.1 hCG
   have m2:=fun u=>(hset u).cell hcells.1.2.2.1 hCG
   have m3:=fun u=>(hset u).cell hcells.1.2.2.2 hCG
   have m4:=fun u=>(hset u).cell hcells.2.1 hCG
   have m5:=fun u=>(hset u).cell hcells.2.2.1 hCG
   have m6:=fun u=>(hset u).cell hcells.2.2.2.1 hCG
   have m7:=fun u=>(hset u).cell hcells.2.2.2.2 hCG
   have g2:wr.cell? ⟨G,2,none⟩=some (.int .i64 0):=by rw [cell_of_row _ _ _ _ _ _ rG];rfl
   have z2:=frozen_of_row wr G 2 _ _ rG
   have HINT:=lh (fun u=>(hown.only (hset u) (fun g hg e=>by rw [mSg] at hg;subst hg;have:=hfy _ e;omega)).ints)
   have HG1:=lh (fun u=>step12_2 (v2:=u) rG)
   have HSET:=lh hset
   have HOE:=lh hoe
   have HOw:=lh hO
   have hnb:((allSizes l).length:Int)≤16:=by omega
   clear hown rG rC hcells hset hoe hsep hO hfy hfp
   cases hfl:fills ⟨a0,a1,a2,a3,a4,a5,a6,a7⟩ (allSizes l) with
   | error er =>
    have Hfin:=lh (HMUX.out.trans (by rw [hfl]))
    have Hfl:=lh hfl
    clear hfl
    go_wp2_with (first
     | (go_at_call 32;refine (HFILL.out _ _ _ _ (HINT.out _)).mono ?_;rintro e w2 hP;unfold ListOr at hP;rw [Hfl.out] at hP;obtain ⟨hq2,ev,rfl,hev⟩:=hP;obtain ⟨et,eu,rfl⟩:=id hev.held)
     | fail)
    go_ret2
    rw [Hfin.out]
    have oA:Only [] w w2:=(HOw.out.trans (HSET.out _) (by simp) (fun g hg hlt=>by rw [mSg] at hg;omega)).q hq2
    exact ⟨oA,_,rfl,hev.mono (by have:=(HSET.out (.int .i64 (allSizes l).length)).size;omega) (Nat.le_refl _)⟩
   | ok fl =>
    have Hfin:=lh (HMUX.out.trans (by rw [hfl]))
    have Hfl:=lh hfl
    clear hfl
    go_wp2_with (first
     | (go_at_call 32;refine (HFILL.out _ _ _ _ (HINT.out _)).mono ?_;rintro e w2 hP;unfold ListOr at hP;rw [Hfl.out] at hP;obtain ⟨hq2,fv,rfl,hfo⟩:=hP;have rG2:=hq2.rowAt (HG1.out _) (by simp);obtain ⟨⟨n0,n1,n2,n3,n4,n5⟩,⟨n6,n7,n8,n9,n10,n11⟩⟩:=cells12 rG2;have HG2:=lh rG2;have HQ2:=lh hq2;have HFO:=lh hfo;clear rG2 hq2 hfo)
     | (go_at_call 34;refine (HHEAD.out l.length (some ⟨pg,0,none⟩) pcap _ _ (by omega) (by omega) (by omega) HWH.out.1 HWH.out.2).mono ?_;rintro e w3 ⟨hv,rfl,hown3,hq3⟩;have HO3:=lh hown3;have HQ3:=lh hq3;have hint3:=hown3.ints;clear hown3 hq3)
     | (go_at_call 33;refine (add_any (base:=w3.heap.size) 16 (Own.nil _ _ _ _) (Nat.le_refl _) hint3 (From.nil _) (by omega) (by rw [headerB_length];omega) (by simp)).mono ?_;rintro e w4 ⟨bv,rfl,hownb,hacc4⟩;have HOB:=lh hownb;have HA4:=lh hacc4;clear hownb hacc4)
     | fail)
    have hfok:=fills_flok HM.out (fun n hn=>by rw [allSizes_eq,List.mem_map] at hn;obtain ⟨x,_,rfl⟩:=hn;unfold costOf;omega) Hfl.out
    obtain ⟨hfll,hflok⟩:=hfok
    have HFlok:=lh hflok
    generalize hU:wr.setCell ⟨G,2,none⟩ (.int .i64 (allSizes l).length)=U at *
    have HSU:Only [G] wr U:=by rw [← hU];exact HSET.out _
    have hq34:Only [] w3 w4:=HA4.out.from_nil rfl
    have hq24:Only [] w2 w4:=HQ3.out.q hq34
    have hqU4:Only [] U w4:=HQ2.out.q hq24
    have rG4:=hq24.rowAt HG2.out (by simp)
    have oe4:=(HOE.out.only HSU (fun g hg e=>by rw [mSg] at hg;subst hg;simp [Value.ownBlock] at e;omega)).quiet hqU4
    have fo4:=HFO.out.quiet hq24
    have ob4:=HOB.out
    have oA4:Only [] w w4:=(HOw.out.trans HSU (by simp) (fun g hg hlt=>by rw [mSg] at hg;omega)).q hqU4
    have fb4:From w3.heap.size bv:=HA4.out.from_ (From.nil _) (Nat.le_refl _)
    have hzU:wr.heap.size≤U.heap.size:=HSU.size
    have hz2:U.heap.size≤w2.heap.size:=HQ2.out.size
    have hz3:w2.heap.size≤w3.heap.size:=HQ3.out.size
    have hz4:w3.heap.size≤w4.heap.size:=hq34.size
    have hfvb:∀ g,fv.ownBlock=some g→g<w3.heap.size:=fun g e=>by have:=(HFO.out.at g e).2;omega
    have hhl:(unitB 16 (headerB W H (allSizes l).length l.length ⟨a0,a1,a2,a3,a4,a5,a6,a7⟩)).length=30:=by rw [unitB_length,headerB_length]
    rw [List.nil_append] at ob4
    have hmb:muxBytes ⟨a0,a1,a2,a3,a4,a5,a6,a7⟩ W H l fl=(unitB 16 (headerB W H (allSizes l).length l.length ⟨a0,a1,a2,a3,a4,a5,a6,a7⟩) ++ (muxP fl 0 30 l).1 ++ unitB 18 (indexB (muxP fl 0 30 l).2)) ++ unitB 19 (tailB (unitB 16 (headerB W H (allSizes l).length l.length ⟨a0,a1,a2,a3,a4,a5,a6,a7⟩) ++ (muxP fl 0 30 l).1 ++ unitB 18 (indexB (muxP fl 0 30 l).2)) (unitB 16 (headerB W H (allSizes l).length l.length ⟨a0,a1,a2,a3,a4,a5,a6,a7⟩) ++ (muxP fl 0 30 l).1).length):=by
     unfold muxBytes;simp only [hhl]
    have Hmb:=lh hmb
    have hPle:=fun k=>muxP_le hflok (l.take k) 0 30 (fun x hx=>Hck2.out x (List.mem_of_mem_take hx))
    have HPle:=lh hPle
    generalize hHD:unitB 16 (headerB W H (allSizes l).length l.length ⟨a0,a1,a2,a3,a4,a5,a6,a7⟩)=HD at *
    obtain ⟨fb,fcap,hfve,hfb1,hfb2⟩:=fo4.form (by omega)
    subst hfve
    have HFLL:=lh hfll
    clear hfll
    generalize hB:w3.heap.size=B at *
    have hpgB:pg<B:=by omega
    have hGB:G<B:=by omega
    clear hU hHD hmb hPle HFO HOB HA4 HG2 HQ2 HQ3 HOE HSET HG1 HINT HFILL HHEAD HWH HM HSU hq34 hq24 hqU4 hB hflok m0 m1 m2 m3 m4 m5 m6 m7 g2 z2 Hfl HOw
    go_loopw [91,20] (fun i y wt=>∃ (k:Nat),k≤l.length∧i=.int .i64 k∧Own .u8 5 B wt y (HD ++ (muxP fl 0 30 (l.take k)).1) ∧
      wt.heap[G]?=some (.cells #[.int .i64 W,.int .i64 H,.int .i64 (allSizes l).length,.int .i64 a0,.int .i64 a1,.int .i64 a2,.int .i64 a3,.int .i64 a4,.int .i64 a5,.int .i64 a6,.int .i64 a7,.slice (some ⟨pg,0,none⟩) l.length pcap] 42 (0,0)) ∧
      OwnE (G+1) wt (.slice (some ⟨pg,0,none⟩) l.length pcap) (entsAt fl 30 l k)∧Own .i64 3 U.heap.size wt (.slice (some ⟨fb,0,none⟩) fl.length fcap) fl∧From B y∧B≤wt.heap.size∧Only [] w wt) (fun i _ _=>l.length-(intOf i).toNat)
    case atStart=>exact ⟨0,by omega,rfl,by simpa [muxP] using ob4,rG4,by rw [entsAt_zero];exact oe4,fo4,fb4,hz4,oA4⟩
    case round =>
     clear ob4 rG4 oe4 fo4 fb4 oA4
     obtain ⟨k,hk,rfl,hown,rG,hoe,hof,hfy,hBz,hO⟩:=hrel
     have hz:=hO.size
     by_cases hlt:k<l.length
     ·obtain ⟨b,off,cv,rfl,_,_,hc0,hc1,hc2,hc3,hok,hcd⟩:=Hel.out k hlt
      have c0:=hO.cell hc0 (by simp)
      have c1:=hO.cell hc1 (by simp)
      have c2:=hO.cell hc2 (by simp)
      have c3:=hO.cell hc3 (by simp)
      have hcd':=hcd.quiet hO
      have hx:(0:Int)≤(k:Int):=by omega
      have hx1:(k:Int)<(l.length:Int):=by omega
      have hgood:=chunkB_parts (Hck.out k hlt)
      have hF:=Hfirst.out k hlt
      have HBs:=lh (bytes_succ (fl:=fl) (off:=30) hlt)
      have HEs:=lh (entsAt_succ (fl:=fl) (off:=30) hlt)
      have heg:=entsAt_getD (fl:=fl) (off:=30) hlt
      have hE:=entsAt_length (fl:=fl) (off:=30) hk
      have hPl:(muxP fl 0 30 (l.take k)).1.length≤24000000:=by have:=HPle.out k;rw [List.length_take] at this;omega
      have hfr:(l.getD k default).first.toNat+(l.getD k default).coded.length≤fl.length:=by rw [HFLL.out,allSizes_length];have:=hF.2;omega
      clear hc0 hc1 hc2 hc3 hcd hok hF
      generalize (muxP fl 0 30 (l.take k)).1=P at *
      generalize entsAt fl 30 l k=E at *
      generalize l.getD k default=x at *
      obtain ⟨xn,xf,xc,xl⟩:=x
      simp only at c0 c1 c2 c3 hcd' hgood heg hfr HBs HEs
      obtain ⟨ca,ccap,rfl,hcc1,hcc2,hcel⟩:=hcd'.open
      obtain ⟨ya,ycap,hyv,_⟩:=hown.ints.open
      rw [List.length_append,hhl] at hyv
      subst hyv
      have hyl:∀ g,(Value.slice ya (30+P.length) ycap).ownBlock=some g→g<wr.heap.size:=fun g e=>(hown.at g e).2
      have hfbB:fb<B:=hfvb fb rfl
      obtain ⟨⟨xf0,xf1,xc1,xc2,xlc⟩,hfk,hrd⟩:=hgood
      have hkE:k<E.length:=by omega
      have e0:wr.cell? ⟨pg,k*4,none⟩=some (.int .i64 xf):=by have:=hoe.cell hkE (j:=0) (by omega);rw [entryF,heg] at this;exact this
      have e1:wr.cell? ⟨pg,k*4+1,none⟩=some (.int .i64 xc):=by have:=hoe.cell hkE (j:=1) (by omega);rw [entryF,heg] at this;exact this
      have e2:wr.cell? ⟨pg,k*4+2,none⟩=some (.int .i64 0):=by have:=hoe.cell hkE (j:=2) (by omega);rw [entryF,heg] at this;exact this
      have g11:wr.cell? ⟨G,11,none⟩=some (.slice (some ⟨pg,0,none⟩) l.length pcap):=by rw [cell_of_row _ _ _ _ _ _ rG];rfl
      have z0:=hoe.frozen (k*4+2)
      have hnew:=fun o=>Only.new wr o
      have pgl:pg<wr.heap.size:=(hoe.lt pg rfl).2
      have E2:=fun o=>(hnew o).cell e2 (by simp)
      have Z2:=fun (o:Obj)=>show (wr.alloc o).frozen? ⟨pg,k*4+2,none⟩=false from ((OwnE.quiet hoe (hnew o)).frozen (k*4+2))
      have G11:=fun o=>(hnew o).cell g11 (by simp)
      clear n0 n1 n2 n3 n4 n5 n6 n7 n8 n9 n10 n11
      have HOE:=lh hoe
      have HOF:=lh hof
      have HOWN:=lh hown
      have HG:=lh rG
      have HOw:=lh hO
      have HCD:=lh hcd'
      have HCel:=lh hcel
      have HFY:=lh hfy
      have HEG:=lh heg
      clear hoe hof hown rG hO hcd' hcel hfy heg
      go_wp2_with fail
      generalize hW1:World.alloc _ _=W1
      have hS1:Only [pg] wr (wr.setCell ⟨pg,k*4+2,none⟩ (.int .i64 (30+P.length))):=(Only.refl _ _).setCell (by simp) _
      have hA1:Only [] (wr.setCell ⟨pg,k*4+2,none⟩ (.int .i64 (30+P.length))) W1:=by rw [← hW1];exact Only.new _ _
      have rX1:W1.heap[wr.heap.size]?=some (.cells #[.int .i64 xn,.int .i64 xf,.int .i64 xc,.slice ca xl.length ccap] 92 (0,0)):=by rw [← hW1];exact heap_alloc_new' (by simp)
      have hs1:W1.heap.size=wr.heap.size+1:=by rw [← hW1];simp
      have hpgE:(k:Nat)<E.length:=hkE
      have oe1:OwnE (G+1) W1 (.slice (some ⟨pg,0,none⟩) l.length pcap) (E.set k ⟨xf,xc,30+P.length,0⟩):=by
       refine (HOE.out.setAt (i:=k*4+2) (by simp) ?_).quiet hA1
       have:=flatE_set2 (30+P.length) E k hkE
       rw [HEG.out] at this
       exact this
      have rG1:=hA1.rowAt (hS1.rowAt HG.out (by simp;omega)) (by simp)
      have of1:=(HOF.out.only hS1 (fun g hg e=>by rw [mSg] at hg;subst hg;have:=(HOF.out.at _ e).1;omega)).quiet hA1
      have own1:=(HOWN.out.only hS1 (fun g hg e=>by rw [mSg] at hg;subst hg;have:=(HOWN.out.at _ e).1;omega)).quiet hA1
      have oA1:Only [] w W1:=(HOw.out.trans hS1 (by simp) (fun g hg hlt=>by rw [mSg] at hg;omega)).q hA1
      have hg1:(E.set k ⟨xf,xc,30+P.length,0⟩).getD k default=⟨xf,xc,30+P.length,0⟩:=by simp [hkE]
      have hk1:k<(E.set k ⟨xf,xc,30+P.length,0⟩).length:=by simpa using hkE
      have d0:W1.cell? ⟨pg,k*4,none⟩=some (.int .i64 xf):=by have:=oe1.cell hk1 (j:=0) (by omega);rw [entryF,hg1] at this;exact this
      have d1:W1.cell? ⟨pg,k*4+1,none⟩=some (.int .i64 xc):=by have:=oe1.cell hk1 (j:=1) (by omega);rw [entryF,hg1] at this;exact this
      have hcd1:=(HCD.out.only hS1 (fun g hg=>by rw [mSg] at hg;subst hg;have:=HHI.out;omega)).quiet hA1
      clear hW1 hA1 hS1 e0 e1 e2 g11 z0 hnew E2 Z2 G11 HOE HOF HOWN HG HOw HCD HCel hcc1 hcc2
      have hw0:IntKind.u8.wrap (k:Int)=(k:Int) % 256:=by simp [IntKind.wrap,IntKind.bits,IntKind.signed]
      have hw1:IntKind.u8.wrap xf=xf % 256:=by simp [IntKind.wrap,IntKind.bits,IntKind.signed]
      have hw2:IntKind.u8.wrap xc=xc % 256:=by simp [IntKind.wrap,IntKind.bits,IntKind.signed]
      have HOE:=lh oe1
      have HOF:=lh of1
      have HOWN:=lh own1
      have HG:=lh rG1
      have HX:=lh rX1
      have HOw:=lh oA1
      have HCD:=lh hcd1
      clear oe1 of1 own1 rG1 rX1 oA1 hcd1 hg1 hk1 hpgE
      have hownD:=HOWN.out.quiet (Only.new W1 (.cells #[.int .u8 ((k:Int) % 256),.int .u8 (xf % 256),.int .u8 (xc % 256)] 5)).drew
      have hbD:B≤(W1.alloc (.cells #[.int .u8 ((k:Int) % 256),.int .u8 (xf % 256),.int .u8 (xc % 256)] 5)).drew.heap.size:=by simp;omega
      have hsrc:Ints .u8 (wr.heap.size+1) (wr.heap.size+1+1) (W1.alloc (.cells #[.int .u8 ((k:Int) % 256),.int .u8 (xf % 256),.int .u8 (xc % 256)] 5)).drew (.slice (some ⟨wr.heap.size+1,0,none⟩) 3 3) [(k:Int) % 256,xf % 256,xc % 256] :=
       (ints_newG rfl (by simp [maxLen]) (by simp only [List.mem_cons,List.not_mem_nil,or_false,forall_eq_or_imp,forall_eq,InK];omega) 3 rfl hs1:Ints .u8 (wr.heap.size+1) (wr.heap.size+1+1) (W1.alloc (.cells #[.int .u8 ((k:Int) % 256),.int .u8 (xf % 256),.int .u8 (xc % 256)] 5)) (.slice (some ⟨wr.heap.size+1,0,none⟩) 3 3) [(k:Int) % 256,xf % 256,xc % 256])
      have HQD:Hid (Only [] W1 (W1.alloc (.cells #[.int .u8 ((k:Int) % 256),.int .u8 (xf % 256),.int .u8 (xc % 256)] 5)).drew):=lh (Only.new _ _).drew
      have hap:(Value.slice ya (30+P.length) ycap).ownBlock≠some pg:=fun e=>by have:=HFY.out _ e;omega
      have hpl30:(HD ++ P).length≤100000000:=by rw [List.length_append];omega
      go_region_held3 (fun w'=>w'.cell? ⟨pg,k*4,none⟩=some (.int .i64 xf)∧w'.cell? ⟨pg,k*4+1,none⟩=some (.int .i64 xc))
       (first | (go_split_ands;refine ⟨HA3.out.keep (by assumption) hap,HA3.out.keep (by assumption) hap⟩) | (simp [*,World.cell?_alloc_some,World.cell?_setCell_far,frozen?_alloc_cells,frozen_drew,World.frozen?_setCell]) | fail)
       (first
        | (go_at_call 33;refine (add_any (base:=B) 17 hownD hbD hsrc HFY.out (by omega) (by simp) hpl30).mono ?_;rintro e w3 ⟨v3,rfl,hown3,hacc3⟩;have HO3:=lh hown3;have HA3:=lh hacc3;have rX3:=hacc3.only.rowAt (HQD.out.rowAt HX.out (by simp)) (fun hg=>by have:=hyl _ (by simpa using hg);omega);have x3:w3.cell? ⟨wr.heap.size,3,none⟩=some (.slice ca xl.length ccap):=(by rw [cell_of_row _ _ _ _ _ _ rX3];rfl);clear hown3 hacc3 rX3)
        | fail)
      go_wp2_with fail
      have hAc:Acc (.slice ya (30+P.length) ycap) W1 v3 w3:=(Acc.quiet HQD.out).trans HA3.out
      have hyB:∀ g∈(Value.slice ya (30+P.length) ycap).ownBlock.toList,B≤g:=fun g hg=>HFY.out g (by simpa using hg)
      have HOE3:=lh (HOE.out.only hAc.only (fun g hg e=>by have:=hyB g hg;simp [Value.ownBlock] at e;omega))
      have HOF3:=lh (HOF.out.only hAc.only (fun g hg e=>by have:=hyB g hg;simp [Value.ownBlock] at e;omega))
      have HG3:=lh (hAc.only.rowAt HG.out (fun hg=>by have:=hyB _ hg;omega))
      have HCD3:=lh (HCD.out.only hAc.only (fun g hg=>by have:=hyB g hg;have:=HHI.out;omega))
      have HOw3:=lh (HOw.out.acc hAc (HFY.out.mono (by omega)))
      have hfv3:From B v3:=hAc.from_ HFY.out (by omega)
      have hz13:=hAc.only.size
      obtain ⟨ca2,ccap2,hcae,_,_,hcel⟩:=HCD3.out.open
      cases hcae
      have HCel:=lh hcel
      have own3:=HO3.out
      clear HOE HOF HG HCD HOw HQD HX hAc hownD hbD hsrc hpl30 d0 d1 hcel HOWN HO3
      go_loopw [123,20] (fun i y2 wi=>∃ (f:Nat),f≤xl.length∧i=.int .i64 f∧Own .u8 5 B wi y2 (HD ++ P ++ unitB 17 [(k:Int) % 256,xf % 256,xc % 256] ++ muxF fl xf.toNat 0 (xl.take f))∧From B y2∧Acc v3 w3 y2 wi) (fun i _ _=>xl.length-(intOf i).toNat)
      case atStart=>exact ⟨0,by omega,rfl,by simpa [muxF] using own3,hfv3,Acc.refl _ _⟩
      case round =>
       clear own3
       obtain ⟨f,hf,rfl,hownI,hfi,hacI⟩:=hrel
       have hzI:=hacI.only.size
       have hvB:∀ g∈v3.ownBlock.toList,B≤g:=fun g hg=>hfv3 g (by simpa using hg)
       by_cases hltf:f<xl.length
       ·obtain ⟨cb,coff,dv,hcae,_,hcb2,hk1,hk2,hkk,hdd⟩:=HCel.out f hltf
        have hcb3:cb<B:=by have:=HHI.out;omega
        have k1:=hacI.cell hfv3 hk1 hcb3
        have k2:=hacI.cell hfv3 hk2 hcb3
        have hdI:=hdd.only hacI.only (fun g hg=>by have:=hvB g hg;have:=HHI.out;omega)
        have hrb:=readB_none (hrd (xl.getD f default) (by simp [hltf]))
        have HFs:=lh (coded_take hltf)
        have hcol:(muxF fl xf.toNat 0 (xl.take f)).length≤1440000:=by
         have:=muxF_le HFlok.out (first:=xf.toNat) (xl.take f) 0 (fun c hc=>(readB_none (hrd c (List.mem_of_mem_take hc))).2.2)
         rw [List.length_take] at this;omega
        have hfx:(0:Int)≤(f:Int):=by omega
        have hfx1:(f:Int)<(xl.length:Int):=by omega
        clear hk1 hk2 hdd hkk
        subst hcae
        generalize xl.getD f default=q at *
        obtain ⟨qk,qd⟩:=q
        simp only at k1 k2 hdI hrb
        obtain ⟨da,dcap,rfl,_⟩:=hdI.open
        obtain ⟨y2a,y2cap,hy2,_⟩:=hownI.ints.open
        generalize hQ:HD ++ P ++ unitB 17 [(k:Int) % 256,xf % 256,xc % 256] ++ muxF fl xf.toNat 0 (xl.take f)=Q at *
        have hQl:Q.length≤30000000:=by rw [← hQ];simp only [List.length_append,unitB_length,List.length_cons,List.length_nil,hhl];omega
        subst hy2
        have HDI:=lh hdI
        have HOI:=lh hownI
        have HQ:=lh hQ
        obtain ⟨XF,rfl⟩:=Int.eq_ofNat_of_zero_le xf0
        have hfn:XF+f<fl.length:=by omega
        have hfz:=HFlok.out.at (XF+f)
        have s0:wr.cell? ⟨pg,k*4,none⟩=some (.int .i64 XF):=by
         have hg1:(E.set k ⟨XF,xc,30+P.length,0⟩).getD k default=⟨XF,xc,30+P.length,0⟩:=by simp [hkE]
         have:=HOE3.out.cell (i:=k) (by simpa using hkE) (j:=0) (by omega);rw [entryF,hg1] at this;exact hacI.cell hfv3 this hpgB
        have s1:wr.cell? ⟨fb,XF+f,none⟩=some (.int .i64 (fl.getD (XF+f) 0)):=hacI.cell hfv3 (HOF3.out.cell hfn) hfbB
        generalize hzz:fl.getD (XF+f) 0=z at *
        have HZ:=lh hzz
        clear hzz
        have hyl2:∀ g,(Value.slice y2a Q.length y2cap).ownBlock=some g→g<wr.heap.size:=fun g e=>(hownI.at g e).2
        clear hdI hownI hQ hcol
        go_wp2_with fail
        generalize hW5:World.alloc wr _=W5
        have hA5:Only [] wr W5:=by rw [← hW5];exact Only.new _ _
        have rZ:W5.heap[wr.heap.size]?=some (.cells #[.int .i64 qk,.slice da qd.length dcap] 83 (0,0)):=by rw [← hW5];exact heap_alloc_new _ _
        have hs5:W5.heap.size=wr.heap.size+1:=by rw [← hW5];simp
        have t0:W5.cell? ⟨wr.heap.size,0,none⟩=some (.int .i64 qk):=by rw [cell_of_row _ _ _ _ _ _ rZ];rfl
        have t1:W5.cell? ⟨wr.heap.size,1,none⟩=some (.slice da qd.length dcap):=by rw [cell_of_row _ _ _ _ _ _ rZ];rfl
        have t2:=hA5.cell s0 (by simp)
        have t3:=hA5.cell s1 (by simp)
        have hownD:=(HOI.out.quiet hA5).quiet (Only.refl [] W5).drew
        have hdD:=(HDI.out.quiet hA5).quiet (Only.refl [] W5).drew
        have hbD:B≤W5.drew.heap.size:=by simp;omega
        have HA5:=lh hA5
        have a0':(Value.slice y2a Q.length y2cap).ownBlock≠some wr.heap.size:=fun e=>by have:=hyl2 _ e;omega
        have a1':(Value.slice y2a Q.length y2cap).ownBlock≠some pg:=fun e=>by have:=hfi _ e;omega
        have a2':(Value.slice y2a Q.length y2cap).ownBlock≠some fb:=fun e=>by have:=hfi _ e;omega
        have hzD:W5.drew.heap.size=wr.heap.size+1:=hs5
        have hpgl:pg<W5.drew.heap.size:=by omega
        have hfbl:fb<W5.drew.heap.size:=by omega
        have hwa:IntKind.i64.wrap ((XF:Int)+(f:Int))=(XF:Int)+(f:Int):=by rw [IntKind.wrap_i64];omega
        have hwa0:(0:Int)≤(XF:Int)+(f:Int):=by omega
        have hwa1:(XF:Int)+(f:Int)<(fl.length:Int):=by omega
        have hwa2:((XF:Int)+(f:Int)).toNat=XF+f:=by omega
        clear hW5 rZ s0 s1 k1 k2 hA5
        go_region_held3 (fun w'=>w'.cell? ⟨wr.heap.size,0,none⟩=some (.int .i64 qk)∧w'.cell? ⟨wr.heap.size,1,none⟩=some (.slice da qd.length dcap)∧w'.cell? ⟨pg,k*4,none⟩=some (.int .i64 XF)∧w'.cell? ⟨fb,XF+f,none⟩=some (.int .i64 z))
         (first
          | (go_split_ands;refine ⟨hacc7.keep (by assumption) b0',hacc7.keep (by assumption) b0',hacc7.keep (by assumption) b1',hacc7.keep (by assumption) b2'⟩)
          | (go_split_ands;refine ⟨hacc6.keep (by assumption) a0',hacc6.keep (by assumption) a0',hacc6.keep (by assumption) a1',hacc6.keep (by assumption) a2'⟩)
          | (simp [*,World.cell?_alloc_some,World.cell?_setCell_far,frozen?_alloc_cells,frozen_drew,World.frozen?_setCell])
          | fail)
         (first
          | (go_at_call 33;refine (add_any (base:=B) qk hownD hbD hdD hfi ⟨by omega,by omega⟩ (by omega) (by omega)).mono ?_;rintro e w6 ⟨v6,rfl,hown6,hacc6⟩;have b0':=hacc6.apart a0' (by omega);have b1':=hacc6.apart a1' hpgl;have b2':=hacc6.apart a2' hfbl;have hz6:=hacc6.only.size;have hby:((Q ++ unitB qk qd).length+z.toNat)*1≤140737488355328:=(by rw [List.length_append,unitB_length];omega);have hba6:B≤w6.heap.size:=(by omega))
          | (refine step_append_zeros rfl (.tmp 133) (.tmp 142) 22 3 rfl E8 Tryz.underlying3 hown6 rfl rfl hfz.1 hby hba6 ⟨by omega,by omega⟩ (fun v7 w7 hown7 hacc7=>?_))
          | fail)
        go_wp2_with fail
        go_roundw
        case rel =>
         have hlist:HD ++ P ++ unitB 17 [(k:Int) % 256,(XF:Int) % 256,xc % 256] ++ muxF fl (XF:Int).toNat 0 (xl.take (f+1))=Q ++ unitB qk qd ++ List.replicate z.toNat 0:=by
          rw [HFs.out,muxF_snoc,← HQ.out,List.length_take,show (XF:Int).toNat+(0+min f xl.length)=XF+f by omega,HZ.out]
          simp only [List.append_assoc]
         exact ⟨f+1,by omega,by go_num,by rw [hlist];exact hown7,hacc7.from_ (hacc6.from_ hfi (by omega)) hba6,((hacI.then HA5.out).then (Only.refl [] W5).drew).trans (hacc6.trans hacc7)⟩
        case measure=>simp [intOf];omega
       ·obtain rfl:f=xl.length:=by omega
        have hxx:¬ (xl.length:Int)<(xl.length:Int):=by omega
        rw [List.take_length] at hownI
        have hcol:=muxF_le HFlok.out (first:=xf.toNat) xl 0 (fun c hc=>(readB_none (hrd c hc)).2.2)
        have hlist:HD ++ P ++ unitB 17 [(k:Int) % 256,xf % 256,xc % 256] ++ muxF fl xf.toNat 0 xl=HD ++ (P ++ chunkBytes fl k ⟨xn,xf,xc,xl⟩):=by simp only [chunkBytes,List.append_assoc]
        rw [hlist] at hownI
        have hQl0:(HD ++ (P ++ chunkBytes fl k ⟨xn,xf,xc,xl⟩)).length=30+P.length+(chunkBytes fl k ⟨xn,xf,xc,xl⟩).length:=by simp only [List.length_append,hhl];omega
        have hcb:(chunkBytes fl k ⟨xn,xf,xc,xl⟩).length≤2000000:=by
         simp only [chunkBytes,List.length_append,unitB_length,List.length_cons,List.length_nil];omega
        have HEs2:=lh HEs.out
        have HBs2:=lh HBs.out
        generalize chunkBytes fl k ⟨xn,xf,xc,xl⟩=CB at *
        obtain ⟨y2a,y2cap,hy2,_⟩:=hownI.ints.open
        rw [hQl0] at hy2
        subst hy2
        have hg1:(E.set k ⟨xf,xc,30+P.length,0⟩).getD k default=⟨xf,xc,30+P.length,0⟩:=by simp [hkE]
        have hk1:k<(E.set k ⟨xf,xc,30+P.length,0⟩).length:=by simpa using hkE
        have s2:wr.cell? ⟨pg,k*4+2,none⟩=some (.int .i64 (30+P.length)):=by
         have:=HOE3.out.cell hk1 (j:=2) (by omega);rw [entryF,hg1] at this;exact hacI.cell hfv3 this hpgB
        have s3:wr.cell? ⟨pg,k*4+3,none⟩=some (.int .i64 0):=by
         have:=HOE3.out.cell hk1 (j:=3) (by omega);rw [entryF,hg1] at this;exact hacI.cell hfv3 this hpgB
        have oeI:=HOE3.out.only hacI.only (fun g hg e=>by have:=hvB g hg;simp [Value.ownBlock] at e;omega)
        have sz:=oeI.frozen (k*4+3)
        have hwb:IntKind.i64.wrap ((30:Int)+P.length+CB.length-(30+P.length))=CB.length:=by rw [IntKind.wrap_i64];omega
        have HOEI:=lh oeI
        have HOI:=lh hownI
        have HAI:=lh hacI
        clear oeI hownI hacI hlist hcol hg1 hk1
        go_wp2_with fail
        go_roundw
        case rel =>
         have hS:Only [pg] wr (wr.setCell ⟨pg,k*4+3,none⟩ (.int .i64 CB.length)):=(Only.refl _ _).setCell (by simp) _
         have fI:From B (.slice y2a (30+P.length+CB.length) y2cap):=HAI.out.from_ hfv3 (by omega)
         have o1:=HOI.out.only hS (fun g hg e=>by rw [mSg] at hg;subst hg;have:=fI _ e;omega)
         have e1:OwnE (G+1) (wr.setCell ⟨pg,k*4+3,none⟩ (.int .i64 CB.length)) (.slice (some ⟨pg,0,none⟩) l.length pcap) ((E.set k ⟨xf,xc,30+P.length,0⟩).set k ⟨xf,xc,30+P.length,CB.length⟩):=by
          refine HOEI.out.setAt (i:=k*4+3) (by simp) ?_
          have:=flatE_set3 CB.length (E.set k ⟨xf,xc,30+P.length,0⟩) k (by simpa using hkE)
          rw [show (E.set k ⟨xf,xc,30+P.length,0⟩).getD k default=⟨xf,xc,30+P.length,0⟩ by simp [hkE]] at this
          exact this
         rw [List.set_set] at e1
         have hHEs:=HEs2.out
         push_cast at hHEs
         rw [← hHEs] at e1
         have f1:=(HOF3.out.only HAI.out.only (fun g hg e=>by have:=hvB g hg;simp [Value.ownBlock] at e;omega)).only hS (fun g hg e=>by rw [mSg] at hg;subst hg;simp [Value.ownBlock] at e;omega)
         exact ⟨k+1,by omega,by go_num,by rw [HBs2.out];exact o1,hS.rowAt (HAI.out.only.rowAt HG3.out (fun hg=>by have:=hvB _ hg;omega)) (by simp;omega),e1,f1,fI,by simp;omega,(HOw3.out.acc HAI.out (hfv3.mono (by omega))).trans hS (by simp) (fun g hg hlt=>by rw [mSg] at hg;omega)⟩
        case measure=>simp [intOf];omega
     ·obtain rfl:k=l.length:=by omega
      have hx:¬ (l.length:Int)<(l.length:Int):=by omega
      have hPl:=HPle.out l.length
      rw [List.take_length] at hown hPl
      rw [entsAt_end] at hoe
      have hEl:(muxP fl 0 30 l).2.length=l.length:=muxP_length _ _ _
      have hix:(indexB (muxP fl 0 30 l).2).length≤65536:=by rw [indexB_length,hEl];omega
      have hEl2:(muxP fl 0 30 l).2.length≤1000000:=by omega
      have hfin2:muxR ⟨a0,a1,a2,a3,a4,a5,a6,a7⟩ W H l=.ok ((HD ++ (muxP fl 0 30 l).1 ++ unitB 18 (indexB (muxP fl 0 30 l).2)) ++ unitB 19 (tailB (HD ++ (muxP fl 0 30 l).1 ++ unitB 18 (indexB (muxP fl 0 30 l).2)) (30+(muxP fl 0 30 l).1.length))):=by
       rw [Hfin.out]
       show Except.ok (muxBytes ⟨a0,a1,a2,a3,a4,a5,a6,a7⟩ W H l fl)=_
       rw [Hmb.out]
       rw [List.length_append,hhl]
       push_cast
       rfl
      have Hfin2:=lh hfin2
      have HEl:=lh hEl
      clear Hfin Hmb hfin2 hEl HPle
      generalize (muxP fl 0 30 l).1=P at *
      generalize (muxP fl 0 30 l).2=E at *
      obtain ⟨ya,ycap,hyv,_⟩:=hown.ints.open
      rw [List.length_append,hhl] at hyv
      subst hyv
      have hents:=OwnE.entries hoe
      have g11:wr.cell? ⟨G,11,none⟩=some (.slice (some ⟨pg,0,none⟩) l.length pcap):=by rw [cell_of_row _ _ _ _ _ _ rG];rfl
      have HIX:=lh (index_any hents hEl2)
      have HOWN:=lh hown
      have HOw:=lh hO
      have HFY:=lh hfy
      have hpl:(HD ++ P).length≤100000000:=by rw [List.length_append];omega
      clear hoe hents hown hO hof hfy n0 n1 n2 n3 n4 n5 n6 n7 n8 n9 n10 n11 rG hEl2
      go_wp2_with (first
       | (go_at_call 35;refine HIX.out.mono ?_;rintro e w2 ⟨iv,rfl,hown2,hq2⟩;have HI2:=lh hown2;have HQ2:=lh hq2;have hz9:=hq2.size;clear hown2 hq2)
       | (go_at_call 33;refine (add_any (base:=B) 19 (HO3.out.quiet HQ4.out) (by omega) HT4.out.ints (HA3.out.from_ HFY.out (by omega)) (by omega) (by rw [tailB_length];omega) (by simp only [List.length_append,unitB_length];omega)).mono ?_;rintro e w5 ⟨v5,rfl,hown5,hacc5⟩)
       | (go_at_call 33;refine (add_any (base:=B) 18 (HOWN.out.quiet HQ2.out) (by omega) HI2.out.ints HFY.out (by omega) hix hpl).mono ?_;rintro e w3 ⟨v3,rfl,hown3,hacc3⟩;have HO3:=lh hown3;have HA3:=lh hacc3;have hz10:=hacc3.only.size;clear hown3 hacc3)
       | (go_at_call 36;refine (tail_any (30+P.length) HO3.out.ints).mono ?_;rintro e w4 ⟨tv,rfl,hown4,hq4⟩;have HT4:=lh hown4;have HQ4:=lh hq4;have hz11:=hq4.size;clear hown4 hq4)
       | fail)
      go_ret2
      rw [Hfin2.out]
      have oA:Only [] w w5:=(((((HOw.out.q HQ2.out).acc HA3.out (HFY.out.mono (by omega))).q HQ4.out).acc hacc5 ((HA3.out.from_ HFY.out (by omega)).mono (by omega))))
      exact ⟨oA,v5,rfl,hown5.lower (by omega)⟩
/-- box.Mux -/
theorem mux_any {lo hi:Nat} (c:Cfg) (W H:Int) {v:Value} {l:List Chunk} {w:World} (h:ChunksAt lo hi w v l) (hhi:hi≤w.heap.size) (hl:l.length≤1000000) :
  Calls Tryz.prog 13 #[c.v,.int .i64 W,.int .i64 H,v] w (MuxP w (muxR c W H l)):=by
 by_cases hm:mayB c=true
 ·by_cases hn:newB W H 0=true
  ·cases hc:checkB l with
   | none=>exact mux_good c W H h hhi hm hn hc
   | some k=>exact mux_bad c W H h hl (.inr (.inr ⟨k,hc⟩))
  ·exact mux_bad c W H h hl (.inr (.inl (by simpa using hn)))
 ·exact mux_bad c W H h hl (.inl (by simpa using hm))
end Go.Proofs.YtmdobcffijnaoaaGreatDoor
