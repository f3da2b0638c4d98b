/- Joined texts: Value, NextK, NextA. Conditions: each part names its own. -/
import Derived.Test.YtkigikallkpbcaaGreatDoorT1
import Derived.Test.YtkigikallkpbcaaGreatDoorC3
import Derived.Test.YtkigikallkpbcaaGreatDoorG1
import Derived.Test.YtkigikallkpbcaaGreatDoorC4
import Derived.Test.YtkigikallkpbcaaGreatDoorG0
namespace Go.Proofs.YtkigikallkpbcaaGreatDoor
open Go.RowKit
set_option linter.unusedVariables false
set_option linter.unusedSimpArgs false
set_option maxRecDepth 100000
set_option maxHeartbeats 16000000
theorem nvalue_any {lo hi:Nat} {v:Value} {l:List Int} {w:World} (h:Ints .u8 lo hi w v l) (hl:l.length≤6) :
  Calls Tryz.prog 123 #[v] w fun e w'=>e=.returned (.int .i64 (getB l))∧w=w':=by
 have hr:=h.2
 obtain ⟨a,cap,rfl,hcap,hm,hat,hcell⟩:=h.open
 go_enter Tryz.func123,Tryz.ntmps123
 go_wp2
 go_loop [4,3] (fun i c=>∃ k:Nat,k≤l.length∧i=.int .i64 k∧c=.int .i64 (getB (l.take k))) (fun i _=>l.length-(intOf i).toNat)
 case atStart=>exact ⟨0,by omega,rfl,rfl⟩
 case round =>
  obtain ⟨k,hk,rfl,rfl⟩:=hrel
  by_cases hlt:k<l.length
  ·obtain ⟨b,off,rfl,_,_⟩:=hat k hlt
   have hc':=hcell b off rfl k hlt
   have hx:InK .u8 (l.getD k 0):=by refine hr _ ?_;simp [hlt]
   have hs:=getB_range k (l.take k) (by rw [List.length_take];omega) (by omega) (fun x hx=>hr x (List.mem_of_mem_take hx))
   have hs2:=pow_bound (k:=k) (by omega) hs.2
   have hnext:getB (l.take (k+1))=getB (l.take k)*256+l.getD k 0:=by rw [take_snoc hlt,getB_snoc]
   have hwx:IntKind.i64.wrap (l.getD k 0)=l.getD k 0:=wraps_i64 _ hx.1 (by have:=hx.2;omega)
   have h0:=hs.1
   unfold InK at hx
   clear hs
   generalize getB (l.take k)=s at *
   generalize l.getD k 0=x at *
   have Hn:=lh hnext
   clear hnext hat hcell hr h
   go_wp2
   go_round
   case rel=>exact ⟨k+1,by omega,by go_num,by rw [Hn.out]⟩
   case measure=>simp [intOf];omega
  ·obtain rfl:k=l.length:=by omega
   go_wp2
   go_ret
   exact ⟨rfl,rfl⟩
/-- what Next hands back: a unit and no error, or none and the document's error -/
def KNextP (w:World) (r:Except Err UnitD) (e:Ending) (w':World):Prop :=
 Only [] w w'∧match r with
  | .ok u=>∃ dv,e=.returned (.tuple #[.agg #[.int .i64 u.kind,dv,.int .i64 u.at_,.int .i64 u.end_],.agg #[.int .i64 0,.slice none 0 0]])∧Ints .u8 w.heap.size w'.heap.size w' dv u.data
  | .error er=>∃ sa scap,e=.returned (.tuple #[.agg #[.int .i64 0,.slice none 0 0,.int .i64 0,.int .i64 0],.agg #[.int .i64 er.code,.slice sa er.path.length scap]])∧Cells 2 w.heap.size w'.heap.size w' (.slice sa er.path.length scap) er.path.length (flat er.path)
theorem KNextP.err {w w1 wf:World} {r:Except Err UnitD} {p c:Int} {lo:Nat} {sa:Option Addr} {scap:Nat} (hr:r=.error ⟨[(sUnit,p)],c⟩) (hq:Only [] w w1) (hs:Only [w.heap.size,w.heap.size+1] w1 wf) (hlo:w.heap.size+2≤lo)
  (hsv:Cells 2 lo w1.heap.size w1 (.slice sa 1 scap) 1 (flat [(sUnit,p)])) :
  KNextP w r (.returned (.tuple #[.agg #[.int .i64 0,.slice none 0 0,.int .i64 0,.int .i64 0],.agg #[.int .i64 c,.slice sa 1 scap]])) wf:=by
 unfold KNextP
 rw [hr]
 refine ⟨hq.trans hs (by simp) (fun x hx hlt=>?_),sa,scap,rfl,(hsv.only hs (fun x hx=>?_)).mono (by omega) hs.size⟩
 ·simp only [List.mem_cons,List.not_mem_nil,or_false] at hx;omega
 ·simp only [List.mem_cons,List.not_mem_nil,or_false] at hx;omega
/-- the cells of the two results behind a call -/
theorem res6 {w1:World} {A B:Nat} {v0 v1 v2 v3 u0 u1:Value} {t s:TypeId} (h:w1.heap[A]?=some (.cells #[v0,v1,v2,v3] t (0,0))) (k:w1.heap[B]?=some (.cells #[u0,u1] s (0,0))) :
  (w1.cell? ⟨A,0,none⟩=some v0∧w1.cell? ⟨A,1,none⟩=some v1∧w1.cell? ⟨A,2,none⟩=some v2∧w1.cell? ⟨A,3,none⟩=some v3) ∧
  (w1.frozen? ⟨A,0,none⟩=false∧w1.frozen? ⟨A,1,none⟩=false∧w1.frozen? ⟨A,2,none⟩=false∧w1.frozen? ⟨A,3,none⟩=false) ∧
  (w1.cell? ⟨B,0,none⟩=some u0∧w1.cell? ⟨B,1,none⟩=some u1∧w1.frozen? ⟨B,0,none⟩=false∧w1.frozen? ⟨B,1,none⟩=false):=by
 obtain ⟨k0,k1,k2,k3,_⟩:=row2 k
 exact ⟨row4_cells h,⟨frozen_of_row _ _ _ _ _ h,frozen_of_row _ _ _ _ _ h,frozen_of_row _ _ _ _ _ h,frozen_of_row _ _ _ _ _ h⟩,k0,k1,k2,k3⟩
theorem qNextK2 {p:Prop} (h:p:=by
 rw [← hWf]
 exact ((((((Only.refl _ _).setCell (by simp) _).setCell (by simp) _).setCell (by simp) _).setCell (by simp) _).setCell (by simp) _).setCell (by simp) _):p:=h
theorem qNextK0 {p:Prop} (h:p:=by
 go_at_call 38
 refine (wrap_any _ _ _ _ (by omega)).mono ?_
 rintro e w1 ⟨ev,rfl,hev,hq1⟩
 obtain ⟨sv,rfl,hsv⟩:=hev
 obtain ⟨sa,scap,rfl⟩:∃ sa scap,sv=.slice sa 1 scap:=by obtain ⟨_,sa,scap,h,_⟩:=hsv;exact ⟨sa,scap,h⟩
 obtain ⟨⟨u0,u1,u2,u3⟩,⟨f0,f1,f2,f3⟩,m0,m1,g0,g1⟩:=res6 (hq1.row rU) (hq1.row rE)
 go_wp2_with fail
 refine bodyPost_ret (v:=.tuple #[.agg #[.int .i64 0,.slice none 0 0,.int .i64 0,.int .i64 0],.agg #[.int .i64 1,.slice sa 1 scap]]) (by simp [results,Tryz.results98,go_sem,u0,u1,u2,u3,m0,m1,World.cell?_setCell_other]) rfl ?_
 generalize hWf:World.setCell _ _ _=Wf
 refine KNextP.err Hr.out (hO2.q hq1) ?_ hz2 hsv
 exact qNextK2):p:=h
theorem knext_short {lo hi b off cap p n:Nat} {d:List Int} {w:World} (hp:p<n) (hn:(n:Int)≤9223372036854775807)
  (hrun:∀ W,(Instr.slice 30 (.slice (some ⟨b,off,none⟩) n cap) (some (.int .i64 p)) none none).run Tryz.prog W=.ok (.slice (some ⟨b,off+p,none⟩) d.length (cap-p)) W)
  (h:Ints .u8 lo hi w (.slice (some ⟨b,off+p,none⟩) d.length (cap-p)) d) (hm0:0<d.length) (hz:¬ d.getD 0 0=0) (h4:d.length<4) :
  Calls Tryz.prog 98 #[.slice (some ⟨b,off,none⟩) n cap,.int .i64 p] w (KNextP w (nextD d p)):=by
 have Hr:Hid (nextD d p=.error ⟨[(sUnit,p)],1⟩):=lh (by unfold nextD;rw [if_neg hz,if_pos (by omega)])
 have c0:=(h.open' (by omega)).2
 have hzb:(d.getD 0 0 == 0)=false:=by simpa using hz
 have hpi:(p:Int)<(n:Int):=by omega
 have hp0:(0:Int)≤(p:Int):=by omega
 have hx:=h.range (i:=0) (by omega)
 unfold InK at hx
 clear hz
 generalize d.getD 0 0=q at *
 have c1:∀ o o',((w.alloc o).alloc o').cell? ⟨b,off+p,none⟩=some (.int .u8 q):=fun o o'=>((Only.new _ _).q (Only.new _ _)).cell c0 (by simp)
 clear h
 go_enter Tryz.func98,Tryz.ntmps98
 go_wp2_with fail
 clear c1
 generalize hW:(w.alloc _).alloc _=W2
 have hO2:Only [] w W2:=by rw [← hW];exact (Only.new _ _).q (Only.new _ _)
 have hz2:w.heap.size+2≤W2.heap.size:=by rw [← hW];simp
 have rU:W2.heap[w.heap.size]?=some (.cells #[.int .i64 0,.slice none 0 0,.int .i64 0,.int .i64 0] 105 (0,0)):=by
  rw [← hW,Below.heap_alloc _ _ _ (by simp)];exact heap_alloc_new _ _
 have rE:W2.heap[w.heap.size+1]?=some (.cells #[.int .i64 0,.slice none 0 0] 38 (0,0)):=by rw [← hW];exact heap_alloc_new' (by simp)
 clear hW
 exact qNextK0
theorem getB_len {d:List Int} (h:4≤d.length):getB ((d.take 4).drop 1)=lenU d:=by
 match d,h with
 | x0 :: x1 :: x2 :: x3 :: r,_=>simp [getB,lenU];omega
theorem getB_four {e:List Int} (h:4≤e.length):getB (e.take 4)=e.getD 0 0*16777216+e.getD 1 0*65536+e.getD 2 0*256+e.getD 3 0:=by
 match e,h with
 | x0 :: x1 :: x2 :: x3 :: r,_=>simp [getB];omega
theorem getB_sum {d:List Int} {N:Nat} (h:8+N≤d.length):getB ((d.take (8+N)).drop (4+N))=sumU d N:=by
 have e:(d.take (8+N)).drop (4+N)=(d.drop (4+N)).take 4:=by
  rw [List.drop_take];congr 1;omega
 rw [e,getB_four (by rw [List.length_drop];omega)]
 simp only [sumU,getD_drop]
 rw [show 4+N+0=4+N by omega,show 4+N+1=5+N by omega,show 4+N+2=6+N by omega,show 4+N+3=7+N by omega]
theorem qNextK1 {p:Prop} (h:p:=by
 exact qNextK2):p:=h
theorem knext_bad {lo hi b off cap p n:Nat} {d:List Int} {w:World} (c:Int) (hp:p<n) (hn:(n:Int)≤9223372036854775807)
  (hrun:∀ W,(Instr.slice 30 (.slice (some ⟨b,off,none⟩) n cap) (some (.int .i64 p)) none none).run Tryz.prog W=.ok (.slice (some ⟨b,off+p,none⟩) d.length (cap-p)) W)
  (h:Ints .u8 lo hi w (.slice (some ⟨b,off+p,none⟩) d.length (cap-p)) d) (hdc:d.length≤cap-p) (hdl:(d.length:Int)≤1000000000000) (hz:¬ d.getD 0 0=0) (h4:4≤d.length)
  (hcase:(65536<lenU d∧c=5)∨(¬ 65536<lenU d∧(d.length:Int)-8<lenU d∧c=1)) :
  Calls Tryz.prog 98 #[.slice (some ⟨b,off,none⟩) n cap,.int .i64 p] w (KNextP w (nextD d p)):=by
 have Hr:Hid (nextD d p=.error ⟨[(sUnit,p)],c⟩):=lh (by
  unfold nextD
  rw [if_neg hz,if_neg (by omega)]
  rcases hcase with ⟨h1,rfl⟩ | ⟨h1,h2,rfl⟩
  ·rw [if_pos h1]
  ·rw [if_neg h1,if_pos h2])
 have c0:=(h.open' (by omega)).2
 have hzb:(d.getD 0 0 == 0)=false:=by simpa using hz
 have hpi:(p:Int)<(n:Int):=by omega
 have hp0:(0:Int)≤(p:Int):=by omega
 have h4i:¬ (d.length:Int)<4:=by omega
 have hx:=h.range (i:=0) (by omega)
 unfold InK at hx
 obtain ⟨a1,hsl,hI1⟩:=slice_part h hdc (i:=1) (j:=4) (by omega) h4 (y:=1) (z:=4) rfl rfl
 have hgl:=getB_len h4
 have hgr:=getB_range 3 ((d.take 4).drop 1) (by rw [List.length_drop,List.length_take];omega) (by omega) (fun x hx=>h.2 x (List.mem_of_mem_take (List.mem_of_mem_drop hx)))
 have HV:=lh (fun (W:World) (o:Only [] w W)=>nvalue_any (hI1.quiet o) (by rw [List.length_drop,List.length_take];omega))
 rw [hgl] at HV hgr
 have hL0:=hgr.1
 have hL1:lenU d<16777216:=hgr.2
 clear hz hgl hgr hI1
 generalize lenU d=N at *
 generalize d.getD 0 0=q at *
 have c1:∀ o o',((w.alloc o).alloc o').cell? ⟨b,off+p,none⟩=some (.int .u8 q):=fun o o'=>((Only.new _ _).q (Only.new _ _)).cell c0 (by simp)
 clear h
 go_enter Tryz.func98,Tryz.ntmps98
 go_wp2_with fail
 clear c1 hrun
 generalize hW:(w.alloc _).alloc _=W2
 have hO2:Only [] w W2:=by rw [← hW];exact (Only.new _ _).q (Only.new _ _)
 have hz2:w.heap.size+2≤W2.heap.size:=by rw [← hW];simp
 have rU:W2.heap[w.heap.size]?=some (.cells #[.int .i64 0,.slice none 0 0,.int .i64 0,.int .i64 0] 105 (0,0)):=by
  rw [← hW,Below.heap_alloc _ _ _ (by simp)];exact heap_alloc_new _ _
 have rE:W2.heap[w.heap.size+1]?=some (.cells #[.int .i64 0,.slice none 0 0] 38 (0,0)):=by rw [← hW];exact heap_alloc_new' (by simp)
 clear hW
 go_at_call 123
 refine (HV.out _ hO2).mono ?_
 rintro e w' ⟨rfl,rfl⟩
 rcases hcase with ⟨h1,rfl⟩ | ⟨h1,h2,rfl⟩
 ·go_wp2_with fail
  go_at_call 38
  refine (wrap_any _ _ _ _ (by omega)).mono ?_
  rintro e w1 ⟨ev,rfl,hev,hq1⟩
  obtain ⟨sv,rfl,hsv⟩:=hev
  obtain ⟨sa,scap,rfl⟩:∃ sa scap,sv=.slice sa 1 scap:=by obtain ⟨_,sa,scap,h,_⟩:=hsv;exact ⟨sa,scap,h⟩
  obtain ⟨⟨u0,u1,u2,u3⟩,⟨f0,f1,f2,f3⟩,m0,m1,g0,g1⟩:=res6 (hq1.row rU) (hq1.row rE)
  go_wp2_with fail
  refine bodyPost_ret (v:=.tuple #[.agg #[.int .i64 0,.slice none 0 0,.int .i64 0,.int .i64 0],.agg #[.int .i64 5,.slice sa 1 scap]]) (by simp [results,Tryz.results98,go_sem,u0,u1,u2,u3,m0,m1,World.cell?_setCell_other]) rfl ?_
  generalize hWf:World.setCell _ _ _=Wf
  refine KNextP.err Hr.out (hO2.q hq1) ?_ hz2 hsv
  exact qNextK1
 ·have h3:(d.length:Int)<N+8:=by omega
  go_wp2_with fail
  exact qNextK0
theorem knext_full {lo hi b off cap p n N:Nat} {d:List Int} {w:World} (hp:p<n) (hn:(n:Int)≤1000000000000)
  (hrun:∀ W,(Instr.slice 30 (.slice (some ⟨b,off,none⟩) n cap) (some (.int .i64 p)) none none).run Tryz.prog W=.ok (.slice (some ⟨b,off+p,none⟩) d.length (cap-p)) W)
  (h:Ints .u8 lo hi w (.slice (some ⟨b,off+p,none⟩) d.length (cap-p)) d) (hdc:d.length≤cap-p) (hcm:(cap:Int)≤9223372036854775807) (hdl:(d.length:Int)≤1000000000000) (hz:¬ d.getD 0 0=0)
  (hN:lenU d=N) (h6:N≤65536) (h8:8+N≤d.length) :
  Calls Tryz.prog 98 #[.slice (some ⟨b,off,none⟩) n cap,.int .i64 p] w (KNextP w (nextD d p)):=by
 refine hidQ fun Q HPost=>?_
 have hnd:nextD d p=if (crc (d.take (4+N)):Int)≠sumU d N then .error ⟨[(sUnit,p)],4⟩ else .ok ⟨d.getD 0 0,(d.drop 4).take N,p,p+(8+N)⟩:=by
  unfold nextD
  rw [if_neg hz,if_neg (by omega),hN,if_neg (by omega),if_neg (by omega),Int.toNat_natCast]
 have Hnd:=lh hnd
 have c0:=(h.open' (by omega)).2
 have hzb:(d.getD 0 0 == 0)=false:=by simpa using hz
 have hpi:(p:Int)<(n:Int):=by omega
 have hp0:(0:Int)≤(p:Int):=by omega
 have h4i:¬ (d.length:Int)<4:=by omega
 have hx:0≤d.getD 0 0∧d.getD 0 0≤255:=h.range (i:=0) (by omega)
 obtain ⟨a1,hsl,hI1⟩:=slice_part h hdc (i:=1) (j:=4) (by omega) (by omega) (y:=1) (z:=4) rfl rfl
 have HV:=lh (fun (W:World) (o:Only [] w W)=>nvalue_any (hI1.quiet o) (by rw [List.length_drop,List.length_take];omega))
 rw [getB_len (by omega),hN] at HV
 obtain ⟨a2,hsl2,hI2⟩:=slice_part h hdc (i:=4+N) (j:=8+N) (by omega) h8 (y:=4+(N:Int)) (z:=8+(N:Int)) (by push_cast;rfl) (by push_cast;rfl)
 have e1:8+N-(4+N)=4:=by omega
 rw [e1] at hsl2 hI2
 generalize hk2:cap-p-(4+N)=k2 at *
 have HV2:=lh (fun (W:World) (o:Only [] w W)=>nvalue_any (hI2.quiet o) (by rw [List.length_drop,List.length_take];omega))
 rw [getB_sum h8] at HV2
 obtain ⟨hsl3,hI3⟩:=slice_upto h hdc (j:=4+N) (by omega) (z:=4+(N:Int)) (by push_cast;rfl)
 have HS3:=lh (fun (W:World) (o:Only [] w W)=>ksum_any (hI3.quiet o))
 have hcl:=crc_lt _ hI3.2
 obtain ⟨a4,hsl4,hI4⟩:=slice_part h hdc (i:=4) (j:=4+N) (by omega) (by omega) (y:=4) (z:=4+(N:Int)) rfl (by push_cast;rfl)
 have e4:4+N-4=N:=by omega
 rw [e4] at hsl4 hI4
 have hdd:(d.take (4+N)).drop 4=(d.drop 4).take N:=by rw [List.drop_take,e4]
 rw [hdd] at hI4
 have HI4:=lh hI4
 have Hl4:Hid (((d.drop 4).take N).length=N):=lh (by rw [List.length_take,List.length_drop];omega)
 have HSL2:=lh hsl2
 have HSL3:=lh hsl3
 have HSL4:=lh hsl4
 clear hz hI1 hI2 hI3 hI4 hnd e1 e4 hdd hk2 hN hsl2 hsl3 hsl4
 generalize hcq:crc (d.take (4+N))=C at *
 generalize hsq:sumU d N=S at *
 generalize d.getD 0 0=q at *
 have hwC:IntKind.i64.wrap (C:Int)=C:=by rw [IntKind.wrap_i64];omega
 have hw4:IntKind.i64.wrap (4+(N:Int))=4+N:=by rw [IntKind.wrap_i64];omega
 have hw8:IntKind.i64.wrap (8+(N:Int))=8+N:=by rw [IntKind.wrap_i64];omega
 have HwC:=lh hwC
 have Hw4:=lh hw4
 have Hw8:=lh hw8
 clear hwC hw4 hw8 hcq hsq hcl
 have c1:∀ o o',((w.alloc o).alloc o').cell? ⟨b,off+p,none⟩=some (.int .u8 q):=fun o o'=>((Only.new _ _).q (Only.new _ _)).cell c0 (by simp)
 obtain ⟨M,hM⟩:∃ M:Int,(N:Int)=M:=⟨_,rfl⟩
 have h6i:¬ (65536:Int)<M:=by omega
 have h8i:¬ (d.length:Int)<M+8:=by omega
 have hN0:(0:Int)≤M:=by omega
 rw [hM] at HV HSL2 HSL3 HSL4 Hw4 Hw8
 have HM:=lh hM
 clear hM
 have H6:=lh h6
 have H8:=lh h8
 have Hcm:=lh hcm
 have Hdc:=lh hdc
 clear h h6 h8 hcm hdc
 go_enter Tryz.func98,Tryz.ntmps98
 go_wp2_with fail
 clear c1 hrun
 generalize hW:(w.alloc _).alloc _=W2
 have hO2:Only [] w W2:=by rw [← hW];exact (Only.new _ _).q (Only.new _ _)
 have hz2:w.heap.size+2≤W2.heap.size:=by rw [← hW];simp
 have rU:W2.heap[w.heap.size]?=some (.cells #[.int .i64 0,.slice none 0 0,.int .i64 0,.int .i64 0] 105 (0,0)):=by
  rw [← hW,Below.heap_alloc _ _ _ (by simp)];exact heap_alloc_new _ _
 have rE:W2.heap[w.heap.size+1]?=some (.cells #[.int .i64 0,.slice none 0 0] 38 (0,0)):=by rw [← hW];exact heap_alloc_new' (by simp)
 clear hW
 go_at_call 123
 refine (HV.out _ hO2).mono ?_
 rintro e w' ⟨rfl,rfl⟩
 go_wp2_with fail
 have hsl2:=HSL2.out
 have hsl3:=HSL3.out
 have hwC:=HwC.out
 have hw4:=Hw4.out
 have hw8:=Hw8.out
 have h40:(0:Int)≤4+M:=by omega
 have h80:(0:Int)≤8+M:=by omega
 go_quiet (first
  | (go_at_call 123;exact Calls.quiet_of_same ((HV2.out _ (hO2.drewN _)).mono fun _ _ ⟨a,b⟩=>⟨a,b.symm⟩))
  | (go_at_call 92;exact Calls.quiet_of_same ((HS3.out _ (hO2.drewN _)).mono fun _ _ ⟨a,b⟩=>⟨a,b.symm⟩)))
 clear hwC hw4 hw8
 have hqd:Only [] w (W2.drewN nq):=hO2.drewN nq
 have rU':(W2.drewN nq).heap[w.heap.size]?=some (.cells #[.int .i64 0,.slice none 0 0,.int .i64 0,.int .i64 0] 105 (0,0)):=rU
 have rE':(W2.drewN nq).heap[w.heap.size+1]?=some (.cells #[.int .i64 0,.slice none 0 0] 38 (0,0)):=rE
 have hzd:w.heap.size+2≤(W2.drewN nq).heap.size:=hz2
 generalize W2.drewN nq=W3 at *
 by_cases hSC:S=(C:Int)
 ·subst hSC
  have hcb:((C:Int) != (C:Int))=false:=by simp
  have Hok:Hid (nextD d p=.ok ⟨q,(d.drop 4).take N,p,p+(8+N)⟩):=lh (by rw [Hnd.out,if_neg (by simp)])
  have c3:=hqd.cell c0 (by simp)
  go_wp2_with fail
  have hsl4:=HSL4.out
  generalize cap-p-4=k4 at *
  have hbw:b<w.heap.size:=block_lt_of_cell c0
  have hbA:(w.heap.size=b)=False:=eq_false (by omega)
  have hbB:(w.heap.size+1=b)=False:=eq_false (by omega)
  have hw4:=Hw4.out
  have hwp:IntKind.i64.wrap ((p:Int)+M)=p+M:=by rw [IntKind.wrap_i64];omega
  have hwp8:IntKind.i64.wrap ((p:Int)+M+8)=p+M+8:=by rw [IntKind.wrap_i64];omega
  have hwq:IntKind.i64.wrap q=q:=by rw [IntKind.wrap_i64];omega
  have hm0:(0:Int)<(d.length:Int):=by have:=H8.out;omega
  have hm0n:0<d.length:=by omega
  have h40:(0:Int)≤4+M:=by omega
  have HB:=lh (fun (w1:World) (o:Only [] W3.drew w1)=>res6 (((Only.refl [] W3).drew.q o).row rU') (((Only.refl [] W3).drew.q o).row rE'))
  have hcp:Calls Tryz.prog 26 #[.slice a4 N k4] W3.drew (fun e w'=>∃ a5 cap5,e=.returned (.slice a5 N cap5)∧Own .u8 5 W3.drew.heap.size w' (.slice a5 N cap5) ((d.drop 4).take N)∧Only [] W3.drew w'):=by
   refine (copyb_any (w:=W3.drew) (HI4.out.quiet (hqd.drew)) (by rw [Hl4.out];have:=H6.out;omega)).mono ?_
   rintro e w1 ⟨v1,rfl,ho,hq⟩
   obtain ⟨a5,cap5,hv,_⟩:=ho.ints.open
   rw [Hl4.out] at hv
   subst hv
   exact ⟨a5,cap5,rfl,ho,hq⟩
  have Hc:=lh hcp
  clear hcp
  go_region_held3 (fun w'=>w'.cell? ⟨b,off+p,none⟩=some (.int .u8 q))
   (first
    | (simp only [World.cell?_setCell_far,ne_eq,hbA,hbB,not_false_eq_true];assumption)
    | (with_reducible refine hq1.cell (by assumption) (by simp))
    | (simp [*,World.cell?_alloc_some,World.cell?_setCell_far,frozen?_alloc_cells,frozen_drew,World.frozen?_setCell])
    | fail)
   (first
    | (go_at_call 26;refine Hc.out.mono ?_;rintro e w1 ⟨a5,cap5,rfl,hown1,hq1⟩;obtain ⟨⟨u0,u1,u2,u3⟩,⟨f0,f1,f2,f3⟩,m0,m1,g0,g1⟩:=HB.out w1 hq1)
    | fail)
  all_goals
   go_wp2_with fail
   refine bodyPost_ret (v:=.tuple #[.agg #[.int .i64 q,.slice a5 N cap5,.int .i64 p,.int .i64 (p+M+8)],.agg #[.int .i64 0,.slice none 0 0]]) (by simp [results,Tryz.results98,go_sem,hwq,hwp,hwp8,u0,u1,u2,u3,m0,m1,World.cell?_setCell_other]) rfl (HPost.out _ _ ?_)
   generalize hWf:World.setCell _ _ _=Wf
   have hs:Only [w.heap.size,w.heap.size+1] w1 Wf:=by
    exact qNextK1
   have hz3:w.heap.size+2≤W3.drew.heap.size:=hzd
   unfold KNextP
   rw [Hok.out]
   refine ⟨(hqd.drew.q hq1).trans hs (by simp) (fun g hg hlt=>?_),_,?_,(hown1.ints.only hs (fun g hg=>?_)).mono (by omega) hs.size⟩
   ·simp only [List.mem_cons,List.not_mem_nil,or_false] at hg;omega
   ·have:=HM.out
    rw [show ((p+(8+N):Nat):Int)=(p:Int)+M+8 by omega]
   ·simp only [List.mem_cons,List.not_mem_nil,or_false] at hg
    left;omega
 ·have hcb:(S != (C:Int))=true:=by simpa using hSC
  have Hr:Hid (nextD d p=.error ⟨[(sUnit,p)],4⟩):=lh (by rw [Hnd.out,if_pos (fun h=>hSC h.symm)])
  clear hSC
  go_wp2_with fail
  go_at_call 38
  refine (wrap_any _ _ _ _ (by omega)).mono ?_
  rintro e w1 ⟨ev,rfl,hev,hq1⟩
  obtain ⟨sv,rfl,hsv⟩:=hev
  obtain ⟨sa,scap,rfl⟩:∃ sa scap,sv=.slice sa 1 scap:=by obtain ⟨_,sa,scap,h,_⟩:=hsv;exact ⟨sa,scap,h⟩
  obtain ⟨⟨u0,u1,u2,u3⟩,⟨f0,f1,f2,f3⟩,m0,m1,g0,g1⟩:=res6 (hq1.row rU') (hq1.row rE')
  go_wp2_with fail
  refine bodyPost_ret (v:=.tuple #[.agg #[.int .i64 0,.slice none 0 0,.int .i64 0,.int .i64 0],.agg #[.int .i64 4,.slice sa 1 scap]]) (by simp [results,Tryz.results98,go_sem,u0,u1,u2,u3,m0,m1,World.cell?_setCell_other]) rfl (HPost.out _ _ ?_)
  generalize hWf:World.setCell _ _ _=Wf
  refine KNextP.err Hr.out (hqd.q hq1) ?_ hzd hsv
  exact qNextK1
theorem knext_any {lo hi:Nat} {v:Value} {l:List Int} (p:Nat) {w:World} (h:Ints .u8 lo hi w v l) (hp:p<l.length) (hl:l.length≤1000000000000) :
  Calls Tryz.prog 98 #[v,.int .i64 p] w (KNextP w (nextD (l.drop p) p)):=by
 obtain ⟨a,cap,rfl,hcap,hmax,hat,hcell⟩:=h.open
 obtain ⟨b,off,rfl,_,_⟩:=hat 0 (by omega)
 have hcm:(cap:Int)≤9223372036854775807:=by unfold maxLen at hmax;omega
 have hsub:=h.sub (i:=p) (j:=l.length) (by omega) (Nat.le_refl _) (cap-p) (by omega) (by omega)
 rw [List.take_length] at hsub
 have hrun:∀ W,(Instr.slice 30 (.slice (some ⟨b,off,none⟩) l.length cap) (some (.int .i64 p)) none none).run Tryz.prog W=.ok (.slice (some ⟨b,off+p,none⟩) (l.length-p) (cap-p)) W:=by
  intro W
  have h5:¬ cap=p:=by omega
  have h6:p≤l.length:=by omega
  simp [Instr.slice,run_underlying Tryz.underlying30,Instr.sliceBounds,Instr.sliceBound,asIntOf,go_sem,h6,hcap,h5]
 have c0:=hcell b off rfl p hp
 have hdl:(l.drop p).length=l.length-p:=List.length_drop
 have hd0:(l.drop p).getD 0 0=l.getD p 0:=by rw [getD_drop];simp
 have hin:∀ x∈l.drop p,InK .u8 x:=hsub.2
 rw [← hdl] at hsub hrun
 rw [← hd0] at c0
 have hn:((l.length:Nat):Int)≤1000000000000:=by omega
 have hdi:((l.drop p).length:Int)≤1000000000000:=by omega
 have hdc:(l.drop p).length≤cap-p:=by omega
 have hd1:0<(l.drop p).length:=by omega
 clear hat hcell h hmax hd0 hdl hl
 generalize l.drop p=d at *
 generalize l.length=n at *
 by_cases hz:d.getD 0 0=0
 ·have Hr:Hid (nextD d p=.ok ⟨0,[],p,p+1⟩):=lh (by unfold nextD;rw [if_pos hz])
  rw [hz] at c0
  have hpi:(p:Int)<(n:Int):=by omega
  have hp0:(0:Int)≤(p:Int):=by omega
  have c1:∀ o o',((w.alloc o).alloc o').cell? ⟨b,off+p,none⟩=some (.int .u8 0):=fun o o'=>((Only.new _ _).q (Only.new _ _)).cell c0 (by simp)
  clear hz hrun hsub hin hdi hdc hd1
  go_enter Tryz.func98,Tryz.ntmps98
  go_wp2_with fail
  refine bodyPost_ret (v:=.tuple #[.agg #[.int .i64 0,.slice none 0 0,.int .i64 p,.int .i64 (p+1)],.agg #[.int .i64 0,.slice none 0 0]]) (by simp [results,Tryz.results98,go_sem]) rfl ?_
  unfold KNextP
  rw [Hr.out]
  exact ⟨(Only.new _ _).q (Only.new _ _),_,rfl,Ints.nil _ _ _ _⟩
 by_cases h4:d.length<4
 ·exact knext_short hp (by omega) hrun hsub hd1 hz h4
 have hgr:=getB_range 3 ((d.take 4).drop 1) (by rw [List.length_drop,List.length_take];omega) (by omega) (fun x hx=>hin x (List.mem_of_mem_take (List.mem_of_mem_drop hx)))
 rw [getB_len (by omega)] at hgr
 by_cases h5:65536<lenU d
 ·exact knext_bad 5 hp (by omega) hrun hsub hdc hdi hz (by omega) (.inl ⟨h5,rfl⟩)
 by_cases h6:(d.length:Int)-8<lenU d
 ·exact knext_bad 1 hp (by omega) hrun hsub hdc hdi hz (by omega) (.inr ⟨h5,h6,rfl⟩)
 obtain ⟨N,hN⟩:=Int.eq_ofNat_of_zero_le hgr.1
 exact knext_full hp hn hrun hsub hdc hcm hdi hz hN (by omega) (by omega)
end Go.Proofs.YtkigikallkpbcaaGreatDoor
