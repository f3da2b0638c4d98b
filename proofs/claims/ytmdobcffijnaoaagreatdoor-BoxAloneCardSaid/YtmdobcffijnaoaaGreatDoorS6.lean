/- Joined texts: DLay, DSquareW, DBlock. Conditions: each part names its own. -/
import Derived.Test.YtmdobcffijnaoaaGreatDoorT1
import Derived.Test.YtmdobcffijnaoaaGreatDoorK2
import Derived.Test.YtmdobcffijnaoaaGreatDoorS1
import Derived.Laws.CopyOwn
import Derived.Deep.RegionLaw
import Derived.Test.YtmdobcffijnaoaaGreatDoorK5
namespace Go.Proofs.YtmdobcffijnaoaaGreatDoor
open Go.RowKit
set_option linter.unusedVariables false
set_option linter.unusedSimpArgs false
set_option maxRecDepth 100000
set_option maxHeartbeats 16000000
theorem rowD_splice (pix row:List Int) (o:Nat):rowD pix o row=splice pix o row:=by simp [rowD,splice]
theorem splice_take {α:Type} {L m:List α} {n off:Nat} (h:off+m.length≤n) (hn:n≤L.length):(splice L off m).take n=splice (L.take n) off m:=by
 unfold splice
 rw [List.take_append,List.take_append,List.take_take,List.length_take,List.take_take,List.drop_take,List.take_of_length_le (by omega:m.length≤n-min off L.length)]
 congr 2
 ·rw [Nat.min_comm]
 ·congr 1;omega
section
variable {k:IntKind} {e:TypeId} {base g n cap:Nat} {w:World} {l:List Int}
/-- a copy into an own row -/
theorem Own.splice (h:Own k e base w (.slice (some ⟨g,0,none⟩) n cap) l) (hn:n=l.length) {m:List Int} (hm:∀ x∈m,InK k x) {off:Nat} (ho:off+m.length≤l.length) :
  ∃ cur:List Value,w.heap[g]?=some (.cells cur.toArray e (0,0))∧off+m.length≤cur.length ∧
   Own k e base (w.setRow g (Go.splice cur off (m.map (.int k))).toArray) (.slice (some ⟨g,0,none⟩) n cap) (rowD l off m)∧Only [g] w (w.setRow g (Go.splice cur off (m.map (.int k))).toArray):=by
 subst hn
 obtain ⟨⟨h1,h2⟩,h3⟩:=h
 rcases h2 with ⟨hv,_⟩ | ⟨g',cap',cur,hv,hb,hg,hnc,hcm,hcs,ht⟩
 ·cases hv
 ·injection hv with e1 e2 e3
  injection e1 with e1
  injection e1 with e1
  subst e1;subst e3
  have hcl:cur.toList.length=cap:=by simpa using hcs
  refine ⟨cur.toList,by simpa using hg,by omega,⟨⟨by simp,.inr ⟨g,cap,_,by rw [rowD_len ho],hb,setRow_heap _ _ _ _ _ _ hg,by rw [rowD_len ho];exact hnc,hcm,?_,?_⟩⟩,fun x hx=>?_⟩,Only.setRow (Only.refl _ _) (fun _=>by simp) _⟩
  ·rw [List.size_toArray,length_splice _ _ _ (by rw [List.length_map];omega)];omega
  ·rw [rowD_len ho,Nat.mul_one,List.toList_toArray,splice_take (by rw [List.length_map];exact ho) (by omega),rowD_splice]
   rw [Nat.mul_one] at ht
   rw [ht]
   simp [Go.splice]
  ·rw [rowD_splice] at hx
   unfold Go.splice at hx
   rcases List.mem_append.1 hx with hx | hx
   ·exact h3 x (List.mem_of_mem_take hx)
   ·rcases List.mem_append.1 hx with hx | hx
    ·exact hm x hx
    ·exact h3 x (List.mem_of_mem_drop hx)
end
section
variable {P:Program}
/-- a copy into a row that is known whole, as a region's step -/
theorem wp_copy_own {w:World} {o:Oper} {a:Act} {K:Act→World→Prop} {Q:Exit→Act→World→Prop} (d s:Operand) (dT sT:TypeId)
  (ho:o.op=.call { callee:=.builtin .copy,args:=#[d,s],argTypes:=#[dT,sT] }) (elem:TypeId) (hu:P.underlying dT=some (.slice elem)) (hsz:(P.info? elem).map (·.size)=some 1)
  (g off dLen dCap:Nat) (ad:Addr) (sLen sCap:Nat) (hd:a.eval d=.slice (some ⟨g,off,none⟩) dLen dCap) (hs:a.eval s=.slice (some ad) sLen sCap)
  (cur:List Value) (t:TypeId) (hg:w.heap[g]?=some (.cells cur.toArray t (0,0))) (cs:List Value) (hn:cs.length=Nat.min sLen dLen)
  (hsrc:∀ j v,cs[j]?=some v→w.cell? (ad.add j)=some v) (hfit:off+cs.length≤cur.length) (h1:∀ v∈cs,v.oneCell'=true)
  (h:K (a.put o.dst (goInt cs.length)) (w.setRow g (splice cur off cs).toArray)):o.wp P a w K Q:=by
 have hrun:=run_copy_row (P:=P) w dT sT o.type elem g off dLen dCap ad sLen sCap cur.toArray t cs hu hsz hg hn hsrc (by simpa using hfit) h1
 unfold Oper.wp
 simp [execOp,ho,resolve,invoke,builtin,hd,hs,hrun,Result.andThen]
 exact h
end
section
variable {P:Program}
theorem step_copy_own {ops:Array Oper} {w:World} {o:Oper} {a:Act} {K:Act→World→Prop} {Q:Exit→Act→World→Prop} {E:Prop} (hgd:o.guard=none) (d s:Operand) (dT sT:TypeId)
  (ho:o.op=.call { callee:=.builtin .copy,args:=#[d,s],argTypes:=#[dT,sT] }) (elem:TypeId) (hu:P.underlying dT=some (.slice elem)) (hsz:(P.info? elem).map (·.size)=some 1)
  (g off dLen dCap:Nat) (ad:Addr) (sLen sCap:Nat) (hd:a.eval d=.slice (some ⟨g,off,none⟩) dLen dCap) (hs:a.eval s=.slice (some ad) sLen sCap)
  (cur:List Value) (t:TypeId) (hg:w.heap[g]?=some (.cells cur.toArray t (0,0))) (cs:List Value) (hn:cs.length=Nat.min sLen dLen)
  (hsrc:∀ j v,cs[j]?=some v→w.cell? (ad.add j)=some v) (hfit:off+cs.length≤cur.length) (h1:∀ v∈cs,v.oneCell'=true)
  (h:K (a.put o.dst (goInt cs.length)) (w.setRow g (splice cur off cs).toArray)):if Region.wanted o (yielded ops a.tmps)=true then Oper.wp P o a w K Q else E:=by
 rw [if_pos (by simp [Region.wanted,hgd])]
 exact wp_copy_own d s dT sT ho elem hu hsz g off dLen dCap ad sLen sCap hd hs cur t hg cs hn hsrc hfit h1 h
end
theorem intsAt {k:IntKind} {l:List Int} {j:Nat} {v:Value} (h:(l.map (Value.int k))[j]?=some v):j<l.length∧v=.int k (l.getD j 0):=by
 rw [List.getElem?_map] at h
 obtain ⟨x,hx,rfl⟩:=Option.map_eq_some_iff.1 h
 have hj:=(List.getElem?_eq_some_iff.1 hx).1
 exact ⟨hj,by rw [List.getD_eq_getElem?_getD,hx];rfl⟩
theorem ints_one {k:IntKind} {l:List Int}:∀ v∈l.map (Value.int k),v.oneCell'=true:=by
 intro v hv
 obtain ⟨x,_,rfl⟩:=List.mem_map.1 hv
 rfl
theorem layP_more {W x y:Int} {n:Nat} {b pix:List Int} {j:Nat}:(List.range (j+1)).foldl (layP W x y n b) pix=layP W x y n b ((List.range j).foldl (layP W x y n b) pix) j:=by
 rw [List.range_succ,List.foldl_append];rfl
theorem play_lay {lo hi g cap base:Nat} {bv:Value} {b:List Int} {w:World} {f:FrameD} {x y:Int} {n:Nat} (hf:FrOk f) (hp:Own .i64 3 base w (.slice (some ⟨g,0,none⟩) f.pix.length cap) f.pix) (hb:Ints .i64 lo hi w bv b) (hg:g<lo∨hi≤g)
  (hn:n=4∨n=8) (hbl:b.length=n*n) (hx:0≤x) (hxn:x+n≤f.W) (hy:0≤y) (hyn:y+n≤f.H) :
  Calls Tryz.prog 100 #[.agg #[.int .i64 f.W,.int .i64 f.H,.slice (some ⟨g,0,none⟩) f.pix.length cap],.int .i64 x,.int .i64 y,.int .i64 n,bv] w fun e w'=>e=.returned (.tuple #[])∧Own .i64 3 base w' (.slice (some ⟨g,0,none⟩) f.pix.length cap) (layD f x y n b).pix∧Only [g] w w':=by
 refine hidQ fun Q HPost=>?_
 have HE:Hid ((layD f x y n b).pix=(List.range n).foldl (layP f.W x y n b) f.pix):=lh rfl
 obtain ⟨ba,bcap,rfl,hbc,-,hbat,hbcell⟩:=hb.open
 have hlen:=hf.len
 have hW0:=hf.w0
 have hW1:=hf.w1
 have hH1:=hf.h1
 obtain ⟨bb,boff,rfl,hlb,hbh⟩:=hbat 0 (by rcases hn with e | e <;> rw [hbl,e] <;> omega)
 have hbg:bb≠g:=by omega
 have Hbk:=lh hb.2
 generalize f.W=W at *
 generalize f.H=H at *
 generalize f.pix=pix at *
 obtain ⟨W,rfl⟩:=Int.eq_ofNat_of_zero_le (by omega:0≤W)
 obtain ⟨H,rfl⟩:=Int.eq_ofNat_of_zero_le (by have:(n:Int)≤H:=(by omega);omega:0≤H)
 obtain ⟨x,rfl⟩:=Int.eq_ofNat_of_zero_le hx
 obtain ⟨y,rfl⟩:=Int.eq_ofNat_of_zero_le hy
 have hWH:W*H≤1024:=Nat.le_trans (Nat.mul_le_mul (by omega:W≤32) (by omega:H≤32)) (by decide)
 have hlen':pix.length=W*H:=by rw [← Int.natCast_mul] at hlen;omega
 have Hlen:=lh hlen'
 have hq0:=Only.new w (.cells #[.int .i64 W,.int .i64 H,.slice (some ⟨g,0,none⟩) pix.length cap] 70)
 have hgl:=(hp.at g rfl).2
 have HRow:Hid ((w.alloc (.cells #[.int .i64 W,.int .i64 H,.slice (some ⟨g,0,none⟩) pix.length cap] 70)).heap[w.heap.size]?=some (.cells #[.int .i64 W,.int .i64 H,.slice (some ⟨g,0,none⟩) pix.length cap] 70 (0,0))):=lh (heap_alloc_new _ _)
 have HO:=lh (hp.quiet hq0)
 have Hbc:=lh (fun (i:Nat) (hi:i<b.length)=>hq0.cell (hbcell bb boff rfl i hi) (by simp))
 have HQ0:=lh hq0
 have Hgl:=lh hgl
 have Hbl:=lh hbl
 have hn4:4≤n:=by omega
 have hn8:n≤8:=by omega
 have hxW:x+n≤W:=by omega
 have hH32:H≤32:=by omega
 have hyH:y+n≤H:=by omega
 have hcap:pix.length≤cap:=by
  rcases hp.1.2 with ⟨hv,_⟩ | ⟨g',cap',cur,hv,_,_,hnc,_⟩
  ·cases hv
  ·injection hv with e1 e2 e3;omega
 clear hf hp hb hbat hbcell hlen hW0 hW1 hH1 hx hy hxn hyn hn hlen' hq0 hbl
 generalize hP:pix.length=N at *
 have HP:=lh hP
 clear hP
 go_enter Tryz.func100,Tryz.ntmps100
 go_wp2_with fail
 generalize hW1:World.alloc w _=W1 at *
 clear hW1
 go_loopw [12,10] (fun i _ wr=>∃ (j:Nat),j≤n∧i=.int .i64 j∧Hid (Own .i64 3 base wr (.slice (some ⟨g,0,none⟩) N cap) ((List.range j).foldl (layP W x y n b) pix))∧Hid (((List.range j).foldl (layP W x y n b) pix).length=N)∧Hid (Only [g] W1 wr)) (fun i _ _=>n-(intOf i).toNat)
 case atStart=>exact ⟨0,by omega,rfl,HO,HP,lh (Only.refl _ _)⟩
 case round =>
  obtain ⟨j,hj,rfl,HOj,HLj,HQj⟩:=hrel
  by_cases hlt:j<n
  ·have hji:(j:Int)<(n:Int):=by omega
   have hj0:(0:Int)≤(j:Int):=by omega
   have hr:=frame_cells (HQj.out.rowAt HRow.out (by rw [mSg];have:=Hgl.out;omega))
   obtain ⟨r0,r1,r2⟩:=hr
   have hpl:(y+j)*W+x+n≤W*H:=by
    have h2:(y+j+1)*W≤H*W:=Nat.mul_le_mul_right _ (by omega)
    rw [Nat.add_mul,Nat.one_mul,Nat.mul_comm H W] at h2
    omega
   have hpb:j*n+n≤b.length:=by
    have h2:(j+1)*n≤n*n:=Nat.mul_le_mul_right _ (by omega)
    rw [Nat.add_mul,Nat.one_mul] at h2
    rw [Hbl.out];omega
   have hbl64:b.length≤64:=by rw [Hbl.out];exact Nat.mul_le_mul hn8 hn8
   obtain ⟨M,hM⟩:∃ M,M=(y+j)*W:=⟨_,rfl⟩
   obtain ⟨J,hJ⟩:∃ J,J=j*n:=⟨_,rfl⟩
   have e1:IntKind.i64.wrap ((y:Int)+(j:Int))=((y+j:Nat):Int):=by rw [IntKind.wrap_i64];omega
   have e2:IntKind.i64.wrap (((y+j:Nat):Int)*(W:Int))=(M:Int):=by rw [IntKind.wrap_i64,← Int.natCast_mul,← hM];rw [← hM] at hpl;omega
   have e4:IntKind.i64.wrap ((j:Int)*(n:Int))=(J:Int):=by rw [IntKind.wrap_i64,← Int.natCast_mul,← hJ];rw [← hJ] at hpb;omega
   rw [← hM] at hpl
   rw [← hJ] at hpb
   have e3:IntKind.i64.wrap ((M:Int)+(x:Int))=((M+x:Nat):Int):=by rw [IntKind.wrap_i64];omega
   have e5:IntKind.i64.wrap ((J:Int)+(n:Int))=((J+n:Nat):Int):=by rw [IntKind.wrap_i64];omega
   have HM:=lh hM
   have HJ:=lh hJ
   clear hM hJ
   generalize hyj:y+j=Yj at *
   generalize ho:M+x=o at *
   generalize hje:J+n=Je at *
   have Hyj:=lh hyj
   have Ho:=lh ho
   have Hje:=lh hje
   have hoN:o+n≤N:=by rw [Hlen.out];exact hpl
   have hJb:Je≤b.length:=hpb
   have hJle:J≤Je:=by omega
   have hJlt:J<b.length:=by omega
   have hoN1:o≤N:=by omega
   have hoc:¬ cap=o:=by omega
   have hJc1:Je≤bcap:=by omega
   have hJc:¬ bcap=J:=by omega
   clear hyj ho hje hpl hpb
   go_wp2_with fail
   refine wp_region_held_drew (S:=(fun w'=>w'.cell? ⟨w.heap.size,0,none⟩=some (.int .i64 W)∧w'.cell? ⟨w.heap.size,2,none⟩=some (.slice (some ⟨g,0,none⟩) N cap))) (by kernel_rfl) ?_ (fun hHeld=>?_)
   ·exact ⟨r0,r2⟩
   refine tk 0 15 ?_
   refine tk 1 16 ?_
   refine tk 2 17 ?_
   refine tk 3 18 ?_
   refine tk 4 19 ?_
   refine tk 5 20 ?_
   refine tk 6 21 ?_
   refine tk 7 22 ?_
   refine tk 8 23 ?_
   refine tk 9 24 ?_
   refine tk 10 25 ?_
   refine tk 11 26 ?_
   refine tk 12 27 ?_
   refine tk 13 28 ?_
   refine tk 14 29 ?_
   refine tk 15 30 ?_
   refine tk 16 31 ?_
   refine tk 17 32 ?_
   refine tk 18 33 ?_
   refine tk 19 34 ?_
   refine tk 20 35 ?_
   refine rdy (rdc 21 36 (fun K hK=>?_) .nil)
   obtain ⟨row,hrow⟩:∃ row,row=(b.drop J).take n:=⟨_,rfl⟩
   have hrl:row.length=n:=by have:=Hje.out;rw [hrow,List.length_take,List.length_drop];omega
   have hrat:∀ i,i<n→row.getD i 0=b.getD (J+i) 0:=fun i hi=>by
    rw [hrow,List.getD_eq_getElem?_getD,List.getElem?_take,if_pos hi,List.getElem?_drop,List.getD_eq_getElem?_getD]
   have hrk:∀ x∈row,InK .i64 x:=fun x hx=>Hbk.out x (by rw [hrow] at hx;exact List.mem_of_mem_drop (List.mem_of_mem_take hx))
   obtain ⟨cur,hcur,hfit,hown',honly⟩:=(HOj.out.quiet (Only.refl _ _).drew).splice HLj.out.symm hrk (off:=o) (by rw [HLj.out,hrl];exact hoN)
   refine step_copy_own rfl (.tmp 25) (.tmp 35) 48 48 rfl 3 EI.ut (by kernel_rfl) g o (N-o) (cap-o) ⟨bb,boff+J,none⟩ (Je-J) (bcap-J) rfl rfl cur _ hcur (row.map (.int .i64)) ?_ ?_ (by rw [List.length_map];exact hfit) ints_one ?_
   ·rw [List.length_map,hrl];have:=Hje.out;show n=min (Je-J) (N-o);omega
   ·intro i v hv
    obtain ⟨hi,rfl⟩:=intsAt hv
    rw [hrl] at hi
    rw [hrat i hi,Addr.add_lit]
    refine (HQj.out.drew).cell (p:=⟨bb,boff+J+i,none⟩) ?_ (by rw [mSg];exact hbg)
    rw [Nat.add_assoc]
    exact Hbc.out (J+i) (by have:=Hje.out;omega)
   refine hK.out _ _ ?_ (fun hHeld=>?_)
   ·exact ⟨honly.cell r0 (by rw [mSg];simp only;omega),honly.cell r2 (by rw [mSg];simp only;omega)⟩
   clear hK K
   try simp only [Act.put,List.setIfInBounds_toArray,List.set_cons_zero,List.set_cons_succ]
   refine wpAnyH_done (by kernel_rfl) ?_ _
   have HOx:=lh hown'
   have HQx:=lh (((Only.refl [g] wr).drew).trans honly (fun _ h _=>h) (fun _ h _=>h))
   have HLx:Hid ((rowD ((List.range j).foldl (layP W x y n b) pix) o row).length=N):=lh (by rw [rowD_len (by rw [HLj.out,hrl];exact hoN)];exact HLj.out)
   have HMx:Hid ((List.range (j+1)).foldl (layP W x y n b) pix=rowD ((List.range j).foldl (layP W x y n b) pix) o row):=lh (by
    rw [layP_more,layP,hrow]
    have e:(((y:Int)+(j:Int))*(W:Int)+(x:Int)).toNat=o:=by
     rw [← Ho.out,HM.out,← Hyj.out]
     rw [← Int.natCast_add,← Int.natCast_mul,← Int.natCast_add]
     rfl
    rw [e,← HJ.out])
   clear hown' honly hcur hfit hrk hrat hrl hrow
   go_wp2_with fail
   exact ⟨⟨j+1,by omega,by go_num,by rw [HMx.out];exact HOx,by rw [HMx.out];exact HLx,lh (HQj.out.trans HQx.out (fun _ h _=>h) (fun _ h _=>h))⟩,by simp [intOf];omega⟩
  ·obtain rfl:j=n:=by omega
   have hx:¬ (j:Int)<(j:Int):=by omega
   go_wp2_with fail
   refine bodyPost_end (results_none Tryz.results100 _ _ _) rfl (HPost.out _ _ ⟨rfl,?_,HQ0.out.trans HQj.out (by simp) (fun g h _=>h)⟩)
   rw [HE.out]
   exact HOj.out
theorem run_make_room (m:Nat) (hm:m≤1000000) (w:World):(Instr.makeSlice 48 (.int .i64 0) (.int .i64 m)).run Tryz.prog w=.ok (.slice (some ⟨w.heap.size,0,none⟩) 0 m) (w.alloc (.cells (madeCells #[.int .i64 0] m) 3)):=by
 obtain ⟨i,hi,hz,hs,hb⟩:=EI.inf
 have hr:=run_make (P:=Tryz.prog) w 48 3 i (.int .i64 0) EI.ut hi hz .i64 .i64 0 m (by omega) (by omega) (by rw [hb];omega) (by omega)
 simp only [hs,Nat.mul_one,Int.toNat_natCast,Int.toNat_zero] at hr
 exact hr
theorem own_room (m:Nat) (hm:m≤1000000) (w:World):Own .i64 3 w.heap.size (w.alloc (.cells (madeCells #[.int .i64 0] m) 3)) (.slice (some ⟨w.heap.size,0,none⟩) 0 m) [] :=
 ⟨⟨rfl,.inr ⟨w.heap.size,m,_,rfl,Nat.le_refl _,heap_alloc_new _ _,Nat.zero_le _,by simp [maxLen];omega,by rw [size_madeCells,Nat.mul_one],by simp⟩⟩,by simp⟩
def vpartB (n:Int):Bool:=decide (-15≤n∧n≤15)
theorem vpart_any (n:Int) (w:World):Calls Tryz.prog 183 #[.int .i64 n] w fun e w'=>e=.returned (.bool (vpartB n))∧w=w':=by
 go_enter Tryz.func183,Tryz.ntmps183
 go_wp2
 all_goals
  go_ret
  exact ⟨ret_bool (by unfold vpartB;rw [Bool.eq_iff_iff];simp;try omega),rfl⟩
theorem vmay_any (a b:Int) (w:World):Calls Tryz.prog 144 #[.agg #[.int .i64 a,.int .i64 b]] w fun e w'=>e=.returned (.bool (vpartB a && vpartB b))∧Only [] w w':=by
 have hq:=Only.new w (.cells #[.int .i64 a,.int .i64 b] 134)
 have HQ:=lh hq
 clear hq
 have HA:=lh (fun W:World=>vpart_any a W)
 have HB:=lh (fun W:World=>vpart_any b W)
 generalize vpartB a=p at *
 generalize vpartB b=q at *
 cases p
 all_goals
  go_enter Tryz.func144,Tryz.ntmps144
  go_wp2_with (first | (go_at_call 183;(first | ((with_reducible refine (HA.out _).mono ?_);rintro e w' ⟨rfl,rfl⟩) | ((with_reducible refine (HB.out _).mono ?_);rintro e w' ⟨rfl,rfl⟩))) | fail)
  go_ret
  exact ⟨ret_bool (by simp),HQ.out⟩
theorem blockRow_len (f:FrameD) (x y:Int) (n:Nat) (vx vy:Int) (j:Nat):(blockRow f x y n vx vy j).length=n:=by simp [blockRow]
def blockGo (f:FrameD) (x y vx vy:Int) (j:Nat):List Int:=(List.range j).flatMap (blockRow f x y 8 vx vy)
theorem blockGo_more (f:FrameD) (x y vx vy:Int) (j:Nat):blockGo f x y vx vy (j+1)=blockGo f x y vx vy j ++ blockRow f x y 8 vx vy j:=by
 unfold blockGo
 rw [List.range_succ,List.flatMap_append]
 simp
theorem blockGo_len (f:FrameD) (x y vx vy:Int) (j:Nat):(blockGo f x y vx vy j).length=j*8:=by
 unfold blockGo
 rw [flatMap_len 8 _ _ (fun j _=>blockRow_len _ _ _ _ _ _ _),List.length_range]
def rowGo (f:FrameD) (x y vx vy:Int) (j i:Nat):List Int:=(List.range i).map fun i:Nat=>halfD f (2*(x+(i:Int))+vx) (2*(y+(j:Int))+vy)
theorem rowGo_more (f:FrameD) (x y vx vy:Int) (j i:Nat):rowGo f x y vx vy j (i+1)=rowGo f x y vx vy j i ++ [halfD f (2*(x+(i:Int))+vx) (2*(y+(j:Int))+vy)]:=by
 unfold rowGo
 rw [List.range_succ,List.map_append]
 simp
theorem rowGo_len (f:FrameD) (x y vx vy:Int) (j i:Nat):(rowGo f x y vx vy j i).length=i:=by simp [rowGo]
theorem msquare_any {lo hi:Nat} {pv:Value} {w:World} {f:FrameD} (hok:FrOk f) (h:Ints .i64 lo hi w pv f.pix) (x y vx vy:Int) (hx:0≤x∧x≤32) (hy:0≤y∧y≤32) (hvx:-15≤vx∧vx≤15) (hvy:-15≤vy∧vy≤15) :
  Calls Tryz.prog 145 #[.agg #[.int .i64 f.W,.int .i64 f.H,pv],.int .i64 x,.int .i64 y,.int .i64 8,.agg #[.int .i64 vx,.int .i64 vy]] w fun e w'=>∃ v',e=.returned v'∧Own .i64 3 w.heap.size w' v' (blockD f x y 8 vx vy)∧Only [] w w':=by
 refine hidQ fun Q HPost=>?_
 obtain ⟨a,cap,rfl,-⟩:=h.open
 have HD:Hid (blockD f x y 8 vx vy=blockGo f x y vx vy 8):=lh rfl
 have HR:∀ j,Hid (rowGo f x y vx vy j 8=blockRow f x y 8 vx vy j):=fun j=>lh rfl
 have HRow:=lh HR
 clear HR
 have Hin:=lh (fun hx hy=>halfD_in hok.sam hx hy)
 have hq1:=Only.new w (.cells #[.int .i64 f.W,.int .i64 f.H,.slice a f.pix.length cap] 70)
 have hq2:=hq1.q (Only.new _ (.cells #[.int .i64 vx,.int .i64 vy] 134))
 have hr1:=(Only.new (w.alloc (.cells #[.int .i64 f.W,.int .i64 f.H,.slice a f.pix.length cap] 70)) (.cells #[.int .i64 vx,.int .i64 vy] 134)).row (heap_alloc_new w _)
 have hr2:=heap_alloc_new' (w:=w.alloc (.cells #[.int .i64 f.W,.int .i64 f.H,.slice a f.pix.length cap] 70)) (o:=.cells #[.int .i64 vx,.int .i64 vy] 134) (g:=w.heap.size+1) (by simp)
 have HI:=lh (h.quiet hq2)
 have HR1:=lh hr1
 have HR2:=lh hr2
 have HQ2:=lh hq2
 have hmk:∀ W:World,(Instr.makeSlice 48 (.int .i64 0) (.int .i64 64)).run Tryz.prog W=.ok (.slice (some ⟨W.heap.size,0,none⟩) 0 64) (W.alloc (.cells (madeCells #[.int .i64 0] 64) 3)):=fun W=>run_make_room 64 (by omega) W
 have hH:=lh (fun (hx hy:Int) (a0:-1000≤hx∧hx≤1000) (b0:-1000≤hy∧hy≤1000) (W:World) (o:Ints .i64 lo hi W (.slice a f.pix.length cap) f.pix)=>half_any hok o hx hy a0 b0)
 obtain ⟨hx0,hx1⟩:=hx
 obtain ⟨hy0,hy1⟩:=hy
 obtain ⟨hv0,hv1⟩:=hvx
 obtain ⟨hv2,hv3⟩:=hvy
 clear h hq1 hq2 hr1 hr2
 go_enter Tryz.func145,Tryz.ntmps145
 go_wp2_with fail
 clear hmk
 have HO:=lh (own_room 64 (by omega) ((w.alloc (.cells #[.int .i64 f.W,.int .i64 f.H,.slice a f.pix.length cap] 70)).alloc (.cells #[.int .i64 vx,.int .i64 vy] 134)))
 have hz2:((w.alloc (.cells #[.int .i64 f.W,.int .i64 f.H,.slice a f.pix.length cap] 70)).alloc (.cells #[.int .i64 vx,.int .i64 vy] 134)).heap.size=w.heap.size+1+1:=by simp
 have Hz2:=lh hz2
 rw [hz2] at HO
 clear hz2
 generalize hW2:World.alloc (World.alloc w _) _=W2 at *
 clear hW2
 go_loopw [19,11,12,13,23] (fun j r _ _ _ wr=>∃ (k:Nat),k≤8∧j=.int .i64 k∧Hid (Own .i64 3 (w.heap.size+1+1) wr r (blockGo f x y vx vy k))∧Hid (From (w.heap.size+1+1) r)∧Hid (Only [] W2 wr)) (fun j _ _ _ _ _=>8-(intOf j).toNat)
 case atStart=>exact ⟨0,by omega,rfl,HO,lh (From.lit (Nat.le_refl _)),lh (Only.new _ _)⟩
 case round =>
  obtain ⟨k,hk,rfl,HOk,HFk,HQk⟩:=hrel
  by_cases hlt:k<8
  ·have hki:(k:Int)<8:=by omega
   have hk0:(0:Int)≤(k:Int):=by omega
   go_wp2_with fail
   go_loopw [23,11,13] (fun i r _ wr=>∃ (n:Nat),n≤8∧i=.int .i64 n∧Hid (Own .i64 3 (w.heap.size+1+1) wr r (blockGo f x y vx vy k ++ rowGo f x y vx vy k n))∧Hid (From (w.heap.size+1+1) r)∧Hid (Only [] W2 wr)) (fun i _ _ _=>8-(intOf i).toNat)
   case atStart=>exact ⟨0,by omega,rfl,lh (by rw [show rowGo f x y vx vy k 0=[] from rfl,List.append_nil];exact HOk.out),HFk,HQk⟩
   case round =>
    obtain ⟨n,hn,rfl,HOn,HFn,HQn⟩:=hrel
    by_cases hnlt:n<8
    ·have hni:(n:Int)<8:=by omega
     have hn0:(0:Int)≤(n:Int):=by omega
     have hmore:=rowGo_more f x y vx vy k n
     have hlen:=blockGo_len f x y vx vy k
     have hlen2:=rowGo_len f x y vx vy k n
     have hcall:=fun W o=>hH.out (2*(x+(n:Int))+vx) (2*(y+(k:Int))+vy) (by omega) (by omega) W o
     have hin:=Hin.out (2*(x+(n:Int))+vx) (2*(y+(k:Int))+vy)
     have HC:=lh hcall
     clear hcall
     generalize halfD f (2*(x+(n:Int))+vx) (2*(y+(k:Int))+vy)=hv at *
     have hink:∀ z∈[hv],InK .i64 z:=by simp only [mSg,forall_eq,InK];omega
     have hsrc:=lh (fun (W:World)=>ints_newG (k:=.i64) (w:=W) (t:=3) (l:=[hv]) rfl (by simp [maxLen]) hink 1 rfl rfl)
     have hby:=lh (show ((blockGo f x y vx vy k ++ rowGo f x y vx vy k n).length+[hv].length)*8≤140737488355328 by rw [List.length_append,hlen,hlen2];simp;omega)
     have Hmore:=lh hmore
     obtain ⟨ra,rcap,rfl,-⟩:=HOn.out.ints.open
     have hll:(blockGo f x y vx vy k ++ rowGo f x y vx vy k n).length=k*8+n:=by rw [List.length_append,hlen,hlen2]
     rw [hll] at HOn HFn ⊢
     obtain ⟨r0,r1,r2⟩:=frame_cells (HQn.out.row HR1.out)
     obtain ⟨v0,v1⟩:=row2 (HQn.out.row HR2.out)
     have HLn:=lh hll
     have HIn:=lh (HI.out.quiet HQn.out)
     clear hmore hlen hlen2 hink hll hin
     have Hlen:Hid (((blockGo f x y vx vy k ++ rowGo f x y vx vy k n) ++ [hv]).length=k*8+n+1):=lh (by rw [List.length_append,HLn.out];rfl)
     go_wp2_with fail
     go_at_call 184
     refine (HC.out _ HIn.out).mono ?_
     rintro e w3 ⟨rfl,hq3⟩
     have HQ3:=lh hq3
     have HO3:=lh (HOn.out.quiet hq3)
     have hba:=lh (fun (o:Obj)=>(show w.heap.size+1+1≤(w3.alloc o).heap.size by have:=HQn.out.size;have:=hq3.size;have:=Hz2.out;simp;omega))
     have HFs:Hid (From W2.heap.size (Value.slice ra (k*8+n) rcap)):=lh (by rw [Hz2.out];exact HFn.out)
     clear hq3
     go_wp2_with (first
      | (at_builtin;refine wpList_append_ints rfl (.tmp 26) (.tmp 43) _ rfl EI (HO3.out.quiet (Only.new _ _)) rfl (hsrc.out _) rfl hby.out (hba.out _) (fun v1 w4 hown1 ho1=>?_);obtain ⟨x1,x1cap,hx1,_⟩:=hown1.ints.open;subst hx1;rw [Hlen.out] at hown1 ho1 ⊢;have HO1:=lh hown1;have HA1:=lh ho1;clear hown1 ho1)
      | fail)
     refine ⟨⟨n+1,by omega,by go_num,lh ?_,lh (HA1.out.from_ HFn.out (hba.out _)),lh (((HQn.out.q HQ3.out).q (Only.new _ _)).acc HA1.out HFs.out)⟩,by simp [intOf];omega⟩
     rw [Hmore.out,← List.append_assoc]
     exact HO1.out
    ·obtain rfl:n=8:=by omega
     have hlen:=blockGo_len f x y vx vy k
     have hlen2:=rowGo_len f x y vx vy k 8
     have Hm:=lh (blockGo_more f x y vx vy k)
     obtain ⟨ra,rcap,rfl,-⟩:=HOn.out.ints.open
     have hll:(blockGo f x y vx vy k ++ rowGo f x y vx vy k 8).length=k*8+8:=by rw [List.length_append,hlen,hlen2]
     rw [hll] at HOn HFn ⊢
     clear hlen hlen2 hll
     go_wp2_with fail
     refine ⟨⟨k+1,by omega,by go_num,lh ?_,HFn,HQn⟩,by simp [intOf];omega⟩
     rw [Hm.out,← (HRow.out k).out]
     exact HOn.out
  ·obtain rfl:k=8:=by omega
   have hlen:=blockGo_len f x y vx vy 8
   obtain ⟨ra,rcap,rfl,-⟩:=HOk.out.ints.open
   rw [hlen] at HOk HFk ⊢
   clear hlen
   go_wp2_with fail
   refine HPost.out _ _ ⟨_,rfl,?_,HQ2.out.q HQk.out⟩
   rw [HD.out]
   exact HOk.out.lower (by omega)
theorem mblock_any {lo hi:Nat} {pv:Value} {w:World} {f:FrameD} (hok:FrOk f) (h:Ints .i64 lo hi w pv f.pix) (x y vx vy:Int) (hx:0≤x∧x≤32) (hy:0≤y∧y≤32) (hvx:-15≤vx∧vx≤15) (hvy:-15≤vy∧vy≤15) :
  Calls Tryz.prog 101 #[.agg #[.int .i64 f.W,.int .i64 f.H,pv],.int .i64 x,.int .i64 y,.int .i64 8,.agg #[.int .i64 vx,.int .i64 vy]] w fun e w'=>∃ v',e=.returned v'∧Own .i64 3 w.heap.size w' v' (blockD f x y 8 vx vy)∧Only [] w w':=by
 refine hidQ fun Q HPost=>?_
 obtain ⟨a,cap,rfl,-⟩:=h.open
 have hq1:=Only.new w (.cells #[.int .i64 f.W,.int .i64 f.H,.slice a f.pix.length cap] 70)
 have hq2:=hq1.q (Only.new _ (.cells #[.int .i64 vx,.int .i64 vy] 134))
 have hr1:=(Only.new (w.alloc (.cells #[.int .i64 f.W,.int .i64 f.H,.slice a f.pix.length cap] 70)) (.cells #[.int .i64 vx,.int .i64 vy] 134)).row (heap_alloc_new w _)
 have hr2:=heap_alloc_new' (w:=w.alloc (.cells #[.int .i64 f.W,.int .i64 f.H,.slice a f.pix.length cap] 70)) (o:=.cells #[.int .i64 vx,.int .i64 vy] 134) (g:=w.heap.size+1) (by simp)
 have HI:=lh (h.quiet hq2)
 have HR1:=lh hr1
 have HR2:=lh hr2
 have HQ2:=lh hq2
 have HM:=lh (fun (W:World) (o:Ints .i64 lo hi W (.slice a f.pix.length cap) f.pix)=>pmay_any f.W f.H o)
 have ht:mayF ⟨f.W,f.H,f.pix⟩=true:=mayF_iff.2 hok
 have hvt:(vpartB vx && vpartB vy)=true:=by simp [vpartB,hvx,hvy]
 have HS:=lh (fun (W:World) (o:Ints .i64 lo hi W (.slice a f.pix.length cap) f.pix)=>msquare_any hok o x y vx vy hx hy hvx hvy)
 have HV:=lh (fun (W:World)=>vmay_any vx vy W)
 rw [ht] at HM
 rw [hvt] at HV
 obtain ⟨hx0,hx1⟩:=hx
 obtain ⟨hy0,hy1⟩:=hy
 clear h hq1 hq2 hr1 hr2 ht hvt
 go_enter Tryz.func101,Tryz.ntmps101
 go_wp2_with fail
 obtain ⟨r0,r1,r2⟩:=frame_cells HR1.out
 generalize hW2:World.alloc (World.alloc w _) _=W2 at *
 clear hW2
 go_wp2_with fail
 go_at_call 93
 refine (HM.out W2 HI.out).mono ?_
 rintro e w3 ⟨rfl,hq3⟩
 obtain ⟨r3,r4,r5⟩:=frame_cells (hq3.row HR1.out)
 obtain ⟨v0,v1⟩:=row2 (hq3.row HR2.out)
 have HQ3:=lh hq3
 clear hq3 r0 r1 r2
 go_wp2_with fail
 go_at_call 144
 refine (HV.out w3).mono ?_
 rintro e w4 ⟨rfl,hq4⟩
 have hq34:=HQ3.out.q hq4
 obtain ⟨r0,r1,r2⟩:=frame_cells (hq34.row HR1.out)
 obtain ⟨u0,u1⟩:=row2 (hq34.row HR2.out)
 have HQ4:=lh hq34
 clear hq4 hq34 r3 r4 r5 v0 v1
 go_wp2_with fail
 go_at_call 145
 refine (HS.out w4 (HI.out.quiet HQ4.out)).mono ?_
 rintro e w5 ⟨v5,rfl,hown,hq5⟩
 have HO:=lh hown
 have HQ5:=lh hq5
 clear hown hq5
 go_wp2_with fail
 exact HPost.out _ _ ⟨v5,rfl,HO.out.lower (Nat.le_trans HQ2.out.size HQ4.out.size),(HQ2.out.q HQ4.out).q HQ5.out⟩
end Go.Proofs.YtmdobcffijnaoaaGreatDoor
