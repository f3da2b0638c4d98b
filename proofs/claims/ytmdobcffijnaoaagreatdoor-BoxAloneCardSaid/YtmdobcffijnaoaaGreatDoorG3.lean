/- Joined texts: Gop, May. Conditions: each part names its own. -/
import Derived.Test.YtmdobcffijnaoaaGreatDoorC1
import Derived.Test.YtmdobcffijnaoaaGreatDoorC3
namespace Go.Proofs.YtmdobcffijnaoaaGreatDoor
open Go.RowKit
set_option linter.unusedVariables false
set_option linter.unusedSimpArgs false
set_option maxRecDepth 100000
set_option maxHeartbeats 16000000
def costOf (c:Coded):Int:=(c.data.length:Int)+8
def sizesOf (l:List Coded):List Int:=l.map costOf
theorem getD_map_take {l:List Coded} {k:Nat} (h:k<l.length):sizesOf (l.take (k+1))=sizesOf (l.take k) ++ [((l.getD k default).data.length:Int)+8]:=by
 rw [List.take_succ_eq_append_getElem h,sizesOf,List.map_append];simp [sizesOf,costOf,h]
theorem sizes_any {lo hi:Nat} {v:Value} {l:List Coded} {w:World} (h:CodedsAt lo hi w v l) (hl:l.length≤1000000) (hd:∀ i,i<l.length→(l.getD i default).data.length≤1000000000000000) :
  Calls Tryz.prog 31 #[v] w fun e w'=>∃ v',e=.returned v'∧Own .i64 3 w.heap.size w' v' (sizesOf l)∧Only [] w w':=by
 obtain ⟨a,cap,hv,hcap,hmax,hel⟩:=h.open
 subst hv
 have Hel:=lh hel
 have Hl:=lh hl
 have Hd:=lh hd
 have hll:(l.length:Int)≤9223372036854775807:=by omega
 clear h hel hmax hcap hl hd
 go_enter Tryz.func31,Tryz.ntmps31
 go_wp2
 go_loopw [8,3] (fun i y wr=>∃ k:Nat,k≤l.length∧i=.int .i64 k∧Own .i64 3 w.heap.size wr y (sizesOf (l.take k))∧From w.heap.size y∧Only [] w wr) (fun i _ _=>l.length-(intOf i).toNat)
 case atStart=>exact ⟨0,by omega,rfl,Own.nil _ _ _ _,From.nil _,Only.refl _ _⟩
 case round =>
  obtain ⟨k,hk,rfl,hown,hfrom,hq⟩:=hrel
  by_cases hlt:k<l.length
  ·obtain ⟨b,off,dv,rfl,_,_,hc1,hc2,_,hd⟩:=Hel.out k hlt
   have c1:=hq.cell hc1 (by simp)
   have c2:=hq.cell hc2 (by simp)
   obtain ⟨da,dcap,rfl,_⟩:=hd.open
   have hdl:=Hd.out k hlt
   have hs:=getD_map_take hlt
   have hlen:(sizesOf (l.take k)).length=k:=by simp [sizesOf];omega
   have hd':=fun o=>hd.quiet (hq.q (Only.new wr o))
   clear hc1 hc2 hd
   have Hs:=lh hs
   clear hs
   generalize sizesOf (l.take k)=S0 at *
   generalize l.getD k default=x at *
   have Hlen:=lh hlen
   have Hdv:=lh hd'
   have hx:(0:Int)≤(k:Int):=by omega
   have hx1:(k:Int)<(l.length:Int):=by omega
   clear hlen hd'
   go_wp2_with (first
    | (go_at_call 37;(refine (cost_any (Hdv.out _) (by omega)).mono ?_);rintro e w2 ⟨rfl,ho⟩)
    | (at_builtin;refine wpList_append_ints rfl (.tmp 12) (.tmp 15) _ rfl EI (hown.quiet (((Only.new _ _).q ho).q (Only.new _ _))) rfl (ints_newG (l:=[(x.data.length:Int)+8]) rfl (by simp [maxLen]) ?c0 1 rfl rfl) rfl ?c1 ?c2 (fun v1 w1 hown1 ho1=>?_))
    | fail)
   case c0=>simp only [List.mem_cons,List.not_mem_nil,or_false,forall_eq,InK];omega
   case c1=>have:=Hlen.out;have:=Hl.out;simp;omega
   case c2=>have:=hq.size;have:=ho.size;simp at this ⊢;omega
   have hq2:=(hq.q (Only.new _ _)).q (ho.q (Only.new _ (.cells #[.int .i64 ((x.data.length:Int)+8)] 3)))
   go_roundw
   case rel=>exact ⟨k+1,by omega,by go_num,by rw [Hs.out];exact hown1,ho1.from_ hfrom hq2.size,hq2.acc ho1 hfrom⟩
   case measure=>simp [intOf];omega
  ·obtain rfl:k=l.length:=by omega
   go_wp2
   go_ret
   exact ⟨_,rfl,by simpa using hown,hq⟩
/-- may this be a chunk -/
def chunkB (c:Chunk):Bool :=
 headB c.number c.first c.count && decide ((c.coded.length:Int)=c.count) && firstB (c.coded.getD 0 default).kind && c.coded.all fun x=>(readB x).isNone
theorem all_drop_succ {α:Type} [Inhabited α] (f:α→Bool) {l:List α} {k:Nat} (h:k<l.length):(l.drop k).all f=(f (l.getD k default) && (l.drop (k+1)).all f):=by
 rw [List.drop_eq_getElem_cons h,List.all_cons]
 congr 2
 simp [h]
theorem gmay_any {lo hi:Nat} {dv:Value} {c:Chunk} {w:World} (h:CodedsAt lo hi w dv c.coded) (hc:ChunkOk c) :
  Calls Tryz.prog 59 #[.agg #[.int .i64 c.number,.int .i64 c.first,.int .i64 c.count,dv]] w fun e w'=>e=.returned (.bool (chunkB c))∧Only [] w w':=by
 obtain ⟨num,fst,cnt,cod⟩:=c
 simp only at h
 obtain ⟨a,cap,rfl,hcap,hmax,hel⟩:=h.open
 have Hel:=lh hel
 have hll:(cod.length:Int)≤9223372036854775807:=by unfold maxLen at hmax;omega
 clear h hel hmax hcap hc
 by_cases hh:headB num fst cnt=true
 ·by_cases hn:(cod.length:Int)=cnt
  ·have hpos:0<cod.length:=by unfold headB at hh;rw [decide_eq_true_eq] at hh;omega
   have hp:(0:Int)<(cod.length:Int):=by omega
   obtain ⟨b,off,dv,rfl,_,_,hc1,hc2,_,hd⟩:=Hel.out 0 hpos
   simp only [Nat.zero_mul,Nat.add_zero] at hc1 hc2
   have q1:=fun o=>(Only.new w o).cell hc1 (by simp)
   have q2:=fun o=>(Only.new w o).cell hc2 (by simp)
   subst hn
   by_cases hf:firstB (cod.getD 0 default).kind=true
   ·have hall:chunkB ⟨num,fst,cod.length,cod⟩=cod.all fun x=>(readB x).isNone:=by simp only [chunkB,hh,hf];simp
    have Hall:=lh hall
    generalize hk0:(cod.getD 0 default).kind=k0 at *
    clear hk0 hall hc1 hc2 hd
    have row:=heap_alloc_new w (.cells #[.int .i64 num,.int .i64 fst,.int .i64 cod.length,.slice (some ⟨b,off,none⟩) cod.length cap] 92)
    have r1:∀ w1,Only [] (w.alloc (.cells #[.int .i64 num,.int .i64 fst,.int .i64 cod.length,.slice (some ⟨b,off,none⟩) cod.length cap] 92)) w1→w1.cell? ⟨w.heap.size,2,none⟩=some (.int .i64 cod.length)∧w1.cell? ⟨w.heap.size,3,none⟩=some (.slice (some ⟨b,off,none⟩) cod.length cap):=fun w1 hq=>⟨hq.cell (by rw [cell_of_row _ _ _ _ _ _ row];rfl) (by simp),hq.cell (by rw [cell_of_row _ _ _ _ _ _ row];rfl) (by simp)⟩
    have R1:=lh r1
    clear r1 row
    have q1:=q1 (.cells #[.int .i64 num,.int .i64 fst,.int .i64 cod.length,.slice (some ⟨b,off,none⟩) cod.length cap] 92)
    go_enter Tryz.func59,Tryz.ntmps59
    go_wp2_with (first | (go_at_call 106;refine (ghead_any _ _ _ _).mono ?_;rintro e w1 ⟨rfl,hq1⟩;obtain ⟨r2,r3⟩:=R1.out _ hq1;have q2:=hq1.cell q1 (by simp)) | (go_at_call 107;refine (gfirst_any _ _).mono ?_;rintro e w2 ⟨rfl,rfl⟩) | fail)
    have hq1':Only [] w w1:=(Only.new _ _).q hq1
    clear r2 r3 q2 R1 q1 hq1
    go_loopw [34] (fun i wr=>∃ k:Nat,k≤cod.length∧i=.int .i64 k∧Hid (((cod.drop k).all fun x=>(readB x).isNone)=(cod.all fun x=>(readB x).isNone))∧Only [] w wr) (fun i _=>cod.length-(intOf i).toNat)
    case atStart=>exact ⟨0,by omega,rfl,lh rfl,hq1'⟩
    case round =>
     obtain ⟨k,hk,rfl,Hk,hq⟩:=hrel
     by_cases hlt:k<cod.length
     ·obtain ⟨b',off',dv',e,_,_,hc1,hc2,_,hd⟩:=Hel.out k hlt
      injection e with e
      injection e with e1 e2
      subst e1;subst e2
      have c1:=hq.cell hc1 (by simp)
      have c2:=hq.cell hc2 (by simp)
      obtain ⟨da,dcap,rfl,_⟩:=hd.open
      have Hd:=lh (fun w' (o:Only [] wr w')=>hd.quiet (hq.q o))
      have hx:(0:Int)≤(k:Int):=by omega
      have hx1:(k:Int)<(cod.length:Int):=by omega
      have hdrop:=all_drop_succ (fun x=>(readB x).isNone) hlt
      have Hdrop:=lh hdrop
      clear hc1 hc2 hd hdrop
      generalize cod.getD k default=x at *
      obtain ⟨xk,xd⟩:=x
      simp only at c1 c2
      by_cases hr:∃ e,readB ⟨xk,xd⟩=some e
      ·obtain ⟨e,hr⟩:=hr
       have Hr:=lh hr
       clear hr
       go_wp2_with (first | (go_at_call 49;refine (read_any (Hd.out _ (Only.new _ _))).mono ?_;rintro e w2 ⟨hq2,hm⟩;rw [Hr.out] at hm;subst hm) | fail)
       go_ret
       refine ⟨ret_bool ?_,hq.q ((Only.new _ _).q (hq2.q (Only.new _ _)))⟩
       rw [Hall.out,← Hk.out,Hdrop.out,Hr.out]
       rfl
      ·have hr:readB ⟨xk,xd⟩=none:=by
        cases hx:readB ⟨xk,xd⟩ with
        | none=>rfl
        | some e=>exact absurd ⟨e,hx⟩ hr
       have Hr:=lh hr
       clear hr
       go_wp2_with (first | (go_at_call 49;refine (read_any (Hd.out _ (Only.new _ _))).mono ?_;rintro e w2 ⟨hq2,hm⟩;rw [Hr.out] at hm;obtain ⟨dv2,rfl,hi2⟩:=hm;obtain ⟨a2,cap2,rfl,_⟩:=hi2.open) | fail)
       go_roundw
       case rel =>
        have hfin:Hid (((cod.drop (k+1)).all fun x=>(readB x).isNone)=(cod.all fun x=>(readB x).isNone)):=lh (by rw [← Hk.out,Hdrop.out,Hr.out];rfl)
        have hqq:Only [] w w2:=hq.q ((Only.new _ _).q hq2)
        first | exact ⟨k+1,by omega,by go_num,hfin,hqq.q (Only.new _ _)⟩ | ((repeat apply Exists.intro);exact ⟨⟨k+1,by omega,by go_num,hfin,hqq.q (Only.new _ _)⟩,rfl⟩)
       case measure=>simp [intOf];omega
     ·obtain rfl:k=cod.length:=by omega
      have hx:¬ (cod.length:Int)<(cod.length:Int):=by omega
      go_wp2
      go_ret
      refine ⟨ret_bool ?_,hq⟩
      rw [Hall.out,← Hk.out,List.drop_length]
      rfl
   ·have hv:chunkB ⟨num,fst,cod.length,cod⟩=false:=by
     have hf':firstB (cod.getD 0 default).kind=false:=by simpa using hf
     simp only [chunkB,hf'];simp
    have Hv:=lh hv
    have hf':firstB (cod.getD 0 default).kind=false:=by simpa using hf
    generalize hk0:(cod.getD 0 default).kind=k0 at *
    clear hk0 hv hc1 hc2 hd hf
    have row:=heap_alloc_new w (.cells #[.int .i64 num,.int .i64 fst,.int .i64 cod.length,.slice (some ⟨b,off,none⟩) cod.length cap] 92)
    have r1:∀ w1,Only [] (w.alloc (.cells #[.int .i64 num,.int .i64 fst,.int .i64 cod.length,.slice (some ⟨b,off,none⟩) cod.length cap] 92)) w1→w1.cell? ⟨w.heap.size,2,none⟩=some (.int .i64 cod.length)∧w1.cell? ⟨w.heap.size,3,none⟩=some (.slice (some ⟨b,off,none⟩) cod.length cap):=fun w1 hq=>⟨hq.cell (by rw [cell_of_row _ _ _ _ _ _ row];rfl) (by simp),hq.cell (by rw [cell_of_row _ _ _ _ _ _ row];rfl) (by simp)⟩
    have R1:=lh r1
    clear r1 row
    have q1:=q1 (.cells #[.int .i64 num,.int .i64 fst,.int .i64 cod.length,.slice (some ⟨b,off,none⟩) cod.length cap] 92)
    go_enter Tryz.func59,Tryz.ntmps59
    go_wp2_with (first | (go_at_call 106;refine (ghead_any _ _ _ _).mono ?_;rintro e w1 ⟨rfl,hq1⟩;obtain ⟨r2,r3⟩:=R1.out _ hq1;have q2:=hq1.cell q1 (by simp)) | (go_at_call 107;refine (gfirst_any _ _).mono ?_;rintro e w2 ⟨rfl,rfl⟩) | fail)
    go_ret
    exact ⟨ret_bool (Hv.out ▸ rfl),(Only.new _ _).q hq1⟩
  ·have hv:chunkB ⟨num,fst,cnt,cod⟩=false:=by simp [chunkB,hn]
   have Hv:=lh hv
   have hnb:((cod.length:Int) == cnt)=false:=by rw [beq_eq_false_iff_ne];exact hn
   clear hv
   have row:=heap_alloc_new w (.cells #[.int .i64 num,.int .i64 fst,.int .i64 cnt,.slice a cod.length cap] 92)
   have r1:∀ w1,Only [] (w.alloc (.cells #[.int .i64 num,.int .i64 fst,.int .i64 cnt,.slice a cod.length cap] 92)) w1→w1.cell? ⟨w.heap.size,2,none⟩=some (.int .i64 cnt)∧w1.cell? ⟨w.heap.size,3,none⟩=some (.slice a cod.length cap):=fun w1 hq=>⟨hq.cell (by rw [cell_of_row _ _ _ _ _ _ row];rfl) (by simp),hq.cell (by rw [cell_of_row _ _ _ _ _ _ row];rfl) (by simp)⟩
   have R1:=lh r1
   clear r1 row
   go_enter Tryz.func59,Tryz.ntmps59
   go_wp2_with (first | (go_at_call 106;refine (ghead_any _ _ _ _).mono ?_;rintro e w1 ⟨rfl,hq1⟩;obtain ⟨r2,r3⟩:=R1.out _ hq1) | fail)
   go_ret
   exact ⟨ret_bool (Hv.out ▸ rfl),(Only.new _ _).q hq1⟩
 ·have hv:chunkB ⟨num,fst,cnt,cod⟩=false:=by simp [chunkB,hh]
  have Hv:=lh hv
  have hh':headB num fst cnt=false:=by simpa using hh
  clear hv hh
  go_enter Tryz.func59,Tryz.ntmps59
  go_wp2_with (first | (go_at_call 106;refine (ghead_any _ _ _ _).mono ?_;rintro e w1 ⟨rfl,hq1⟩) | fail)
  go_ret
  exact ⟨ret_bool (Hv.out ▸ rfl),(Only.new _ _).q hq1⟩
end Go.Proofs.YtmdobcffijnaoaaGreatDoor
