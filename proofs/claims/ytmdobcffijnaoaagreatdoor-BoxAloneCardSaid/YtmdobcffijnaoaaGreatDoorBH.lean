/- Joined texts: Header, Index, Add. Conditions: each part names its own. -/
import Derived.Test.YtmdobcffijnaoaaGreatDoorG0
import Derived.Test.YtmdobcffijnaoaaGreatDoorC1
import Derived.Deep.RegionHeld3
import Derived.StillTailTactics
import Derived.Test.YtmdobcffijnaoaaGreatDoorC3
namespace Go.Proofs.YtmdobcffijnaoaaGreatDoor
open Go.RowKit
set_option linter.unusedVariables false
set_option linter.unusedSimpArgs false
set_option maxRecDepth 100000
set_option maxHeartbeats 16000000
def headerB (W H F np:Int) (c:Cfg):List Int :=
 [W / 8,H / 8,F,np,c.qmin,c.qmax,c.reach,c.gop] ++ be c.cut 2 ++ be c.rate 4 ++ be c.room 4 ++ be c.fill 4
/-- A box.Info as a value. -/
def infoV (W H F:Int) (c:Cfg) (parts:Value):Value:=.agg #[.int .i64 W,.int .i64 H,.int .i64 F,.int .i64 c.qmin,.int .i64 c.qmax,.int .i64 c.reach,.int .i64 c.cut,.int .i64 c.gop,.int .i64 c.rate,.int .i64 c.room,.int .i64 c.fill,parts]
theorem header_any (W H F:Int) (c:Cfg) (a:Option Addr) (np cap:Nat) {w:World} (hc:mayB c=true) (hW0:0≤W) (hW1:W≤2040) (hH0:0≤H) (hH1:H≤2040) (hF0:0≤F) (hF1:F≤255) (hnp:np≤255) :
  Calls Tryz.prog 34 #[infoV W H F c (.slice a np cap)] w fun e w'=>∃ v,e=.returned v∧Own .u8 5 w.heap.size w' v (headerB W H F np c)∧Only [] w w':=by
 obtain ⟨q0,q1,q2,q3,q4,q5,q6,q7,q8,q9,q10,q11,q12,q13,q14,q15,_⟩:=may_bounds hc
 clear hc
 obtain ⟨c0,c1,c2,c3,c4,c5,c6,c7⟩:=c
 simp only at q0 q1 q2 q3 q4 q5 q6 q7 q8 q9 q10 q11 q12 q13 q14 q15
 unfold infoV
 simp only
 go_enter Tryz.func34,Tryz.ntmps34
 go_wp2_with fail
 generalize hW:((World.alloc _ _).alloc _).alloc _=W3
 have hin:∀ x∈[W / 8,H / 8,F,(np:Int),c0,c1,c2,c4],InK .u8 x:=by
  simp only [List.mem_cons,List.not_mem_nil,or_false,forall_eq_or_imp,forall_eq,InK];omega
 have hO:Only [] w W3:=by rw [← hW];exact (((Only.refl _ _).alloc _).alloc _).alloc _
 have hown:Own .u8 5 (w.heap.size+1+1) W3 (.slice (some ⟨w.heap.size+1+1,0,none⟩) 8 8) [W / 8,H / 8,F,(np:Int),c0,c1,c2,c4]:=by
  rw [← hW];exact own_newG rfl (by simp [maxLen]) hin 8 rfl (by simp)
 have hsz:w.heap.size+3≤W3.heap.size:=by rw [← hW];simp
 have hcell:W3.heap[w.heap.size+1]?=some (.cells #[.int .i64 c0,.int .i64 c1,.int .i64 c2,.int .i64 c3,.int .i64 c4,.int .i64 c5,.int .i64 c6,.int .i64 c7] 39 (0,0)):=by
  rw [← hW,Below.heap_alloc _ _ _ (by simp)]
  exact heap_alloc_new' (by simp)
 have k3:W3.cell? ⟨w.heap.size+1,3,none⟩=some (.int .i64 c3):=by rw [cell_of_row _ _ _ _ _ _ hcell];rfl
 have k5:W3.cell? ⟨w.heap.size+1,5,none⟩=some (.int .i64 c5):=by rw [cell_of_row _ _ _ _ _ _ hcell];rfl
 have k6:W3.cell? ⟨w.heap.size+1,6,none⟩=some (.int .i64 c6):=by rw [cell_of_row _ _ _ _ _ _ hcell];rfl
 have k7:W3.cell? ⟨w.heap.size+1,7,none⟩=some (.int .i64 c7):=by rw [cell_of_row _ _ _ _ _ _ hcell];rfl
 clear hcell hW
 have hfin:headerB W H F np ⟨c0,c1,c2,c3,c4,c5,c6,c7⟩=[W / 8,H / 8,F,(np:Int),c0,c1,c2,c4] ++ be c3 2 ++ be c5 4 ++ be c6 4 ++ be c7 4:=rfl
 have Hfin:=lh hfin
 clear hfin
 go_region_held3 (fun w'=>w'.cell? ⟨w.heap.size+1,3,none⟩=some (.int .i64 c3)∧w'.cell? ⟨w.heap.size+1,5,none⟩=some (.int .i64 c5)∧w'.cell? ⟨w.heap.size+1,6,none⟩=some (.int .i64 c6)∧w'.cell? ⟨w.heap.size+1,7,none⟩=some (.int .i64 c7))
  (first
   | (go_split_ands;refine ⟨ho4.cell hb3 (by assumption) (by simp),ho4.cell hb3 (by assumption) (by simp),ho4.cell hb3 (by assumption) (by simp),ho4.cell hb3 (by assumption) (by simp)⟩)
   | (go_split_ands;refine ⟨ho3.cell hb2 (by assumption) (by simp),ho3.cell hb2 (by assumption) (by simp),ho3.cell hb2 (by assumption) (by simp),ho3.cell hb2 (by assumption) (by simp)⟩)
   | (go_split_ands;refine ⟨ho2.cell hb1 (by assumption) (by simp),ho2.cell hb1 (by assumption) (by simp),ho2.cell hb1 (by assumption) (by simp),ho2.cell hb1 (by assumption) (by simp)⟩)
   | (go_split_ands;refine ⟨ho1.cell hb0 (by assumption) (by simp),ho1.cell hb0 (by assumption) (by simp),ho1.cell hb0 (by assumption) (by simp),ho1.cell hb0 (by assumption) (by simp)⟩)
   | go_keep
   | fail)
  (first
   | (go_at_call 62;(refine (put4_any c7 hown3 ?_ ?_).mono ?_);(have:=ho3.only.size;omega);(simp [be_length]);(rintro e w4 ⟨v4,rfl,hown4,ho4⟩))
   | (go_at_call 62;(refine (put4_any c6 hown2 ?_ ?_).mono ?_);(have:=ho2.only.size;omega);(simp [be_length]);(rintro e w3 ⟨v3,rfl,hown3,ho3⟩);(have hz3:w.heap.size+3≤w3.heap.size:=(by have:=ho3.only.size;omega));(have hb3:From (w.heap.size+1+1) v3:=ho3.from_ hb2 (by omega)))
   | (go_at_call 62;(refine (put4_any c5 hown1 ?_ ?_).mono ?_);(have:=ho1.only.size;omega);(simp [be_length]);(rintro e w2 ⟨v2,rfl,hown2,ho2⟩);(have hz2:w.heap.size+3≤w2.heap.size:=(by have:=ho2.only.size;omega));(have hb2:From (w.heap.size+1+1) v2:=ho2.from_ hb1 (by omega)))
   | (go_at_call 62;(refine (put2_any (w:=W3.drew) c3 hown ?_ ?_).mono ?_);(simp;omega);(simp);(rintro e w1 ⟨v1,rfl,hown1,ho1⟩);(have hz1:w.heap.size+3≤w1.heap.size:=(by have:=ho1.only.size;simp at this;omega));(have hb0:From (w.heap.size+1+1) (.slice (some ⟨w.heap.size+1+1,0,none⟩) 8 8):=From.lit (by omega));(have hb1:From (w.heap.size+1+1) v1:=ho1.from_ hb0 (by simp;omega)))
   | fail)
 go_wp2
 go_ret
 refine ⟨v4,rfl,?_,?_⟩
 ·rw [Hfin.out];exact hown4.lower (by omega)
 ·have a0:Acc (.slice (some ⟨w.heap.size+1+1,0,none⟩) 8 8) W3 v4 w4:=(Acc.quiet (Only.refl [] _).drew).trans (((ho1.trans ho2).trans ho3).trans ho4)
  exact hO.acc a0 (From.lit (by omega))
def entryB (e:Entry):List Int:=e.first % 256 :: e.count % 256 :: (be e.offset 4 ++ be e.length 4)
def indexB (l:List Entry):List Int:=l.flatMap entryB
theorem indexB_take {l:List Entry} {k:Nat} (h:k<l.length):indexB (l.take (k+1))=indexB (l.take k) ++ entryB (l.getD k default):=by
 rw [List.take_succ_eq_append_getElem h,indexB,List.flatMap_append];simp [indexB,h]
theorem indexB_length (l:List Entry):(indexB l).length=10*l.length:=by
 induction l with
 | nil=>rfl
 | cons e l ih=>simp only [indexB,List.flatMap_cons,List.length_append,entryB,List.length_cons,be_length] at ih ⊢;omega
theorem Acc.keep {a b:Value} {w w':World} (h:Acc a w b w') {p:Addr} {v:Value} (hc:w.cell? p=some v) (hp:a.ownBlock≠some p.block):w'.cell? p=some v :=
 h.only.cell hc (fun hm=>hp (by simpa using hm))
theorem Acc.apart {a b:Value} {w w':World} (h:Acc a w b w') {g:Nat} (ha:a.ownBlock≠some g) (hg:g<w.heap.size):b.ownBlock≠some g:=by
 intro e
 rcases h.at_ with e' | e'
 ·exact ha (e' ▸ e)
 ·have:=e' g e;omega
theorem index_any {lo hi:Nat} {v:Value} {l:List Entry} {w:World} (h:EntriesAt lo hi w v l) (hl:l.length≤1000000) :
  Calls Tryz.prog 35 #[v] w fun e w'=>∃ v',e=.returned v'∧Own .u8 5 w.heap.size w' v' (indexB l)∧Only [] w w':=by
 obtain ⟨a,cap,rfl,hcap,hmax,hel⟩:=h.open
 have Hel:=lh hel
 have Hl:=lh hl
 have hll:(l.length:Int)≤9223372036854775807:=by omega
 clear h hel hmax hcap hl
 go_enter Tryz.func35,Tryz.ntmps35
 go_wp2
 go_loopw [8,3] (fun i y wr=>∃ k:Nat,k≤l.length∧i=.int .i64 k∧Own .u8 5 w.heap.size wr y (indexB (l.take k))∧From w.heap.size y∧Only [] w wr) (fun i _ _=>l.length-(intOf i).toNat)
 case atStart=>exact ⟨0,by omega,rfl,Own.nil _ _ _ _,From.nil _,Only.refl _ _⟩
 case round =>
  obtain ⟨k,hk,rfl,hown,hfrom,hq⟩:=hrel
  by_cases hlt:k<l.length
  ·obtain ⟨b,off,rfl,_,_,hc0,hc1,hc2,hc3⟩:=Hel.out k hlt
   have c0:=hq.cell hc0 (by simp)
   have c1:=hq.cell hc1 (by simp)
   have c2:=hq.cell hc2 (by simp)
   have c3:=hq.cell hc3 (by simp)
   have hx:(0:Int)≤(k:Int):=by omega
   have hx1:(k:Int)<(l.length:Int):=by omega
   have Hs:=lh (indexB_take hlt)
   have hln:(indexB (l.take k)).length≤10000000:=by rw [indexB_length,List.length_take];have:=Hl.out;omega
   have Hln:=lh hln
   clear hc0 hc1 hc2 hc3 hln
   generalize indexB (l.take k)=S0 at *
   generalize l.getD k default=x at *
   obtain ⟨x0,x1,x2,x3⟩:=x
   simp only at c0 c1 c2 c3
   go_wp2_with fail
   generalize hW3:wr.alloc _=W3
   have hO:Only [] wr W3:=by rw [← hW3];exact Only.new _ _
   have hcA:W3.heap[wr.heap.size]?=some (.cells #[.int .i64 x0,.int .i64 x1,.int .i64 x2,.int .i64 x3] 46 (0,0)):=by rw [← hW3];exact heap_alloc_new _ _
   have d0:W3.cell? ⟨wr.heap.size,0,none⟩=some (.int .i64 x0):=by rw [cell_of_row _ _ _ _ _ _ hcA];rfl
   have d1:W3.cell? ⟨wr.heap.size,1,none⟩=some (.int .i64 x1):=by rw [cell_of_row _ _ _ _ _ _ hcA];rfl
   have d2:W3.cell? ⟨wr.heap.size,2,none⟩=some (.int .i64 x2):=by rw [cell_of_row _ _ _ _ _ _ hcA];rfl
   have d3:W3.cell? ⟨wr.heap.size,3,none⟩=some (.int .i64 x3):=by rw [cell_of_row _ _ _ _ _ _ hcA];rfl
   have hz3:wr.heap.size<W3.heap.size:=by rw [← hW3];simp
   clear hW3 hcA c0 c1 c2 c3
   have hw0:IntKind.u8.wrap x0=x0 % 256:=by simp [IntKind.wrap,IntKind.bits,IntKind.signed]
   have hw1:IntKind.u8.wrap x1=x1 % 256:=by simp [IntKind.wrap,IntKind.bits,IntKind.signed]
   have hO2:Only [] W3 (W3.alloc (.cells #[.int .u8 (x0 % 256),.int .u8 (x1 % 256)] 5)).drew:=(Only.new _ _).drew
   have hownA:=hown.quiet (hO.q hO2)
   have hsrc:Ints .u8 W3.heap.size (W3.heap.size+1) (W3.alloc (.cells #[.int .u8 (x0 % 256),.int .u8 (x1 % 256)] 5)).drew (.slice (some ⟨W3.heap.size,0,none⟩) 2 2) [x0 % 256,x1 % 256] :=
    (ints_newG rfl (by simp [maxLen]) (by simp only [List.mem_cons,List.not_mem_nil,or_false,forall_eq_or_imp,forall_eq,InK];omega) 2 rfl rfl:Ints .u8 W3.heap.size (W3.heap.size+1) (W3.alloc (.cells #[.int .u8 (x0 % 256),.int .u8 (x1 % 256)] 5)) (.slice (some ⟨W3.heap.size,0,none⟩) 2 2) [x0 % 256,x1 % 256])
   have hdl:(S0.length+[x0 % 256,x1 % 256].length)*1≤140737488355328:=by have:=Hln.out;simp only [List.length_cons,List.length_nil];omega
   have hqz:=hq.size
   have hbase:w.heap.size≤(W3.alloc (.cells #[.int .u8 (x0 % 256),.int .u8 (x1 % 256)] 5)).drew.heap.size:=by simp;omega
   have hwl:w.heap.size≤wr.heap.size:=hqz
   have hap:u3.ownBlock≠some wr.heap.size:=fun e=>by have:=(hown.at _ e).2;omega
   have hz4:wr.heap.size<(W3.alloc (.cells #[.int .u8 (x0 % 256),.int .u8 (x1 % 256)] 5)).drew.heap.size:=by simp;omega
   have hqA:=hO.q hO2
   have hln:S0.length≤10000000:=Hln.out
   clear hown
   have hwl2:=hwl
   go_region_held3 (fun w'=>w'.cell? ⟨wr.heap.size,0,none⟩=some (.int .i64 x0)∧w'.cell? ⟨wr.heap.size,1,none⟩=some (.int .i64 x1)∧w'.cell? ⟨wr.heap.size,2,none⟩=some (.int .i64 x2)∧w'.cell? ⟨wr.heap.size,3,none⟩=some (.int .i64 x3))
    (first
     | (go_split_ands;refine ⟨ho3.keep (by assumption) hap2,ho3.keep (by assumption) hap2,ho3.keep (by assumption) hap2,ho3.keep (by assumption) hap2⟩)
     | (go_split_ands;refine ⟨ho2.keep (by assumption) hap1,ho2.keep (by assumption) hap1,ho2.keep (by assumption) hap1,ho2.keep (by assumption) hap1⟩)
     | (go_split_ands;refine ⟨hacc1.keep (by assumption) hap,hacc1.keep (by assumption) hap,hacc1.keep (by assumption) hap,hacc1.keep (by assumption) hap⟩)
     | (simp [*,World.cell?_alloc_some,World.cell?_setCell_far,frozen?_alloc_cells,frozen_drew,World.frozen?_setCell])
     | fail)
    (first
     | (go_at_call 62;(refine (put4_any x3 hown2 ?_ ?_).mono ?_);(have:=ho2.only.size;omega);(simp [be_length];omega);(rintro e w3 ⟨v3,rfl,hown3,ho3⟩))
     | (go_at_call 62;(refine (put4_any x2 hown1 ?_ ?_).mono ?_);(omega);(simp [be_length];omega);(rintro e w2 ⟨v2,rfl,hown2,ho2⟩);(have hap2:=ho2.apart hap1 (by omega));(have hz6:=ho2.only.size))
     | (refine step_append_ints rfl (.tmp 12) (.tmp 19) 22 rfl E8 hownA rfl hsrc rfl hdl hbase (fun v1 w1 hown1 hacc1=>?_);have hap1:=hacc1.apart hap hz4;have hz5:=hacc1.only.size)
     | fail)
   go_wp2_with fail
   go_roundw
   case rel=>exact ⟨k+1,by omega,by go_num,by rw [Hs.out];simpa [entryB,be] using hown3,((hacc1.trans ho2).trans ho3).from_ hfrom hbase,(hq.q hqA).acc ((hacc1.trans ho2).trans ho3) hfrom⟩
   case measure=>simp [intOf];omega
  ·obtain rfl:k=l.length:=by omega
   have hx:¬ (l.length:Int)<(l.length:Int):=by omega
   go_wp2
   go_ret
   exact ⟨_,rfl,by simpa using hown,hq⟩
theorem add_any {lo hi base:Nat} {bv dv:Value} {m l:List Int} (kind:Int) {w:World} (hown:Own .u8 5 base w bv m) (hb:base≤w.heap.size) (h:Ints .u8 lo hi w dv l) (hfrom:From base bv)
  (hk:1≤kind∧kind≤255) (hl:l.length≤65536) (hm:m.length≤100000000) :
  Calls Tryz.prog 33 #[bv,.int .i64 kind,dv] w fun e w'=>∃ v',e=.returned v'∧Own .u8 5 base w' v' (m ++ unitB kind l)∧Acc bv w v' w':=by
 have hmk:makeU kind l=.ok (unitB kind l):=by unfold makeU;rw [if_neg (by omega),if_neg (by omega),if_neg (by omega)]
 have hul:(unitB kind l).length≤70000:=by rw [unitB_length];omega
 have Hmk:=lh hmk
 have Hul:=lh hul
 have Hm:=lh hm
 clear hmk hul hm
 go_enter Tryz.func33,Tryz.ntmps33
 go_wp2_with (first
  | (go_at_call 61;refine (make_any kind h).mono ?_;rintro e w1 hmade;rw [Hmk.out] at hmade;obtain ⟨hq,uv,rfl,hu⟩:=hmade)
  | (at_builtin;refine wpList_append_ints rfl (.tmp 15) (.tmp 16) _ rfl E8 (hown.quiet hq) rfl hu.ints rfl ?c1 ?c2 (fun v1 w2 hown1 ho1=>?_)))
 case c1=>have:=Hul.out;have:=Hm.out;omega
 case c2=>have:=hq.size;omega
 go_ret
 exact ⟨v1,rfl,hown1,(Acc.quiet hq).trans ho1⟩
def tailB (ahead:List Int) (at_:Int):List Int:=be at_ 4 ++ be (crc ahead:Nat) 4
theorem tail_any {lo hi:Nat} {v:Value} {l:List Int} (n:Int) {w:World} (h:Ints .u8 lo hi w v l) :
  Calls Tryz.prog 36 #[v,.int .i64 n] w fun e w'=>∃ v',e=.returned v'∧Own .u8 5 w.heap.size w' v' (tailB l n)∧Only [] w w':=by
 have hcl:=crc_lt l h.2
 go_enter Tryz.func36,Tryz.ntmps36
 go_wp2_with (first
  | (go_at_call 63;refine (sum_any (h.quiet hq1)).mono ?_;rintro e w' ⟨rfl,rfl⟩)
  | (go_at_call 62;refine (put4_any _ hown1 ?_ ?_).mono ?_;(have:=hq1.size;omega);(simp [be_length]);rintro e w2 ⟨v2,rfl,hown2,ho2⟩)
  | (go_at_call 62;refine (put4_any (base:=w.heap.size) n (Own.nil _ _ _ _) ?_ ?_).mono ?_;(exact Nat.le_refl _);(simp);rintro e w1 ⟨v1,rfl,hown1,ho1⟩;have hq1:Only [] w w1:=ho1.from_nil rfl)
  | fail)
 go_ret
 refine ⟨v2,rfl,hown2,?_⟩
 exact hq1.acc ho2 (ho1.from_ (From.nil _) (Nat.le_refl _))
end Go.Proofs.YtmdobcffijnaoaaGreatDoor
