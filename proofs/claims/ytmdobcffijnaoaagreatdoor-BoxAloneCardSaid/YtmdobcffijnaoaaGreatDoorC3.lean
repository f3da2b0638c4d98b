/- Joined texts: Read, Get, New, Few. Conditions: each part names its own. -/
import Derived.Test.YtmdobcffijnaoaaGreatDoorC1
import Derived.Test.YtmdobcffijnaoaaGreatDoorG0
import Derived.Laws.BitsLemmas
import Derived.Deep.OwnRows
namespace Go.Proofs.YtmdobcffijnaoaaGreatDoor
open Go.RowKit
set_option linter.unusedVariables false
set_option linter.unusedSimpArgs false
set_option maxRecDepth 100000
set_option maxHeartbeats 16000000
theorem Ints.sub {k:IntKind} {lo hi b off cap:Nat} {w:World} {l:List Int} (h:Ints k lo hi w (.slice (some ⟨b,off,none⟩) l.length cap) l) {i j:Nat} (hij:i≤j) (hj:j≤l.length) (cap':Nat) (hc:cap'≤cap) (hjc:j-i≤cap') :
  Ints k lo hi w (.slice (some ⟨b,off+i,none⟩) (j-i) cap') ((l.take j).drop i):=by
 obtain ⟨⟨h1,a,c,e,h3,h4,h5⟩,hk⟩:=h
 injection e with e1 e2 e3
 subst e1;subst e3
 have hl:((l.take j).drop i).length=j-i:=by rw [List.length_drop,List.length_take,Nat.min_eq_left hj]
 refine ⟨?_,fun x hx=>hk x (List.mem_of_mem_take (List.mem_of_mem_drop hx))⟩
 rw [hl]
 refine ⟨by rw [List.length_map,hl];omega,some ⟨b,off+i,none⟩,cap',rfl,hjc,Nat.le_trans hc h4,fun hn=>?_⟩
 obtain ⟨b',off',e,x,y,hcc⟩:=h5 (Nat.lt_of_lt_of_le (Nat.lt_of_lt_of_le hn (Nat.sub_le _ _)) hj)
 injection e with e
 injection e with e1 e2
 subst e1;subst e2
 refine ⟨b,off+i,rfl,x,y,fun m u hu=>?_⟩
 rw [Nat.add_assoc]
 refine hcc (i+m) u ?_
 rw [List.getElem?_map,List.getElem?_drop,List.getElem?_take] at hu
 rw [List.getElem?_map]
 split at hu
 ·exact hu
 ·simp at hu
theorem frozen_drew (w:World) (a:Addr):w.drew.frozen? a=w.frozen? a:=rfl
theorem Acc.frz {a b:Value} {w w':World} {B:Nat} (h:Acc a w b w') (ha:From B a) {p:Addr} (hp:p.block<B) (hB:B≤w.heap.size):w'.frozen? p=w.frozen? p :=
 World.frozen?_of_block (w:=w) (h.only.block _ (by omega) (fun hm=>by have:=ha p.block (by simpa using hm);omega))
theorem Only.frozen {S:List Nat} {w w':World} (h:Only S w w') {p:Addr} (hp:p.block<w.heap.size) (hn:p.block∉S):w'.frozen? p=w.frozen? p:=World.frozen?_of_block (w:=w) (h.block _ hp hn)
section
variable {P:Program}
/-- append of integers inside a region that draws its order -/
theorem step_append_ints {w:World} {ops:Array Oper} {o:Oper} {a:Act} {K:Act→World→Prop} {Q:Exit→Act→World→Prop} {E':Prop} (hgd:o.guard=none) (s x:Operand) (t:TypeId)
  (ho:o.op=.call { callee:=.builtin .append,args:=#[s,x],argTypes:=#[t,t] })
  {k:IntKind} {e:TypeId} {z:Value} {bytes base lo hi:Nat} {v sv:Value} {l m:List Int} (E:Elem P t e z 1 bytes)
  (hown:Own k e base w v l) (hv:a.eval s=v) (hs:Ints k lo hi w sv m) (hx:a.eval x=sv)
  (hbytes:(l.length+m.length)*bytes≤140737488355328) (hbase:base≤w.heap.size)
  (h:∀ v' w',Own k e base w' v' (l ++ m)→Acc v w v' w'→K (a.put o.dst v') w'):if Region.wanted o (yielded ops a.tmps)=true then Oper.wp P o a w K Q else E':=by
 have hle:l.length+m.length≤140737488355328:=Nat.le_trans (Nat.le_mul_of_pos_right _ E.bp) hbytes
 refine step_append_cells hgd s x t ho E hown.1 hv hs.1 hx (by simp only [List.mem_map];rintro u ⟨x,_,rfl⟩;rfl) (by simp only [maxLen];omega) hbytes hbase fun v' w' h2 h3=>h v' w' ⟨?_,?_⟩ h3
 ·simpa using h2
 ·intro y hy
  rcases List.mem_append.1 hy with hy | hy
  ·exact hown.2 y hy
  ·exact hs.2 y hy
end
/-- why a coded frame is none -/
def readB (c:Coded):Option Int :=
 if kindB c.kind=false then some 13
 else if bareB c.kind=true then (if 0<c.data.length then some 2 else none)
 else if c.data.length=0 then some 1
 else if 15<c.data.getD 0 0 then some 3
 else if 65536<c.data.length then some 5
 else none
def HeadOr (w:World) (c:Coded) (e:Ending) (w':World):Prop :=
 Only [] w w'∧match readB c with
  | some k=>e=.returned (.tuple #[.agg #[.int .i64 0,.int .i64 0,.slice none 0 0],.iface 29 (.int .i64 k)])
  | none=>∃ dv,e=.returned (.tuple #[.agg #[.int .i64 c.kind,.int .i64 (c.data.getD 0 0),dv],.nilIface])∧Ints .u8 w.heap.size w'.heap.size w' dv (c.data.drop 1)
theorem HeadOr.err {w w':World} {c:Coded} {k:Int} {e:Ending} (hk:readB c=some k) (ho:Only [] w w') (he:e=.returned (.tuple #[.agg #[.int .i64 0,.int .i64 0,.slice none 0 0],.iface 29 (.int .i64 k)])):HeadOr w c e w':=by
 unfold HeadOr;rw [hk];exact ⟨ho,he⟩
theorem readB_3 {k:Int} {l:List Int} (hk:kindB k=true) (hb:bareB k=false) (hp:0<l.length):15<l.getD 0 0→readB ⟨k,l⟩=some 3:=fun h15=>by
 have hne:¬ l.length=0:=by omega
 simp only [readB,hk,hb]
 rw [if_neg (by simp),if_neg (by simp),if_neg hne,if_pos h15]
theorem readB_5 {k:Int} {l:List Int} (hk:kindB k=true) (hb:bareB k=false) (hp:0<l.length):¬ 15<l.getD 0 0→65536<l.length→readB ⟨k,l⟩=some 5:=fun h15 h5=>by
 have hne:¬ l.length=0:=by omega
 simp only [readB,hk,hb]
 rw [if_neg (by simp),if_neg (by simp),if_neg hne,if_neg h15,if_pos h5]
theorem readB_0 {k:Int} {l:List Int} (hk:kindB k=true) (hb:bareB k=false) (hp:0<l.length):¬ 15<l.getD 0 0→¬ 65536<l.length→readB ⟨k,l⟩=none:=fun h15 h5=>by
 have hne:¬ l.length=0:=by omega
 simp only [readB,hk,hb]
 rw [if_neg (by simp),if_neg (by simp),if_neg hne,if_neg h15,if_neg h5]
theorem qRead0 {p:Prop} (h:p:=by
 unfold HeadOr
 rw [Hr.out]
 refine ⟨hs0.trans hs1 (fun g hg _=>hg) (fun g hg hlt=>absurd (mSg.1 hg) (by omega)),_,?_,hI⟩
 rw [← Hq.out]):p:=h
theorem read_any {lo hi:Nat} {k:Int} {dv:Value} {l:List Int} {w:World} (h:Ints .u8 lo hi w dv l) :
  Calls Tryz.prog 49 #[.agg #[.int .i64 k,dv]] w (HeadOr w ⟨k,l⟩):=by
 have hlen:=h.1.len_le
 unfold maxLen at hlen
 obtain ⟨a,cap,rfl,hcap,hmax,hat,hcell⟩:=h.open
 have Hat:=lh hat
 have Hcell:=lh hcell
 have Hh:=lh h
 clear hat hcell h hmax
 have hq:∀ o o',Only [] w ((w.alloc o).alloc o'):=fun o o'=>(Only.new _ _).q (Only.new _ _)
 have HQ:=lh hq
 clear hq
 by_cases hk:kindB k=true
 ·by_cases hb:bareB k=true
  ·by_cases h0:0<l.length
   ·have hr:readB ⟨k,l⟩=some 2:=by simp [readB,hk,hb,h0]
    have Hr:=lh hr
    clear hr
    go_enter Tryz.func49,Tryz.ntmps49
    go_wp2_with (first | (go_at_call 91;refine (kind_any _ _).mono ?_;rintro e w' ⟨rfl,rfl⟩) | (go_at_call 92;refine (bare_any _ _).mono ?_;rintro e w' ⟨rfl,rfl⟩))
    exact bodyPost_ret (v:=.tuple #[.agg #[.int .i64 0,.int .i64 0,.slice none 0 0],.iface 29 (.int .i64 2)]) (by simp [results,Tryz.results49,go_sem]) rfl (HeadOr.err Hr.out (HQ.out _ _) rfl)
   ·have hz:l=[]:=List.eq_nil_of_length_eq_zero (by omega)
    have hr:readB ⟨k,l⟩=none:=by simp [readB,hk,hb,hz]
    have Hr:=lh hr
    have Hz:=lh hz
    clear hr hz
    go_enter Tryz.func49,Tryz.ntmps49
    go_wp2_with (first | (go_at_call 91;refine (kind_any _ _).mono ?_;rintro e w' ⟨rfl,rfl⟩) | (go_at_call 92;refine (bare_any _ _).mono ?_;rintro e w' ⟨rfl,rfl⟩))
    refine bodyPost_ret (v:=.tuple #[.agg #[.int .i64 k,.int .i64 0,.slice none 0 0],.nilIface]) (by simp [results,Tryz.results49,go_sem]) rfl ?_
    unfold HeadOr
    rw [Hr.out,Hz.out]
    exact ⟨HQ.out _ _,_,rfl,Ints.nil _ _ _ _⟩
  ·have hb':bareB k=false:=by simpa using hb
   clear hb
   by_cases h0:l.length=0
   ·have hz:l=[]:=List.eq_nil_of_length_eq_zero h0
    have h0i:((l.length:Nat):Int)=0:=by omega
    clear h0
    have hr:readB ⟨k,l⟩=some 1:=by subst hz;simp [readB,hk,hb']
    have Hr:=lh hr
    clear hr
    go_enter Tryz.func49,Tryz.ntmps49
    go_wp2_with (first | (go_at_call 91;refine (kind_any _ _).mono ?_;rintro e w' ⟨rfl,rfl⟩) | (go_at_call 92;refine (bare_any _ _).mono ?_;rintro e w' ⟨rfl,rfl⟩))
    exact bodyPost_ret (v:=.tuple #[.agg #[.int .i64 0,.int .i64 0,.slice none 0 0],.iface 29 (.int .i64 1)]) (by simp [results,Tryz.results49,go_sem]) rfl (HeadOr.err Hr.out (HQ.out _ _) rfl)
   ·have hpos:0<l.length:=by omega
    have h0b:(((l.length:Nat):Int) == 0)=false:=by rw [beq_eq_false_iff_ne];omega
    have hpi:(0:Int)<(l.length:Int):=by omega
    clear h0
    obtain ⟨b,off,rfl,_,_⟩:=Hat.out 0 hpos
    have c0:=Hcell.out b off rfl 0 hpos
    rw [Nat.add_zero] at c0
    have hx:=Hh.out.range hpos
    unfold InK at hx
    have hr3:=readB_3 hk hb' hpos
    have hr5:=readB_5 hk hb' hpos
    have hr0:=readB_0 hk hb' hpos
    have Hr3:=lh hr3
    have Hr5:=lh hr5
    have Hr0:=lh hr0
    clear hr3 hr5 hr0
    generalize hq:l.getD 0 0=q at *
    have Hq:=lh hq
    clear hq
    have c1:((w.alloc (.cells #[.int .i64 k,.slice (some ⟨b,off,none⟩) l.length cap] 83)).alloc (.cells #[.int .i64 0,.int .i64 0,.slice none 0 0] 126)).cell? ⟨b,off,none⟩=some (.int .u8 q):=(HQ.out _ _).cell c0 (by simp)
    by_cases h15:15<q
    ·have Hr:=lh (Hr3.out h15)
     go_enter Tryz.func49,Tryz.ntmps49
     go_wp2_with (first | (go_at_call 91;refine (kind_any _ _).mono ?_;rintro e w' ⟨rfl,rfl⟩) | (go_at_call 92;refine (bare_any _ _).mono ?_;rintro e w' ⟨rfl,rfl⟩))
     exact bodyPost_ret (v:=.tuple #[.agg #[.int .i64 0,.int .i64 0,.slice none 0 0],.iface 29 (.int .i64 3)]) (by simp [results,Tryz.results49,go_sem]) rfl (HeadOr.err Hr.out (HQ.out _ _) rfl)
    ·by_cases h5:65536<l.length
     ·have Hr:=lh (Hr5.out h15 h5)
      go_enter Tryz.func49,Tryz.ntmps49
      go_wp2_with (first | (go_at_call 91;refine (kind_any _ _).mono ?_;rintro e w' ⟨rfl,rfl⟩) | (go_at_call 92;refine (bare_any _ _).mono ?_;rintro e w' ⟨rfl,rfl⟩))
      exact bodyPost_ret (v:=.tuple #[.agg #[.int .i64 0,.int .i64 0,.slice none 0 0],.iface 29 (.int .i64 5)]) (by simp [results,Tryz.results49,go_sem]) rfl (HeadOr.err Hr.out (HQ.out _ _) rfl)
     ·have Hr:=lh (Hr0.out h15 h5)
      go_enter Tryz.func49,Tryz.ntmps49
      go_wp2_with (first | (go_at_call 91;refine (kind_any _ _).mono ?_;rintro e w' ⟨rfl,rfl⟩) | (go_at_call 92;refine (bare_any _ _).mono ?_;rintro e w' ⟨rfl,rfl⟩))
      clear c1
      have hgd:∃ W3,W3=(w.alloc (.cells #[.int .i64 k,.slice (some ⟨b,off,none⟩) l.length cap] 83)).alloc (.cells #[.int .i64 0,.int .i64 0,.slice none 0 0] 126):=⟨_,rfl⟩
      generalize hW:(w.alloc _).alloc _=W3
      have hO:Only [] w W3:=by rw [← hW];exact HQ.out _ _
      have hcA:W3.heap[w.heap.size]?=some (.cells #[.int .i64 k,.slice (some ⟨b,off,none⟩) l.length cap] 83 (0,0)):=by
       rw [← hW,Below.heap_alloc _ _ _ (by simp)];exact heap_alloc_new' (by simp)
      have f0:W3.cell? ⟨w.heap.size,0,none⟩=some (.int .i64 k):=by rw [cell_of_row _ _ _ _ _ _ hcA];rfl
      have f1:W3.cell? ⟨w.heap.size,1,none⟩=some (.slice (some ⟨b,off,none⟩) l.length cap):=by rw [cell_of_row _ _ _ _ _ _ hcA];rfl
      have f2:W3.cell? ⟨b,off,none⟩=some (.int .u8 q):=hO.cell c0 (by simp)
      have hcB:W3.heap[w.heap.size+1]?=some (.cells #[.int .i64 0,.int .i64 0,.slice none 0 0] 126 (0,0)):=by
       rw [← hW];exact heap_alloc_new' (by simp)
      have g0:W3.frozen? ⟨w.heap.size+1,0,none⟩=false:=frozen_of_row _ _ _ _ _ hcB
      have g1:W3.frozen? ⟨w.heap.size+1,1,none⟩=false:=frozen_of_row _ _ _ _ _ hcB
      have g2:W3.frozen? ⟨w.heap.size+1,2,none⟩=false:=frozen_of_row _ _ _ _ _ hcB
      have e0:W3.cell? ⟨w.heap.size+1,0,none⟩=some (.int .i64 0):=by rw [cell_of_row _ _ _ _ _ _ hcB];rfl
      have e1:W3.cell? ⟨w.heap.size+1,1,none⟩=some (.int .i64 0):=by rw [cell_of_row _ _ _ _ _ _ hcB];rfl
      have e2:W3.cell? ⟨w.heap.size+1,2,none⟩=some (.slice none 0 0):=by rw [cell_of_row _ _ _ _ _ _ hcB];rfl
      have hz3:W3.heap.size=w.heap.size+2:=by rw [← hW];simp
      have hn1:w.heap.size<W3.heap.size:=by omega
      have hn2:b<W3.heap.size:=by have:=block_lt_of_cell f2;exact this
      have hn3:w.heap.size+1<W3.heap.size:=by omega
      have hbw:b<w.heap.size:=block_lt_of_cell c0
      have hbn:¬ b=w.heap.size+1:=by omega
      have hbn':¬ w.heap.size+1=b:=by omega
      have hwq:IntKind.i64.wrap q=q:=by simp [IntKind.wrap,IntKind.bits,IntKind.signed];omega
      clear hcA hcB hW hgd hz3
      have hle:(1:Int)≤(l.length:Int):=by omega
      by_cases hc1:cap=1
      ·have hl1:l.length=1:=by omega
       have hcz:cap-1=0:=by omega
       have hd1:l.drop 1=[]:=List.drop_eq_nil_of_le (by omega)
       have hsrcE:∀ (x:Option Addr) (w':World),Ints .u8 lo hi w' (.slice x 0 0) (l.drop 1):=fun x w'=>by
        rw [hd1];exact ⟨⟨rfl,x,0,rfl,Nat.le_refl _,Nat.zero_le _,fun h=>absurd h (by simp)⟩,by simp⟩
       have HsrcE:=lh hsrcE
       clear hsrcE hd1
       have hown0:Own .u8 5 W3.heap.size (W3.alloc (.cells #[] 5)).drew (.slice (some ⟨W3.heap.size,0,none⟩) 0 0) []:=(own_newG rfl (Nat.zero_le _) (by simp) 0 rfl rfl:Own .u8 5 W3.heap.size (W3.alloc (.cells #[] 5)) (.slice (some ⟨W3.heap.size,0,none⟩) 0 0) [])
       have hb0:W3.heap.size≤((W3.alloc (.cells #[] 5)).drew).heap.size:=by simp
       have hO2:Only [] W3 (W3.alloc (.cells #[] 5)).drew:=(Only.new W3 (.cells #[] 5)).drew
       have l0:=hO2.cell e0 (by simp)
       have l1:=hO2.cell e1 (by simp)
       have l2:=hO2.cell e2 (by simp)
       have g0:(W3.alloc (.cells #[] 5)).drew.frozen? ⟨w.heap.size+1,0,none⟩=false:=(hO2.frozen hn3 (by simp)).trans g0
       have g1:(W3.alloc (.cells #[] 5)).drew.frozen? ⟨w.heap.size+1,1,none⟩=false:=(hO2.frozen hn3 (by simp)).trans g1
       have g2:(W3.alloc (.cells #[] 5)).drew.frozen? ⟨w.heap.size+1,2,none⟩=false:=(hO2.frozen hn3 (by simp)).trans g2
       have hfr:From W3.heap.size (.slice (some ⟨W3.heap.size,0,none⟩) 0 0):=From.lit (Nat.le_refl _)
       have hdl:(([]:List Int).length+(l.drop 1).length)*1≤140737488355328:=by rw [List.length_drop];simp only [List.length_nil];omega
       go_region_held3 (fun w'=>w'.cell? ⟨w.heap.size,0,none⟩=some (.int .i64 k)∧w'.cell? ⟨w.heap.size,1,none⟩=some (.slice (some ⟨b,off,none⟩) l.length cap)∧w'.cell? ⟨b,off,none⟩=some (.int .u8 q))
        (first
         | (go_split_ands;refine ⟨hacc1.cell hfr (by assumption) hn1,hacc1.cell hfr (by assumption) hn1,hacc1.cell hfr (by assumption) hn2⟩)
         | (simp [*,World.cell?_alloc_some,World.cell?_setCell_far,frozen?_alloc_cells,frozen_drew,World.frozen?_setCell])
         | fail)
        (first | (refine step_append_ints rfl (.tmp 59) (.tmp 62) 22 rfl E8 hown0 rfl (HsrcE.out _ _) rfl hdl hb0 (fun v1 w1 hown1 hacc1=>?_);obtain ⟨a1,cap1,rfl,_⟩:=hown1.ints.open;(have m0:=hacc1.cell hfr l0 hn3);(have m1:=hacc1.cell hfr l1 hn3);(have m2:=hacc1.cell hfr l2 hn3);(have n0:=(hacc1.frz (p:=⟨w.heap.size+1,0,none⟩) hfr hn3 hb0).trans g0);(have n1:=(hacc1.frz (p:=⟨w.heap.size+1,1,none⟩) hfr hn3 hb0).trans g1);(have n2:=(hacc1.frz (p:=⟨w.heap.size+1,2,none⟩) hfr hn3 hb0).trans g2)) | fail)
       go_wp2
       refine bodyPost_ret (v:=.tuple #[.agg #[.int .i64 k,.int .i64 q,.slice a1 0 cap1],.nilIface]) (by simp [results,Tryz.results49,go_sem,hwq,m0,m1,m2,World.cell?_setCell_other]) rfl ?_
       have hs1:Only [w.heap.size+1] w1 (((w1.setCell ⟨w.heap.size+1,0,none⟩ (.int .i64 k)).setCell ⟨w.heap.size+1,1,none⟩ (.int .i64 q)).setCell ⟨w.heap.size+1,2,none⟩ (.slice a1 0 cap1)):=(((Only.refl _ _).setCell (by simp) _).setCell (by simp) _).setCell (by simp) _
       have hs0:Only [] w w1:=(hO.q hO2).acc hacc1 (From.lit (Nat.le_of_lt hn1))
       have hI:=(hown1.ints.only hs1 (fun g hg=>by rw [mSg] at hg;omega)).mono (Nat.le_of_lt hn1) hs1.size
       simp only [List.nil_append,List.length_drop,hl1,Nat.sub_self] at hI
       exact qRead0
      ·have hcc:1<cap:=by omega
       have hcz:¬ cap-1=0:=by omega
       have hsrc:=Hh.out.sub (i:=1) (j:=l.length) hpos (Nat.le_refl _) (cap-1) (by omega) (by omega)
       rw [List.take_length] at hsrc
       have hown0:Own .u8 5 W3.heap.size (W3.alloc (.cells #[] 5)).drew (.slice (some ⟨W3.heap.size,0,none⟩) 0 0) []:=(own_newG rfl (Nat.zero_le _) (by simp) 0 rfl rfl:Own .u8 5 W3.heap.size (W3.alloc (.cells #[] 5)) (.slice (some ⟨W3.heap.size,0,none⟩) 0 0) [])
       have hsrc0:=hsrc.quiet (hO.q ((Only.new W3 (.cells #[] 5)).drew))
       have hb0:W3.heap.size≤((W3.alloc (.cells #[] 5)).drew).heap.size:=by simp
       have hO2:Only [] W3 (W3.alloc (.cells #[] 5)).drew:=(Only.new W3 (.cells #[] 5)).drew
       have l0:=hO2.cell e0 (by simp)
       have l1:=hO2.cell e1 (by simp)
       have l2:=hO2.cell e2 (by simp)
       have g0:(W3.alloc (.cells #[] 5)).drew.frozen? ⟨w.heap.size+1,0,none⟩=false:=(hO2.frozen hn3 (by simp)).trans g0
       have g1:(W3.alloc (.cells #[] 5)).drew.frozen? ⟨w.heap.size+1,1,none⟩=false:=(hO2.frozen hn3 (by simp)).trans g1
       have g2:(W3.alloc (.cells #[] 5)).drew.frozen? ⟨w.heap.size+1,2,none⟩=false:=(hO2.frozen hn3 (by simp)).trans g2
       have hfr:From W3.heap.size (.slice (some ⟨W3.heap.size,0,none⟩) 0 0):=From.lit (Nat.le_refl _)
       have hdl:(([]:List Int).length+(l.drop 1).length)*1≤140737488355328:=by rw [List.length_drop];simp only [List.length_nil];omega
       go_region_held3 (fun w'=>w'.cell? ⟨w.heap.size,0,none⟩=some (.int .i64 k)∧w'.cell? ⟨w.heap.size,1,none⟩=some (.slice (some ⟨b,off,none⟩) l.length cap)∧w'.cell? ⟨b,off,none⟩=some (.int .u8 q))
        (first
         | (go_split_ands;refine ⟨hacc1.cell hfr (by assumption) hn1,hacc1.cell hfr (by assumption) hn1,hacc1.cell hfr (by assumption) hn2⟩)
         | (simp [*,World.cell?_alloc_some,World.cell?_setCell_far,frozen?_alloc_cells,frozen_drew,World.frozen?_setCell])
         | fail)
        (first | (refine step_append_ints rfl (.tmp 59) (.tmp 62) 22 rfl E8 hown0 rfl hsrc0 rfl hdl hb0 (fun v1 w1 hown1 hacc1=>?_);obtain ⟨a1,cap1,rfl,_⟩:=hown1.ints.open;(have m0:=hacc1.cell hfr l0 hn3);(have m1:=hacc1.cell hfr l1 hn3);(have m2:=hacc1.cell hfr l2 hn3);(have n0:=(hacc1.frz (p:=⟨w.heap.size+1,0,none⟩) hfr hn3 hb0).trans g0);(have n1:=(hacc1.frz (p:=⟨w.heap.size+1,1,none⟩) hfr hn3 hb0).trans g1);(have n2:=(hacc1.frz (p:=⟨w.heap.size+1,2,none⟩) hfr hn3 hb0).trans g2)) | fail)
       go_wp2
       refine bodyPost_ret (v:=.tuple #[.agg #[.int .i64 k,.int .i64 q,.slice a1 (l.length-1) cap1],.nilIface]) (by simp [results,Tryz.results49,go_sem,hwq,m0,m1,m2,World.cell?_setCell_other]) rfl ?_
       have hs1:Only [w.heap.size+1] w1 (((w1.setCell ⟨w.heap.size+1,0,none⟩ (.int .i64 k)).setCell ⟨w.heap.size+1,1,none⟩ (.int .i64 q)).setCell ⟨w.heap.size+1,2,none⟩ (.slice a1 (l.length-1) cap1)):=(((Only.refl _ _).setCell (by simp) _).setCell (by simp) _).setCell (by simp) _
       have hs0:Only [] w w1:=(hO.q hO2).acc hacc1 (From.lit (Nat.le_of_lt hn1))
       have hI:=(hown1.ints.only hs1 (fun g hg=>by rw [mSg] at hg;omega)).mono (Nat.le_of_lt hn1) hs1.size
       simp only [List.nil_append,List.length_drop] at hI
       exact qRead0
 ·have hk':kindB k=false:=by simpa using hk
  clear hk
  have hr:readB ⟨k,l⟩=some 13:=by simp [readB,hk']
  have Hr:=lh hr
  clear hr
  go_enter Tryz.func49,Tryz.ntmps49
  go_wp2_with (first | (go_at_call 91;refine (kind_any _ _).mono ?_;rintro e w' ⟨rfl,rfl⟩) | (go_at_call 92;refine (bare_any _ _).mono ?_;rintro e w' ⟨rfl,rfl⟩))
  exact bodyPost_ret (v:=.tuple #[.agg #[.int .i64 0,.int .i64 0,.slice none 0 0],.iface 29 (.int .i64 13)]) (by simp [results,Tryz.results49,go_sem]) rfl (HeadOr.err Hr.out (HQ.out _ _) rfl)
def getB (l:List Int):Int:=l.foldl (fun v x=>v*256+x) 0
theorem getB_snoc (l:List Int) (x:Int):getB (l ++ [x])=getB l*256+x:=by simp [getB]
theorem wraps_i64 (n:Int) (h₀:0≤n) (h₁:n<2 ^ 63):IntKind.i64.wrap n=n:=by rw [IntKind.wrap_i64];omega
theorem i64_or8 {x y:Int} (h0:0≤x) (h1:x<36028797018963968) (h2:0≤y) (h3:y<256):bits .or .i64 (x*256) y=x*256+y :=
 bits_join .i64 63 (by decide) wraps_i64 8 (x*256) y (by omega) (by omega) (by omega) h2 h3 (by omega)
theorem getB_range:∀ (n:Nat) (l:List Int),l.length=n→n≤7→(∀ x∈l,InK .u8 x)→0≤getB l∧getB l<256 ^ n
 | 0,l,h,_,_=>by have:l=[]:=List.eq_nil_of_length_eq_zero h;subst this;simp [getB]
 | n+1,l,h,h7,hl=>by
  have hne:l≠[]:=by rintro rfl;simp at h
  have e:l=l.dropLast ++ [l.getLast hne]:=(List.dropLast_concat_getLast hne).symm
  have hx:=hl _ (List.getLast_mem hne)
  have ih:=getB_range n l.dropLast (by simp [h]) (by omega) (fun x hx=>hl x (List.dropLast_subset l hx))
  rw [e,getB_snoc,Int.pow_succ]
  unfold InK at hx
  omega
theorem pow_bound {v:Int} {k:Nat} (hk:k<7) (h:v<256 ^ k):v<281474976710657:=by
 match k,hk with
 | 0,_ | 1,_ | 2,_ | 3,_ | 4,_ | 5,_ | 6,_=>simp at h;omega
theorem get_any {lo hi:Nat} {v:Value} {l:List Int} {w:World} (h:Ints .u8 lo hi w v l) (hl:l.length≤7) :
  Calls Tryz.prog 108 #[v] w fun e w'=>e=.returned (.int .i64 (getB l))∧w=w':=by
 have hr:=h.2
 obtain ⟨a,cap,rfl,hcap,hm,hat,hcell⟩:=h.open
 go_enter Tryz.func108,Tryz.ntmps108
 go_wp2
 go_loop [8,3,5] (fun i c _=>∃ k:Nat,k≤l.length∧i=.int .i64 k∧c=.int .i64 (getB (l.take k))) (fun i _ _=>l.length-(intOf i).toNat)
 case atStart=>exact ⟨0,by omega,rfl,rfl⟩
 case round =>
  obtain ⟨k,hk,rfl,rfl⟩:=hrel
  by_cases hlt:k<l.length
  ·obtain ⟨b,off,rfl,_,_⟩:=hat k hlt
   have hc':=hcell b off rfl k hlt
   have hx:InK .u8 (l.getD k 0):=by refine hr _ ?_;simp [hlt]
   have hs:=getB_range k (l.take k) (by rw [List.length_take];omega) (by omega) (fun x hx=>hr x (List.mem_of_mem_take hx))
   have hs2:=pow_bound (k:=k) (by omega) hs.2
   have hnext:getB (l.take (k+1))=getB (l.take k)*256+l.getD k 0:=by rw [take_snoc hlt,getB_snoc]
   have hor:=i64_or8 (x:=getB (l.take k)) (y:=l.getD k 0) hs.1 (by omega) hx.1 (by have:=hx.2;omega)
   have hwx:IntKind.i64.wrap (l.getD k 0)=l.getD k 0:=wraps_i64 _ hx.1 (by have:=hx.2;omega)
   have h0:=hs.1
   unfold InK at hx
   clear hs
   generalize getB (l.take k)=s at *
   generalize l.getD k 0=x at *
   have Hn:=lh hnext
   clear hnext hat hcell hr h
   go_wp2
   go_round
   case rel=>exact ⟨k+1,by omega,by go_num,by rw [Hn.out];try exact congrArg (Value.int .i64) hor⟩
   case measure=>simp [intOf];omega
  ·obtain rfl:k=l.length:=by omega
   go_wp2
   go_ret
   exact ⟨rfl,rfl⟩
theorem Rows.lit {size lo hi g n:Nat} {w:World} {vs:Array Value} {t:TypeId} (hg:w.heap[g]?=some (.cells vs t (0,0))) (hn:vs.size=n*size) (hm:n≤maxLen) (h1:lo≤g) (h2:g<hi) :
  Rows size lo hi w (.slice (some ⟨g,0,none⟩) n n) n (fun i j=>vs.getD (i*size+j) undef):=by
 refine ⟨some ⟨g,0,none⟩,n,rfl,Nat.le_refl _,hm,fun _=>⟨g,0,rfl,h1,h2,fun i j hi hj=>?_⟩⟩
 rw [cell_of_row _ _ _ _ _ _ hg,Nat.zero_add]
 have hb:i*size+j<vs.size:=by
  rw [hn]
  have:(i+1)*size≤n*size:=Nat.mul_le_mul_right _ hi
  rw [Nat.add_mul,Nat.one_mul] at this
  omega
 simp [Array.getD,hb]
theorem bflat_any (w:World) :
  Calls Tryz.prog 14 #[] w fun e w'=>∃ v,e=.returned v∧Only [] w w'∧ChunksAt w.heap.size w'.heap.size w' v [⟨0,0,1,[⟨4,[]⟩]⟩]:=by
 go_enter Tryz.func14,Tryz.ntmps14
 go_wp2
 go_ret
 refine ⟨_,rfl,((Only.refl _ _).alloc _).alloc _,?_⟩
 refine ⟨_,Rows.lit (heap_alloc_new' (by simp)) rfl (by simp [maxLen]) (by omega) (by simp),fun i hi=>?_⟩
 obtain rfl:i=0:=by simp at hi;omega
 refine ⟨rfl,rfl,rfl,by simp [ChunkOk,InK],?_⟩
 refine ⟨_,Rows.lit ((Below.heap_alloc _ _ _ (by simp)).trans (heap_alloc_new' rfl)) rfl (by simp [maxLen]) (by omega) (by simp;try omega),fun i hi=>?_⟩
 obtain rfl:i=0:=by simp at hi;omega
 exact ⟨rfl,by simp [InK],Ints.nil _ _ _ _⟩
def newB (W H V:Int):Bool:=sideB W && sideB H && sampleB V
def NewP (w:World) (W H V:Int) (e:Ending) (w':World):Prop :=
 Only [] w w'∧match newB W H V with
  | true=>∃ a n c,e=.returned (.tuple #[.agg #[.int .i64 W,.int .i64 H,.slice a n c],.nilIface])
  | false=>e=.returned (.tuple #[.agg #[.int .i64 0,.int .i64 0,.slice none 0 0],.iface 29 (.int .i64 3)])
theorem NewP.bad {w w':World} {W H V:Int} {e:Ending} (h:newB W H V=false) (o:Only [] w w') (he:e=.returned (.tuple #[.agg #[.int .i64 0,.int .i64 0,.slice none 0 0],.iface 29 (.int .i64 3)])):NewP w W H V e w':=by
 unfold NewP;rw [h];exact ⟨o,he⟩
theorem qNew0 {p:Prop} (h:p:=by
 exact bodyPost_ret (v:=.tuple #[.agg #[.int .i64 0,.int .i64 0,.slice none 0 0],.iface 29 (.int .i64 3)]) (by simp [results,Tryz.results29,go_sem]) rfl (NewP.bad Hr.out (Only.new _ _) rfl)):p:=h
theorem pnew_any (W H V:Int) (w:World):Calls Tryz.prog 29 #[.int .i64 W,.int .i64 H,.int .i64 V] w (NewP w W H V):=by
 cases hW:sideB W with
 | false =>
  have hr:newB W H V=false:=by simp [newB,hW]
  have Hr:=lh hr
  have HW:=lh hW
  clear hr hW
  go_enter Tryz.func29,Tryz.ntmps29
  go_wp2_with (first | (go_at_call 55;refine (side_any _ _).mono ?_;rintro e w' ⟨rfl,rfl⟩;rw [HW.out]) | fail)
  exact qNew0
 | true =>
  cases hH:sideB H with
  | false =>
   have hr:newB W H V=false:=by simp [newB,hH]
   have Hr:=lh hr
   have HW:=lh hW
   have HH:=lh hH
   clear hr hW hH
   go_enter Tryz.func29,Tryz.ntmps29
   go_wp2_with (first | (go_at_call 55;refine (side_any _ _).mono ?_;rintro e w' ⟨rfl,rfl⟩;(first | rw [HW.out] | rw [HH.out])) | fail)
   exact qNew0
  | true =>
   cases hV:sampleB V with
   | false =>
    have hr:newB W H V=false:=by simp [newB,hV]
    have Hr:=lh hr
    have HW:=lh hW
    have HH:=lh hH
    have HV:=lh hV
    clear hr hW hH hV
    go_enter Tryz.func29,Tryz.ntmps29
    go_wp2_with (first | (go_at_call 55;refine (side_any _ _).mono ?_;rintro e w' ⟨rfl,rfl⟩;(first | rw [HW.out] | rw [HH.out])) | (go_at_call 56;refine (sample_any _ _).mono ?_;rintro e w' ⟨rfl,rfl⟩;rw [HV.out]) | fail)
    exact qNew0
   | true =>
    have hr:newB W H V=true:=by simp [newB,hW,hH,hV]
    have Hr:=lh hr
    have bW:=of_decide_eq_true hW
    have bH:=of_decide_eq_true hH
    have HW:=lh hW
    have HH:=lh hH
    have HV:=lh hV
    clear hr hW hH hV
    obtain ⟨W',rfl⟩:=Int.eq_ofNat_of_zero_le (by omega:0≤W)
    obtain ⟨H',rfl⟩:=Int.eq_ofNat_of_zero_le (by omega:0≤H)
    have hn:W'*H'≤1024:=Nat.le_trans (Nat.mul_le_mul (by omega:W'≤32) (by omega:H'≤32)) (by decide)
    have hmul:(W':Int)*(H':Int)=((W'*H':Nat):Int):=by rw [Int.natCast_mul]
    generalize hN:W'*H'=n at *
    clear hN bW bH
    have hmk:=run_make_row' (P:=Tryz.prog) 48 3 (.int .i64 0) 8 EI.ut (by kernel_rfl) rfl .i64 .i64 n (by omega) (by omega)
    go_enter Tryz.func29,Tryz.ntmps29
    go_wp2_with (first | (go_at_call 55;refine (side_any _ _).mono ?_;rintro e w' ⟨rfl,rfl⟩;(first | rw [HW.out] | rw [HH.out])) | (go_at_call 56;refine (sample_any _ _).mono ?_;rintro e w' ⟨rfl,rfl⟩;rw [HV.out]) | fail)
    clear hmk
    generalize hW3:((w.alloc _).alloc _).alloc _=W3
    have hO:Only [] w W3:=by rw [← hW3];exact (((Only.refl _ _).alloc _).alloc _).alloc _
    have hsz:W3.heap.size=w.heap.size+3:=by rw [← hW3];simp
    have hcA:W3.heap[w.heap.size]?=some (.cells #[.int .i64 0,.int .i64 0,.slice none 0 0] 70 (0,0)):=by
     rw [← hW3,Below.heap_alloc _ _ _ (by simp;omega),Below.heap_alloc _ _ _ (by simp)];exact heap_alloc_new _ _
    have hcB:W3.heap[w.heap.size+2]?=some (.cells #[.int .i64 W',.int .i64 H',.slice (some ⟨w.heap.size+1,0,none⟩) n n] 70 (0,0)):=by
     rw [← hW3];exact heap_alloc_new' (by simp)
    have hown:W3.ownsRow (w.heap.size+1) 3 1 (.slice (some ⟨w.heap.size+1,0,none⟩) n n) n (madeCells #[.int .i64 0] n).toList:=by
     have h0:=World.ownsRow_lit (w.alloc (.cells #[.int .i64 0,.int .i64 0,.slice none 0 0] 70)) (base:=w.heap.size+1) (e:=3) (size:=1) (madeCells #[.int .i64 0] (n*1)) n (by simp) (by simp [maxLen];omega) (size_madeCells #[.int .i64 0] (n*1))
     rw [← hW3]
     have h1:=owns_only h0 (Only.new _ (.cells #[.int .i64 W',.int .i64 H',.slice (some ⟨w.heap.size+1,0,none⟩) n n] 70)) (by simp)
     simpa using h1
    have hown':=hown.1
    clear hW3
    generalize (madeCells #[.int .i64 0] n).toList=xs at *
    have f0:W3.cell? ⟨w.heap.size+2,0,none⟩=some (.int .i64 W'):=by rw [cell_of_row _ _ _ _ _ _ hcB];rfl
    have f1:W3.cell? ⟨w.heap.size+2,1,none⟩=some (.int .i64 H'):=by rw [cell_of_row _ _ _ _ _ _ hcB];rfl
    have f2:W3.cell? ⟨w.heap.size+2,2,none⟩=some (.slice (some ⟨w.heap.size+1,0,none⟩) n n):=by rw [cell_of_row _ _ _ _ _ _ hcB];rfl
    have e0:W3.cell? ⟨w.heap.size,0,none⟩=some (.int .i64 0):=by rw [cell_of_row _ _ _ _ _ _ hcA];rfl
    have e1:W3.cell? ⟨w.heap.size,1,none⟩=some (.int .i64 0):=by rw [cell_of_row _ _ _ _ _ _ hcA];rfl
    have e2:W3.cell? ⟨w.heap.size,2,none⟩=some (.slice none 0 0):=by rw [cell_of_row _ _ _ _ _ _ hcA];rfl
    have g0:W3.frozen? ⟨w.heap.size,0,none⟩=false:=frozen_of_row _ _ _ _ _ hcA
    have g1:W3.frozen? ⟨w.heap.size,1,none⟩=false:=frozen_of_row _ _ _ _ _ hcA
    have g2:W3.frozen? ⟨w.heap.size,2,none⟩=false:=frozen_of_row _ _ _ _ _ hcA
    clear hcA hcB
    have hF:∀ wr,Only [w.heap.size+1] W3 wr→(wr.cell? ⟨w.heap.size+2,0,none⟩=some (.int .i64 W')∧wr.cell? ⟨w.heap.size+2,1,none⟩=some (.int .i64 H')∧wr.cell? ⟨w.heap.size+2,2,none⟩=some (.slice (some ⟨w.heap.size+1,0,none⟩) n n)) ∧
      (wr.cell? ⟨w.heap.size,0,none⟩=some (.int .i64 0)∧wr.cell? ⟨w.heap.size,1,none⟩=some (.int .i64 0)∧wr.cell? ⟨w.heap.size,2,none⟩=some (.slice none 0 0)) ∧
      (wr.frozen? ⟨w.heap.size,0,none⟩=false∧wr.frozen? ⟨w.heap.size,1,none⟩=false∧wr.frozen? ⟨w.heap.size,2,none⟩=false):=fun wr o =>
     ⟨⟨o.cell f0 (by simp),o.cell f1 (by simp),o.cell f2 (by simp)⟩,⟨o.cell e0 (by simp),o.cell e1 (by simp),o.cell e2 (by simp)⟩,
      ⟨(o.frozen (by simp [hsz]) (by simp)).trans g0,(o.frozen (by simp [hsz]) (by simp)).trans g1,(o.frozen (by simp [hsz]) (by simp)).trans g2⟩⟩
    have HF:=lh hF
    clear hF e0 e1 e2 g0 g1 g2 HW HH HV hmul
    go_wp2_with fail
    go_loopw [35,9] (fun i _ wr=>∃ (k:Nat) (ys:List Value),k≤n∧i=.int .i64 k∧wr.ownsRow (w.heap.size+1) 3 1 (.slice (some ⟨w.heap.size+1,0,none⟩) n n) n ys∧Only [w.heap.size+1] W3 wr) (fun i _ _=>n-(intOf i).toNat)
    case atStart=>exact ⟨0,xs,by omega,rfl,hown,Only.refl _ _⟩
    case round =>
     clear f0 f1 f2
     obtain ⟨k,ys,hk,rfl,ho,hq⟩:=hrel
     obtain ⟨⟨f0,f1,f2⟩,⟨e0,e1,e2⟩,⟨g0,g1,g2⟩⟩:=HF.out _ hq
     by_cases hlt:k<n
     ·have hys:k<ys.length:=by have:=ho.1;omega
      have hc:wr.cell? ⟨w.heap.size+1,k,none⟩=some ys[k]:=(ho.cellAt k (by omega)).trans (List.getElem?_eq_getElem hys)
      have hfz:=ho.frozenAt k
      obtain ⟨hst,hgr⟩:=ho.stored k (.int .i64 V)
      have hlt':(k:Int)<(n:Int):=by omega
      have hx0:(0:Int)≤(k:Int):=by omega
      have Hst:=lh hst
      have Hgr:=lh (Only.of_grown hgr)
      clear ho hst hgr e0 e1 e2 g0 g1 g2
      go_wp2_with fail
      go_roundw
      case rel =>
       exact ⟨k+1,_,by omega,by go_num,Hst.out,hq.trans Hgr.out (by simp) (by simp)⟩
      case measure=>simp [intOf];omega
     ·obtain rfl:k=n:=by omega
      have hx:¬ (k:Int)<(k:Int):=by omega
      go_wp2_with fail
      refine bodyPost_ret (v:=.tuple #[.agg #[.int .i64 W',.int .i64 H',.slice (some ⟨w.heap.size+1,0,none⟩) k k],.nilIface]) (by simp [results,Tryz.results29,go_sem,e0,e1,e2,f0,f1,f2,World.cell?_setCell_other]) rfl ?_
      unfold NewP
      rw [Hr.out]
      have hset:Only [w.heap.size] wr (((wr.setCell ⟨w.heap.size,0,none⟩ (.int .i64 W')).setCell ⟨w.heap.size,1,none⟩ (.int .i64 H')).setCell ⟨w.heap.size,2,none⟩ (.slice (some ⟨w.heap.size+1,0,none⟩) k k)):=(((Only.refl _ _).setCell (by simp) _).setCell (by simp) _).setCell (by simp) _
      have hA:Only [] w wr:=hO.trans hq (by simp) (fun g hg hlt=>absurd (mSg.1 hg) (by omega))
      exact ⟨hA.trans hset (by simp) (fun g hg hlt=>absurd (mSg.1 hg) (by omega)),_,_,_,rfl⟩
def withinB (l:List Int) (a b:Int):Bool:=l.all fun x=>decide (a≤x∧x≤b)
end Go.Proofs.YtmdobcffijnaoaaGreatDoor
