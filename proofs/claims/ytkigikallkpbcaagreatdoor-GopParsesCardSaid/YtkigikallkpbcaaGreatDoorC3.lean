/- Joined texts: Read, Few, New, Get. Conditions: each part names its own. -/
import Derived.Test.YtkigikallkpbcaaGreatDoorC1
import Derived.Test.YtkigikallkpbcaaGreatDoorG0
import Derived.Deep.OwnRows
import Derived.Laws.BitsLemmas
namespace Go.Proofs.YtkigikallkpbcaaGreatDoor
open Go.RowKit
set_option linter.unusedVariables false
set_option linter.unusedSimpArgs false
set_option maxRecDepth 100000
set_option maxHeartbeats 16000000
theorem Ints.sub {k:IntKind} {lo hi b off cap:Nat} {w:World} {l:List Int} (h:Ints k lo hi w (.slice (some ⟨b,off,none⟩) l.length cap) l) {i j:Nat} (hij:i≤j) (hj:j≤l.length) (cap':Nat) (hc:cap'≤cap) (hjc:j-i≤cap') :
  Ints k lo hi w (.slice (some ⟨b,off+i,none⟩) (j-i) cap') ((l.take j).drop i):=by
 obtain ⟨⟨h1,a,c,e,h3,h4,h5⟩,hk⟩:=h
 injection e with e1 e2 e3
 subst e1;subst e3
 have hl:((l.take j).drop i).length=j-i:=by rw [List.length_drop,List.length_take,Nat.min_eq_left hj]
 refine ⟨?_,fun x hx=>hk x (List.mem_of_mem_take (List.mem_of_mem_drop hx))⟩
 rw [hl]
 refine ⟨by rw [List.length_map,hl];omega,some ⟨b,off+i,none⟩,cap',rfl,hjc,Nat.le_trans hc h4,fun hn=>?_⟩
 obtain ⟨b',off',e,x,y,hcc⟩:=h5 (Nat.lt_of_lt_of_le (Nat.lt_of_lt_of_le hn (Nat.sub_le _ _)) hj)
 injection e with e
 injection e with e1 e2
 subst e1;subst e2
 refine ⟨b,off+i,rfl,x,y,fun m u hu=>?_⟩
 rw [Nat.add_assoc]
 refine hcc (i+m) u ?_
 rw [List.getElem?_map,List.getElem?_drop,List.getElem?_take] at hu
 rw [List.getElem?_map]
 split at hu
 ·exact hu
 ·simp at hu
theorem frozen_drew (w:World) (a:Addr):w.drew.frozen? a=w.frozen? a:=rfl
theorem Acc.frz {a b:Value} {w w':World} {B:Nat} (h:Acc a w b w') (ha:From B a) {p:Addr} (hp:p.block<B) (hB:B≤w.heap.size):w'.frozen? p=w.frozen? p :=
 World.frozen?_of_block (w:=w) (h.only.block _ (by omega) (fun hm=>by have:=ha p.block (by simpa using hm);omega))
theorem Only.frozen {S:List Nat} {w w':World} (h:Only S w w') {p:Addr} (hp:p.block<w.heap.size) (hn:p.block∉S):w'.frozen? p=w.frozen? p:=World.frozen?_of_block (w:=w) (h.block _ hp hn)
section
variable {P:Program}
/-- append of integers inside a region that draws its order -/
theorem step_append_ints {w:World} {ops:Array Oper} {o:Oper} {a:Act} {K:Act→World→Prop} {Q:Exit→Act→World→Prop} {E':Prop} (hgd:o.guard=none) (s x:Operand) (t:TypeId)
  (ho:o.op=.call { callee:=.builtin .append,args:=#[s,x],argTypes:=#[t,t] })
  {k:IntKind} {e:TypeId} {z:Value} {bytes base lo hi:Nat} {v sv:Value} {l m:List Int} (E:Elem P t e z 1 bytes)
  (hown:Own k e base w v l) (hv:a.eval s=v) (hs:Ints k lo hi w sv m) (hx:a.eval x=sv)
  (hbytes:(l.length+m.length)*bytes≤140737488355328) (hbase:base≤w.heap.size)
  (h:∀ v' w',Own k e base w' v' (l ++ m)→Acc v w v' w'→K (a.put o.dst v') w'):if Region.wanted o (yielded ops a.tmps)=true then Oper.wp P o a w K Q else E':=by
 have hle:l.length+m.length≤140737488355328:=Nat.le_trans (Nat.le_mul_of_pos_right _ E.bp) hbytes
 refine step_append_cells hgd s x t ho E hown.1 hv hs.1 hx (by simp only [List.mem_map];rintro u ⟨x,_,rfl⟩;rfl) (by simp only [maxLen];omega) hbytes hbase fun v' w' h2 h3=>h v' w' ⟨?_,?_⟩ h3
 ·simpa using h2
 ·intro y hy
  rcases List.mem_append.1 hy with hy | hy
  ·exact hown.2 y hy
  ·exact hs.2 y hy
end
/-- why a coded frame is none -/
def readB (c:Coded):Option Int :=
 if kindB c.kind=false then some 13
 else if bareB c.kind=true then (if 0<c.data.length then some 2 else none)
 else if c.data.length=0 then some 1
 else if 15<c.data.getD 0 0 then some 3
 else if 65536<c.data.length then some 5
 else none
def HeadOr (w:World) (c:Coded) (e:Ending) (w':World):Prop :=
 Only [] w w'∧match readB c with
  | some k=>e=.returned (.tuple #[.agg #[.int .i64 0,.int .i64 0,.slice none 0 0],.iface 35 (.int .i64 k)])
  | none=>∃ dv,e=.returned (.tuple #[.agg #[.int .i64 c.kind,.int .i64 (c.data.getD 0 0),dv],.nilIface])∧Ints .u8 w.heap.size w'.heap.size w' dv (c.data.drop 1)
theorem HeadOr.err {w w':World} {c:Coded} {k:Int} {e:Ending} (hk:readB c=some k) (ho:Only [] w w') (he:e=.returned (.tuple #[.agg #[.int .i64 0,.int .i64 0,.slice none 0 0],.iface 35 (.int .i64 k)])):HeadOr w c e w':=by
 unfold HeadOr;rw [hk];exact ⟨ho,he⟩
theorem readB_3 {k:Int} {l:List Int} (hk:kindB k=true) (hb:bareB k=false) (hp:0<l.length):15<l.getD 0 0→readB ⟨k,l⟩=some 3:=fun h15=>by
 have hne:¬ l.length=0:=by omega
 simp only [readB,hk,hb]
 rw [if_neg (by simp),if_neg (by simp),if_neg hne,if_pos h15]
theorem readB_5 {k:Int} {l:List Int} (hk:kindB k=true) (hb:bareB k=false) (hp:0<l.length):¬ 15<l.getD 0 0→65536<l.length→readB ⟨k,l⟩=some 5:=fun h15 h5=>by
 have hne:¬ l.length=0:=by omega
 simp only [readB,hk,hb]
 rw [if_neg (by simp),if_neg (by simp),if_neg hne,if_neg h15,if_pos h5]
theorem readB_0 {k:Int} {l:List Int} (hk:kindB k=true) (hb:bareB k=false) (hp:0<l.length):¬ 15<l.getD 0 0→¬ 65536<l.length→readB ⟨k,l⟩=none:=fun h15 h5=>by
 have hne:¬ l.length=0:=by omega
 simp only [readB,hk,hb]
 rw [if_neg (by simp),if_neg (by simp),if_neg hne,if_neg h15,if_neg h5]
theorem qRead0 {p:Prop} (h:p:=by
 unfold HeadOr
 rw [Hr.out]
 refine ⟨hs0.trans hs1 (fun g hg _=>hg) (fun g hg hlt=>absurd (mSg.1 hg) (by omega)),_,?_,hI⟩
 rw [← Hq.out]):p:=h
theorem read_any {lo hi:Nat} {k:Int} {dv:Value} {l:List Int} {w:World} (h:Ints .u8 lo hi w dv l) :
  Calls Tryz.prog 32 #[.agg #[.int .i64 k,dv]] w (HeadOr w ⟨k,l⟩):=by
 have hlen:=h.1.len_le
 unfold maxLen at hlen
 obtain ⟨a,cap,rfl,hcap,hmax,hat,hcell⟩:=h.open
 have Hat:=lh hat
 have Hcell:=lh hcell
 have Hh:=lh h
 clear hat hcell h hmax
 have hq:∀ o o',Only [] w ((w.alloc o).alloc o'):=fun o o'=>(Only.new _ _).q (Only.new _ _)
 have HQ:=lh hq
 clear hq
 by_cases hk:kindB k=true
 ·by_cases hb:bareB k=true
  ·by_cases h0:0<l.length
   ·have hr:readB ⟨k,l⟩=some 2:=by simp [readB,hk,hb,h0]
    have Hr:=lh hr
    clear hr
    go_enter Tryz.func32,Tryz.ntmps32
    go_wp2_with (first | (go_at_call 63;refine (kind_any _ _).mono ?_;rintro e w' ⟨rfl,rfl⟩) | (go_at_call 64;refine (bare_any _ _).mono ?_;rintro e w' ⟨rfl,rfl⟩))
    exact bodyPost_ret (v:=.tuple #[.agg #[.int .i64 0,.int .i64 0,.slice none 0 0],.iface 35 (.int .i64 2)]) (by simp [results,Tryz.results32,go_sem]) rfl (HeadOr.err Hr.out (HQ.out _ _) rfl)
   ·have hz:l=[]:=List.eq_nil_of_length_eq_zero (by omega)
    have hr:readB ⟨k,l⟩=none:=by simp [readB,hk,hb,hz]
    have Hr:=lh hr
    have Hz:=lh hz
    clear hr hz
    go_enter Tryz.func32,Tryz.ntmps32
    go_wp2_with (first | (go_at_call 63;refine (kind_any _ _).mono ?_;rintro e w' ⟨rfl,rfl⟩) | (go_at_call 64;refine (bare_any _ _).mono ?_;rintro e w' ⟨rfl,rfl⟩))
    refine bodyPost_ret (v:=.tuple #[.agg #[.int .i64 k,.int .i64 0,.slice none 0 0],.nilIface]) (by simp [results,Tryz.results32,go_sem]) rfl ?_
    unfold HeadOr
    rw [Hr.out,Hz.out]
    exact ⟨HQ.out _ _,_,rfl,Ints.nil _ _ _ _⟩
  ·have hb':bareB k=false:=by simpa using hb
   clear hb
   by_cases h0:l.length=0
   ·have hz:l=[]:=List.eq_nil_of_length_eq_zero h0
    have h0i:((l.length:Nat):Int)=0:=by omega
    clear h0
    have hr:readB ⟨k,l⟩=some 1:=by subst hz;simp [readB,hk,hb']
    have Hr:=lh hr
    clear hr
    go_enter Tryz.func32,Tryz.ntmps32
    go_wp2_with (first | (go_at_call 63;refine (kind_any _ _).mono ?_;rintro e w' ⟨rfl,rfl⟩) | (go_at_call 64;refine (bare_any _ _).mono ?_;rintro e w' ⟨rfl,rfl⟩))
    exact bodyPost_ret (v:=.tuple #[.agg #[.int .i64 0,.int .i64 0,.slice none 0 0],.iface 35 (.int .i64 1)]) (by simp [results,Tryz.results32,go_sem]) rfl (HeadOr.err Hr.out (HQ.out _ _) rfl)
   ·have hpos:0<l.length:=by omega
    have h0b:(((l.length:Nat):Int) == 0)=false:=by rw [beq_eq_false_iff_ne];omega
    have hpi:(0:Int)<(l.length:Int):=by omega
    clear h0
    obtain ⟨b,off,rfl,_,_⟩:=Hat.out 0 hpos
    have c0:=Hcell.out b off rfl 0 hpos
    rw [Nat.add_zero] at c0
    have hx:=Hh.out.range hpos
    unfold InK at hx
    have hr3:=readB_3 hk hb' hpos
    have hr5:=readB_5 hk hb' hpos
    have hr0:=readB_0 hk hb' hpos
    have Hr3:=lh hr3
    have Hr5:=lh hr5
    have Hr0:=lh hr0
    clear hr3 hr5 hr0
    generalize hq:l.getD 0 0=q at *
    have Hq:=lh hq
    clear hq
    have c1:((w.alloc (.cells #[.int .i64 k,.slice (some ⟨b,off,none⟩) l.length cap] 69)).alloc (.cells #[.int .i64 0,.int .i64 0,.slice none 0 0] 75)).cell? ⟨b,off,none⟩=some (.int .u8 q):=(HQ.out _ _).cell c0 (by simp)
    by_cases h15:15<q
    ·have Hr:=lh (Hr3.out h15)
     go_enter Tryz.func32,Tryz.ntmps32
     go_wp2_with (first | (go_at_call 63;refine (kind_any _ _).mono ?_;rintro e w' ⟨rfl,rfl⟩) | (go_at_call 64;refine (bare_any _ _).mono ?_;rintro e w' ⟨rfl,rfl⟩))
     exact bodyPost_ret (v:=.tuple #[.agg #[.int .i64 0,.int .i64 0,.slice none 0 0],.iface 35 (.int .i64 3)]) (by simp [results,Tryz.results32,go_sem]) rfl (HeadOr.err Hr.out (HQ.out _ _) rfl)
    ·by_cases h5:65536<l.length
     ·have Hr:=lh (Hr5.out h15 h5)
      go_enter Tryz.func32,Tryz.ntmps32
      go_wp2_with (first | (go_at_call 63;refine (kind_any _ _).mono ?_;rintro e w' ⟨rfl,rfl⟩) | (go_at_call 64;refine (bare_any _ _).mono ?_;rintro e w' ⟨rfl,rfl⟩))
      exact bodyPost_ret (v:=.tuple #[.agg #[.int .i64 0,.int .i64 0,.slice none 0 0],.iface 35 (.int .i64 5)]) (by simp [results,Tryz.results32,go_sem]) rfl (HeadOr.err Hr.out (HQ.out _ _) rfl)
     ·have Hr:=lh (Hr0.out h15 h5)
      go_enter Tryz.func32,Tryz.ntmps32
      go_wp2_with (first | (go_at_call 63;refine (kind_any _ _).mono ?_;rintro e w' ⟨rfl,rfl⟩) | (go_at_call 64;refine (bare_any _ _).mono ?_;rintro e w' ⟨rfl,rfl⟩))
      clear c1
      have hgd:∃ W3,W3=(w.alloc (.cells #[.int .i64 k,.slice (some ⟨b,off,none⟩) l.length cap] 69)).alloc (.cells #[.int .i64 0,.int .i64 0,.slice none 0 0] 75):=⟨_,rfl⟩
      generalize hW:(w.alloc _).alloc _=W3
      have hO:Only [] w W3:=by rw [← hW];exact HQ.out _ _
      have hcA:W3.heap[w.heap.size]?=some (.cells #[.int .i64 k,.slice (some ⟨b,off,none⟩) l.length cap] 69 (0,0)):=by
       rw [← hW,Below.heap_alloc _ _ _ (by simp)];exact heap_alloc_new' (by simp)
      have f0:W3.cell? ⟨w.heap.size,0,none⟩=some (.int .i64 k):=by rw [cell_of_row _ _ _ _ _ _ hcA];rfl
      have f1:W3.cell? ⟨w.heap.size,1,none⟩=some (.slice (some ⟨b,off,none⟩) l.length cap):=by rw [cell_of_row _ _ _ _ _ _ hcA];rfl
      have f2:W3.cell? ⟨b,off,none⟩=some (.int .u8 q):=hO.cell c0 (by simp)
      have hcB:W3.heap[w.heap.size+1]?=some (.cells #[.int .i64 0,.int .i64 0,.slice none 0 0] 75 (0,0)):=by
       rw [← hW];exact heap_alloc_new' (by simp)
      have g0:W3.frozen? ⟨w.heap.size+1,0,none⟩=false:=frozen_of_row _ _ _ _ _ hcB
      have g1:W3.frozen? ⟨w.heap.size+1,1,none⟩=false:=frozen_of_row _ _ _ _ _ hcB
      have g2:W3.frozen? ⟨w.heap.size+1,2,none⟩=false:=frozen_of_row _ _ _ _ _ hcB
      have e0:W3.cell? ⟨w.heap.size+1,0,none⟩=some (.int .i64 0):=by rw [cell_of_row _ _ _ _ _ _ hcB];rfl
      have e1:W3.cell? ⟨w.heap.size+1,1,none⟩=some (.int .i64 0):=by rw [cell_of_row _ _ _ _ _ _ hcB];rfl
      have e2:W3.cell? ⟨w.heap.size+1,2,none⟩=some (.slice none 0 0):=by rw [cell_of_row _ _ _ _ _ _ hcB];rfl
      have hz3:W3.heap.size=w.heap.size+2:=by rw [← hW];simp
      have hn1:w.heap.size<W3.heap.size:=by omega
      have hn2:b<W3.heap.size:=by have:=block_lt_of_cell f2;exact this
      have hn3:w.heap.size+1<W3.heap.size:=by omega
      have hbw:b<w.heap.size:=block_lt_of_cell c0
      have hbn:¬ b=w.heap.size+1:=by omega
      have hbn':¬ w.heap.size+1=b:=by omega
      have hwq:IntKind.i64.wrap q=q:=by simp [IntKind.wrap,IntKind.bits,IntKind.signed];omega
      clear hcA hcB hW hgd hz3
      have hle:(1:Int)≤(l.length:Int):=by omega
      by_cases hc1:cap=1
      ·have hl1:l.length=1:=by omega
       have hcz:cap-1=0:=by omega
       have hd1:l.drop 1=[]:=List.drop_eq_nil_of_le (by omega)
       have hsrcE:∀ (x:Option Addr) (w':World),Ints .u8 lo hi w' (.slice x 0 0) (l.drop 1):=fun x w'=>by
        rw [hd1];exact ⟨⟨rfl,x,0,rfl,Nat.le_refl _,Nat.zero_le _,fun h=>absurd h (by simp)⟩,by simp⟩
       have HsrcE:=lh hsrcE
       clear hsrcE hd1
       have hown0:Own .u8 5 W3.heap.size (W3.alloc (.cells #[] 5)).drew (.slice (some ⟨W3.heap.size,0,none⟩) 0 0) []:=(own_newG rfl (Nat.zero_le _) (by simp) 0 rfl rfl:Own .u8 5 W3.heap.size (W3.alloc (.cells #[] 5)) (.slice (some ⟨W3.heap.size,0,none⟩) 0 0) [])
       have hb0:W3.heap.size≤((W3.alloc (.cells #[] 5)).drew).heap.size:=by simp
       have hO2:Only [] W3 (W3.alloc (.cells #[] 5)).drew:=(Only.new W3 (.cells #[] 5)).drew
       have l0:=hO2.cell e0 (by simp)
       have l1:=hO2.cell e1 (by simp)
       have l2:=hO2.cell e2 (by simp)
       have g0:(W3.alloc (.cells #[] 5)).drew.frozen? ⟨w.heap.size+1,0,none⟩=false:=(hO2.frozen hn3 (by simp)).trans g0
       have g1:(W3.alloc (.cells #[] 5)).drew.frozen? ⟨w.heap.size+1,1,none⟩=false:=(hO2.frozen hn3 (by simp)).trans g1
       have g2:(W3.alloc (.cells #[] 5)).drew.frozen? ⟨w.heap.size+1,2,none⟩=false:=(hO2.frozen hn3 (by simp)).trans g2
       have hfr:From W3.heap.size (.slice (some ⟨W3.heap.size,0,none⟩) 0 0):=From.lit (Nat.le_refl _)
       have hdl:(([]:List Int).length+(l.drop 1).length)*1≤140737488355328:=by rw [List.length_drop];simp only [List.length_nil];omega
       go_region_held3 (fun w'=>w'.cell? ⟨w.heap.size,0,none⟩=some (.int .i64 k)∧w'.cell? ⟨w.heap.size,1,none⟩=some (.slice (some ⟨b,off,none⟩) l.length cap)∧w'.cell? ⟨b,off,none⟩=some (.int .u8 q))
        (first
         | (go_split_ands;refine ⟨hacc1.cell hfr (by assumption) hn1,hacc1.cell hfr (by assumption) hn1,hacc1.cell hfr (by assumption) hn2⟩)
         | (simp [*,World.cell?_alloc_some,World.cell?_setCell_far,frozen?_alloc_cells,frozen_drew,World.frozen?_setCell])
         | fail)
        (first | (refine step_append_ints rfl (.tmp 59) (.tmp 62) 30 rfl E8 hown0 rfl (HsrcE.out _ _) rfl hdl hb0 (fun v1 w1 hown1 hacc1=>?_);obtain ⟨a1,cap1,rfl,_⟩:=hown1.ints.open;(have m0:=hacc1.cell hfr l0 hn3);(have m1:=hacc1.cell hfr l1 hn3);(have m2:=hacc1.cell hfr l2 hn3);(have n0:=(hacc1.frz (p:=⟨w.heap.size+1,0,none⟩) hfr hn3 hb0).trans g0);(have n1:=(hacc1.frz (p:=⟨w.heap.size+1,1,none⟩) hfr hn3 hb0).trans g1);(have n2:=(hacc1.frz (p:=⟨w.heap.size+1,2,none⟩) hfr hn3 hb0).trans g2)) | fail)
       go_wp2
       refine bodyPost_ret (v:=.tuple #[.agg #[.int .i64 k,.int .i64 q,.slice a1 0 cap1],.nilIface]) (by simp [results,Tryz.results32,go_sem,hwq,m0,m1,m2,World.cell?_setCell_other]) rfl ?_
       have hs1:Only [w.heap.size+1] w1 (((w1.setCell ⟨w.heap.size+1,0,none⟩ (.int .i64 k)).setCell ⟨w.heap.size+1,1,none⟩ (.int .i64 q)).setCell ⟨w.heap.size+1,2,none⟩ (.slice a1 0 cap1)):=(((Only.refl _ _).setCell (by simp) _).setCell (by simp) _).setCell (by simp) _
       have hs0:Only [] w w1:=(hO.q hO2).acc hacc1 (From.lit (Nat.le_of_lt hn1))
       have hI:=(hown1.ints.only hs1 (fun g hg=>by rw [mSg] at hg;omega)).mono (Nat.le_of_lt hn1) hs1.size
       simp only [List.nil_append,List.length_drop,hl1,Nat.sub_self] at hI
       exact qRead0
      ·have hcc:1<cap:=by omega
       have hcz:¬ cap-1=0:=by omega
       have hsrc:=Hh.out.sub (i:=1) (j:=l.length) hpos (Nat.le_refl _) (cap-1) (by omega) (by omega)
       rw [List.take_length] at hsrc
       have hown0:Own .u8 5 W3.heap.size (W3.alloc (.cells #[] 5)).drew (.slice (some ⟨W3.heap.size,0,none⟩) 0 0) []:=(own_newG rfl (Nat.zero_le _) (by simp) 0 rfl rfl:Own .u8 5 W3.heap.size (W3.alloc (.cells #[] 5)) (.slice (some ⟨W3.heap.size,0,none⟩) 0 0) [])
       have hsrc0:=hsrc.quiet (hO.q ((Only.new W3 (.cells #[] 5)).drew))
       have hb0:W3.heap.size≤((W3.alloc (.cells #[] 5)).drew).heap.size:=by simp
       have hO2:Only [] W3 (W3.alloc (.cells #[] 5)).drew:=(Only.new W3 (.cells #[] 5)).drew
       have l0:=hO2.cell e0 (by simp)
       have l1:=hO2.cell e1 (by simp)
       have l2:=hO2.cell e2 (by simp)
       have g0:(W3.alloc (.cells #[] 5)).drew.frozen? ⟨w.heap.size+1,0,none⟩=false:=(hO2.frozen hn3 (by simp)).trans g0
       have g1:(W3.alloc (.cells #[] 5)).drew.frozen? ⟨w.heap.size+1,1,none⟩=false:=(hO2.frozen hn3 (by simp)).trans g1
       have g2:(W3.alloc (.cells #[] 5)).drew.frozen? ⟨w.heap.size+1,2,none⟩=false:=(hO2.frozen hn3 (by simp)).trans g2
       have hfr:From W3.heap.size (.slice (some ⟨W3.heap.size,0,none⟩) 0 0):=From.lit (Nat.le_refl _)
       have hdl:(([]:List Int).length+(l.drop 1).length)*1≤140737488355328:=by rw [List.length_drop];simp only [List.length_nil];omega
       go_region_held3 (fun w'=>w'.cell? ⟨w.heap.size,0,none⟩=some (.int .i64 k)∧w'.cell? ⟨w.heap.size,1,none⟩=some (.slice (some ⟨b,off,none⟩) l.length cap)∧w'.cell? ⟨b,off,none⟩=some (.int .u8 q))
        (first
         | (go_split_ands;refine ⟨hacc1.cell hfr (by assumption) hn1,hacc1.cell hfr (by assumption) hn1,hacc1.cell hfr (by assumption) hn2⟩)
         | (simp [*,World.cell?_alloc_some,World.cell?_setCell_far,frozen?_alloc_cells,frozen_drew,World.frozen?_setCell])
         | fail)
        (first | (refine step_append_ints rfl (.tmp 59) (.tmp 62) 30 rfl E8 hown0 rfl hsrc0 rfl hdl hb0 (fun v1 w1 hown1 hacc1=>?_);obtain ⟨a1,cap1,rfl,_⟩:=hown1.ints.open;(have m0:=hacc1.cell hfr l0 hn3);(have m1:=hacc1.cell hfr l1 hn3);(have m2:=hacc1.cell hfr l2 hn3);(have n0:=(hacc1.frz (p:=⟨w.heap.size+1,0,none⟩) hfr hn3 hb0).trans g0);(have n1:=(hacc1.frz (p:=⟨w.heap.size+1,1,none⟩) hfr hn3 hb0).trans g1);(have n2:=(hacc1.frz (p:=⟨w.heap.size+1,2,none⟩) hfr hn3 hb0).trans g2)) | fail)
       go_wp2
       refine bodyPost_ret (v:=.tuple #[.agg #[.int .i64 k,.int .i64 q,.slice a1 (l.length-1) cap1],.nilIface]) (by simp [results,Tryz.results32,go_sem,hwq,m0,m1,m2,World.cell?_setCell_other]) rfl ?_
       have hs1:Only [w.heap.size+1] w1 (((w1.setCell ⟨w.heap.size+1,0,none⟩ (.int .i64 k)).setCell ⟨w.heap.size+1,1,none⟩ (.int .i64 q)).setCell ⟨w.heap.size+1,2,none⟩ (.slice a1 (l.length-1) cap1)):=(((Only.refl _ _).setCell (by simp) _).setCell (by simp) _).setCell (by simp) _
       have hs0:Only [] w w1:=(hO.q hO2).acc hacc1 (From.lit (Nat.le_of_lt hn1))
       have hI:=(hown1.ints.only hs1 (fun g hg=>by rw [mSg] at hg;omega)).mono (Nat.le_of_lt hn1) hs1.size
       simp only [List.nil_append,List.length_drop] at hI
       exact qRead0
 ·have hk':kindB k=false:=by simpa using hk
  clear hk
  have hr:readB ⟨k,l⟩=some 13:=by simp [readB,hk']
  have Hr:=lh hr
  clear hr
  go_enter Tryz.func32,Tryz.ntmps32
  go_wp2_with (first | (go_at_call 63;refine (kind_any _ _).mono ?_;rintro e w' ⟨rfl,rfl⟩) | (go_at_call 64;refine (bare_any _ _).mono ?_;rintro e w' ⟨rfl,rfl⟩))
  exact bodyPost_ret (v:=.tuple #[.agg #[.int .i64 0,.int .i64 0,.slice none 0 0],.iface 35 (.int .i64 13)]) (by simp [results,Tryz.results32,go_sem]) rfl (HeadOr.err Hr.out (HQ.out _ _) rfl)
def withinB (l:List Int) (a b:Int):Bool:=l.all fun x=>decide (a≤x∧x≤b)
def newB (W H V:Int):Bool:=sideB W && sideB H && sampleB V
def getB (l:List Int):Int:=l.foldl (fun v x=>v*256+x) 0
theorem getB_snoc (l:List Int) (x:Int):getB (l ++ [x])=getB l*256+x:=by simp [getB]
theorem wraps_i64 (n:Int) (h₀:0≤n) (h₁:n<2 ^ 63):IntKind.i64.wrap n=n:=by rw [IntKind.wrap_i64];omega
theorem getB_range:∀ (n:Nat) (l:List Int),l.length=n→n≤7→(∀ x∈l,InK .u8 x)→0≤getB l∧getB l<256 ^ n
 | 0,l,h,_,_=>by have:l=[]:=List.eq_nil_of_length_eq_zero h;subst this;simp [getB]
 | n+1,l,h,h7,hl=>by
  have hne:l≠[]:=by rintro rfl;simp at h
  have e:l=l.dropLast ++ [l.getLast hne]:=(List.dropLast_concat_getLast hne).symm
  have hx:=hl _ (List.getLast_mem hne)
  have ih:=getB_range n l.dropLast (by simp [h]) (by omega) (fun x hx=>hl x (List.dropLast_subset l hx))
  rw [e,getB_snoc,Int.pow_succ]
  unfold InK at hx
  omega
theorem pow_bound {v:Int} {k:Nat} (hk:k<7) (h:v<256 ^ k):v<281474976710657:=by
 match k,hk with
 | 0,_ | 1,_ | 2,_ | 3,_ | 4,_ | 5,_ | 6,_=>simp at h;omega
theorem slice_to {b off n cap:Nat} {i:Int} (k:Nat) (hi:i=(k:Int)) (h:k≤cap) (W:World) :
  (Instr.slice 30 (.slice (some ⟨b,off,none⟩) n cap) none (some (.int .i64 i)) none).run Tryz.prog W=.ok (.slice (some ⟨b,off,none⟩) k cap) W:=by
 subst hi
 have h1:¬ cap<k:=by omega
 have h2:(k:Int)≤(cap:Int):=by omega
 simp [Instr.slice,run_underlying Tryz.underlying30,Instr.sliceBounds,Instr.sliceBound,asIntOf,go_sem,h]
 try omega
end Go.Proofs.YtkigikallkpbcaaGreatDoor
