/- Joined texts: UnitK, MayK, GKPk, DCopyC, SmallK. Conditions: each part names its own. -/
import Derived.Test.YtkigikallkpbcaaGreatDoorGP
import Derived.Test.YtkigikallkpbcaaGreatDoorG0
import Derived.Test.YtkigikallkpbcaaGreatDoorC4
import Derived.Test.YtkigikallkpbcaaGreatDoorG3
import Derived.Test.YtkigikallkpbcaaGreatDoorG4
import Derived.Deep.DeepCutAuto
import Derived.Test.YtkigikallkpbcaaGreatDoorG7
import Derived.Test.YtkigikallkpbcaaGreatDoorC1
namespace Go.Proofs.YtkigikallkpbcaaGreatDoor
open Go.RowKit
set_option linter.unusedVariables false
set_option linter.unusedSimpArgs false
set_option maxRecDepth 100000
set_option maxHeartbeats 16000000
theorem unitB_be {kind:Int} {l:List Int} (hl:l.length≤65536):unitHead kind l=[kind] ++ be l.length 3 ++ l:=by
 rw [be3_len hl];rfl
theorem kmake_ok {lo hi:Nat} (kind:Int) {v:Value} {l:List Int} {w:World} (h:Ints .u8 lo hi w v l) (hk:1≤kind∧kind≤255) (hl:l.length≤65536) :
  Calls Tryz.prog 69 #[.int .i64 kind,v] w fun e w'=>∃ v',e=.returned (.tuple #[v',.agg #[.int .i64 0,.slice none 0 0]])∧Own .u8 5 w.heap.size w' v' (unitB kind l)∧Only [] w w':=by
 have hk1:¬ kind<0:=by omega
 have hk2:¬ 255<kind:=by omega
 have hk0:(kind == 0)=false:=by rw [beq_eq_false_iff_ne];omega
 have hl2:¬ 65536<l.length:=by omega
 have Hh:=lh h
 have hfin:unitB kind l=([kind] ++ be l.length 3 ++ l) ++ be (crc ([kind] ++ be l.length 3 ++ l):Nat) 4:=by rw [unitB,unitB_be hl]
 have Hfin:=lh hfin
 obtain ⟨a,cap,rfl,hcap,hm,_⟩:=h.open
 clear hm hcap h hfin
 go_enter Tryz.func69,Tryz.ntmps69
 go_wp2_with fail
 generalize hW:(w.alloc _).alloc _=W2
 have hO2:Only [] w W2:=by rw [← hW];exact (Only.new _ _).q (Only.new _ _)
 have hz2:w.heap.size+2≤W2.heap.size:=by rw [← hW];simp
 have hE:W2.heap[w.heap.size]?=some (.cells #[.int .i64 0,.slice none 0 0] 38 (0,0)):=by
  rw [← hW,Below.heap_alloc _ _ _ (by simp)];exact heap_alloc_new _ _
 have h0:Own .u8 5 (w.heap.size+1) W2 (.slice (some ⟨w.heap.size+1,0,none⟩) 1 1) [kind]:=by
  rw [← hW];exact own_newG rfl (by simp [maxLen]) (by simp only [mSg,forall_eq,InK];omega) 1 rfl (by simp)
 have F0:From (w.heap.size+1) (.slice (some ⟨w.heap.size+1,0,none⟩) 1 1):=From.lit (Nat.le_refl _)
 clear hW
 go_at_call 91
 refine (number3_any _ _).mono ?_
 rintro e w3 ⟨rfl,hn3,hq3⟩
 have hz3:=hq3.size
 have hz2b:w.heap.size+1≤w3.heap.size:=by omega
 have hq3w:Only [] w w3:=hO2.q hq3
 have hE3:=hq3.row hE
 have h0q:=h0.quiet hq3
 have hb1:([kind].length+(be (l.length:Int) 3).length)*1≤140737488355328:=by simp [be_length]
 have hb2:(([kind] ++ be (l.length:Int) 3).length+l.length)*1≤140737488355328:=by simp [be_length];omega
 have HB1:=lh hb1
 have HB2:=lh hb2
 clear h0 hE hb1 hb2
 go_wp2_with (first
  | (at_builtin;refine wpList_append_ints rfl (.tmp 34) (.tmp 37) _ rfl E8 h0q rfl hn3.ints rfl HB1.out hz2b (fun v1 w4 ho4 ha4=>?_);have hz4:=ha4.only.size;have F1:=ha4.from_ F0 (by omega);have hq4:Only [] w w4:=hq3w.trans ha4.only (by simp) (fun g hg hlt=>(by have:=F0 g (by simpa using hg);omega));have HE4:=lh (ha4.row F0 hE3 (by omega));have hI4:=Hh.out.quiet hq4;have hz4b:w.heap.size+1≤w4.heap.size:=(by omega))
  | (at_builtin;refine wpList_append_ints rfl (.tmp 39) (.tmp 40) _ rfl E8 ho4 rfl hI4 rfl HB2.out hz4b (fun v2 w5 ho5 ha5=>?_))
  | fail)
 have hz5:=ha5.only.size
 have F2:=ha5.from_ F1 (by omega)
 have hq5:Only [] w w5:=hq4.trans ha5.only (by simp) (fun g hg hlt=>by have:=F1 g (by simpa using hg);omega)
 have HE5:=lh (ha5.row F1 HE4.out (by omega))
 have hlen5:([kind] ++ be (l.length:Int) 3 ++ l).length≤70000:=by simp [be_length];omega
 generalize hL:[kind] ++ be (l.length:Int) 3 ++ l=L at *
 have HL:=lh hL
 clear hL hI4 ho4 ha4 HE4 F1 hE3 h0q hq3w
 go_wp2_with fail
 go_at_call 92
 refine (ksum_any ho5.ints).mono ?_
 rintro e w' ⟨rfl,rfl⟩
 have hcl:=crc_lt _ ho5.2
 generalize hcq:crc L=c at *
 have Hcq:=lh hcq
 clear hcq
 go_wp2_with fail
 go_at_call 91
 refine (number4_any _ _).mono ?_
 rintro e w6 ⟨rfl,hn6,hq6⟩
 have hz6:=hq6.size
 have hz6b:w.heap.size+1≤w6.heap.size:=by omega
 have hE6:=hq6.row HE5.out
 have hq56:=hq5.q hq6
 have HB3:Hid ((L.length+(be (c:Int) 4).length)*1≤140737488355328):=lh (by simp [be_length];omega)
 go_wp2_with (first
  | (at_builtin;refine wpList_append_ints rfl (.tmp 42) (.tmp 46) _ rfl E8 (ho5.quiet hq6) rfl hn6.ints rfl HB3.out hz6b (fun v3 w7 ho7 ha7=>?_);obtain ⟨m0,m1,f0,f1,hlt⟩:=row2 (ha7.row F2 hE6 (by omega));have HO7:=lh ho7;have HA7:=lh ha7;clear ho7 ha7)
  | fail)
 have F3:=lh (HA7.out.from_ F2 (by omega))
 have HQ7:Hid (Only [] w w7):=lh (hq56.trans HA7.out.only (by simp) (fun g hg hlt=>by have:=F2 g (by simpa using hg);omega))
 refine bodyPost_ret (v:=.tuple #[v3,.agg #[.int .i64 0,.slice none 0 0]]) (by simp [results,Tryz.results69,go_sem,m0,m1,World.cell?_setCell_other]) rfl ?_
 refine ⟨_,rfl,?_,HQ7.out.set2 (Nat.le_refl _) _ _⟩
 rw [Hfin.out]
 refine (HO7.out.only (((Only.refl [w.heap.size] _).setCell (by simp) _).setCell (by simp) _) (fun g hg e=>?_)).lower (by omega)
 rw [mSg] at hg
 subst hg
 have:=F3.out _ e
 omega
theorem kunit_any {lo hi base:Nat} {bv dv:Value} {m l:List Int} (kind:Int) {w:World} (hown:Own .u8 5 base w bv m) (hb:base≤w.heap.size) (h:Ints .u8 lo hi w dv l)
  (hk:1≤kind∧kind≤255) (hl:l.length≤65536) (hm:m.length≤100000000) :
  Calls Tryz.prog 41 #[bv,.int .i64 kind,dv] w fun e w'=>∃ v',e=.returned v'∧Own .u8 5 base w' v' (m ++ unitB kind l)∧Acc bv w v' w':=by
 have hul:(unitB kind l).length≤70000:=by rw [unitB_length];omega
 have Hul:=lh hul
 have Hm:=lh hm
 have HOwn:=lh hown
 have hmake:=kmake_ok kind h hk hl
 have HM:=lh hmake
 obtain ⟨ba,bcap,hbv,_⟩:=hown.ints.open
 subst hbv
 obtain ⟨da,dcap,hdv,_⟩:=h.open
 subst hdv
 clear hul hm hmake hown h hl
 go_enter Tryz.func41,Tryz.ntmps41
 go_wp2_with fail
 go_at_call 69
 refine HM.out.mono ?_
 rintro e w1 ⟨uv,rfl,hu,hq⟩
 have hz:=hq.size
 have hu2:=fun o=>hu.quiet (Only.new w1 o)
 have HU:=lh hu2
 obtain ⟨ua,ucap,huv,_⟩:=hu.ints.open
 subst huv
 clear hu hu2
 go_wp2_with (first | (at_builtin;refine wpList_append_ints rfl (.tmp 15) (.tmp 16) _ rfl E8 (HOwn.out.quiet (hq.q (Only.new _ _))) rfl (HU.out _).ints rfl ?c1 ?c2 (fun v1 w2 hown1 ho1=>?_)) | fail)
 case c1=>have:=Hul.out;have:=Hm.out;omega
 case c2=>simp;omega
 go_wp2_with fail
 go_ret
 exact ⟨v1,rfl,hown1,(Acc.quiet (hq.q (Only.new _ _))).trans ho1⟩
theorem readB_code {c:Coded} {k:Int} (h:readB c=some k):(k == 0)=false:=by
 unfold readB at h
 split at h
 ·cases h;rfl
 split at h
 ·split at h
  ·cases h;rfl
  ·cases h
 split at h
 ·cases h;rfl
 split at h
 ·cases h;rfl
 split at h
 ·cases h;rfl
 cases h
theorem headB_nums {n f c:Int}:headB n f c=(numB n && numB f && decide (1≤c) && decide (c≤16)):=by
 unfold headB numB
 rw [Bool.eq_iff_iff]
 simp
 omega
theorem qMayK0 {p:Prop} (h:p:=by
 go_enter Tryz.func16,Tryz.ntmps16
 go_wp2_with fail
 go_at_call 44
 refine (number15_any _ _).mono ?_
 rintro e w' ⟨rfl,rfl⟩
 rw [Hn.out]
 go_wp2_with fail
 go_at_call 44
 refine (number15_any _ _).mono ?_
 rintro e w' ⟨rfl,rfl⟩
 rw [Hf.out]
 go_wp2_with fail
 go_ret
 exact ⟨ret_bool Hr.out.symm,Only.new _ _⟩):p:=h
theorem kchunk_any {lo hi:Nat} {dv:Value} {c:Chunk} {w:World} (h:CodedsAt lo hi w dv c.coded) (hd:∀ i,i<c.coded.length→(c.coded.getD i default).data.length≤1000000) :
  Calls Tryz.prog 16 #[.agg #[.int .i64 c.number,.int .i64 c.first,.int .i64 c.count,dv]] w fun e w'=>e=.returned (.bool (chunkB c))∧Only [] w w':=by
 obtain ⟨num,fst,cnt,cod⟩:=c
 simp only at h hd
 obtain ⟨a,cap,rfl,hcap,hmax,hel⟩:=h.open
 have Hel:=lh hel
 have Hd:=lh hd
 have hll:(cod.length:Int)≤9223372036854775807:=by unfold maxLen at hmax;omega
 clear h hel hmax hcap hd
 have hv0:chunkB ⟨num,fst,cnt,cod⟩=(headB num fst cnt && decide ((cod.length:Int)=cnt) && firstB (cod.getD 0 default).kind && cod.all fun x=>(readB x).isNone):=rfl
 rw [headB_nums] at hv0
 have Hv0:=lh hv0
 clear hv0
 cases hn:numB num with
 | false =>
  have Hn:=lh hn
  have Hr:Hid (chunkB ⟨num,fst,cnt,cod⟩=false):=lh (by rw [Hv0.out,hn];simp)
  clear hn
  go_enter Tryz.func16,Tryz.ntmps16
  go_wp2_with fail
  go_at_call 44
  refine (number15_any _ _).mono ?_
  rintro e w' ⟨rfl,rfl⟩
  rw [Hn.out]
  go_wp2_with fail
  go_ret
  exact ⟨ret_bool Hr.out.symm,Only.new _ _⟩
 | true =>
 cases hf:numB fst with
 | false =>
  have Hn:=lh hn
  have Hf:=lh hf
  have Hr:Hid (chunkB ⟨num,fst,cnt,cod⟩=false):=lh (by rw [Hv0.out,hf];simp)
  clear hn hf
  exact qMayK0
 | true =>
 have Hn:=lh hn
 have Hf:=lh hf
 clear hn hf
 by_cases hbad:cnt<1∨16<cnt∨(cod.length:Int)≠cnt
 ·have Hr:Hid (chunkB ⟨num,fst,cnt,cod⟩=false):=lh (by
   rw [Hv0.out]
   rcases hbad with h | h | h
   ·have:decide (1≤cnt)=false:=by rw [decide_eq_false_iff_not];omega
    simp [this]
   ·have:decide (cnt≤16)=false:=by rw [decide_eq_false_iff_not];omega
    simp [this]
   ·simp [h])
  have h3:cnt<1∨(¬ cnt<1∧16<cnt)∨(¬ cnt<1∧¬ 16<cnt∧((cod.length:Int) == cnt)=false∧((cod.length:Int) != cnt)=true):=by
   by_cases h1:cnt<1
   ·exact .inl h1
   by_cases h2:16<cnt
   ·exact .inr (.inl ⟨h1,h2⟩)
   ·have h3:(cod.length:Int)≠cnt:=by rcases hbad with h | h | h;exact absurd h h1;exact absurd h h2;exact h
    exact .inr (.inr ⟨h1,h2,by rw [beq_eq_false_iff_ne];exact h3,by simpa using h3⟩)
  clear hbad
  rcases h3 with h1 | ⟨h1,h2⟩ | ⟨h1,h2,h3,h4⟩
  all_goals
   exact qMayK0
 ·obtain ⟨g1,g2,rfl⟩:¬ cnt<1∧¬ 16<cnt∧(cod.length:Int)=cnt:=by
   refine ⟨fun h=>hbad (.inl h),fun h=>hbad (.inr (.inl h)),?_⟩
   by_cases h:(cod.length:Int)=cnt
   ·exact h
   ·exact absurd (.inr (.inr h)) hbad
  have hpos:0<cod.length:=by omega
  have hp:(0:Int)<(cod.length:Int):=by omega
  have hlb:((cod.length:Int) == (cod.length:Int))=true:=by simp
  have hlb2:((cod.length:Int) != (cod.length:Int))=false:=by simp
  obtain ⟨b,off,dv,rfl,_,_,hc1,hc2,_,hd⟩:=Hel.out 0 hpos
  simp only [Nat.zero_mul,Nat.add_zero] at hc1 hc2
  have q1:=(Only.new w (.cells #[.int .i64 num,.int .i64 fst,.int .i64 cod.length,.slice (some ⟨b,off,none⟩) cod.length cap] 41)).cell hc1 (by simp)
  have Hv1:Hid (chunkB ⟨num,fst,cod.length,cod⟩=(firstB (cod.getD 0 default).kind && cod.all fun x=>(readB x).isNone)):=lh (by
   rw [Hv0.out,Hn.out,Hf.out]
   have e1:decide (1≤(cod.length:Int))=true:=by rw [decide_eq_true_eq];omega
   have e2:decide ((cod.length:Int)≤16)=true:=by rw [decide_eq_true_eq];omega
   rw [e1,e2];simp)
  have row:=heap_alloc_new w (.cells #[.int .i64 num,.int .i64 fst,.int .i64 cod.length,.slice (some ⟨b,off,none⟩) cod.length cap] 41)
  have HR1:=lh row
  clear hbad hd hc1 hc2 Hv0 row
  generalize hk0:(cod.getD 0 default).kind=k0 at *
  have Hk0:=lh hk0
  clear hk0
  cases hfb:firstB k0 with
  | false =>
   have Hfb:=lh hfb
   have Hr:Hid (chunkB ⟨num,fst,cod.length,cod⟩=false):=lh (by rw [Hv1.out,hfb];rfl)
   clear hfb
   go_enter Tryz.func16,Tryz.ntmps16
   go_wp2_with fail
   go_at_call 44
   refine (number15_any _ _).mono ?_
   rintro e w' ⟨rfl,rfl⟩
   rw [Hn.out]
   go_wp2_with fail
   go_at_call 44
   refine (number15_any _ _).mono ?_
   rintro e w' ⟨rfl,rfl⟩
   rw [Hf.out]
   go_wp2_with fail
   go_at_call 45
   refine (begins_any _ _).mono ?_
   rintro e w' ⟨rfl,rfl⟩
   rw [Hfb.out]
   go_wp2_with fail
   go_ret
   exact ⟨ret_bool Hr.out.symm,Only.new _ _⟩
  | true =>
   have Hfb:=lh hfb
   have Hr:Hid (chunkB ⟨num,fst,cod.length,cod⟩=cod.all fun x=>(readB x).isNone):=lh (by rw [Hv1.out,hfb];rfl)
   clear hfb Hv1
   go_enter Tryz.func16,Tryz.ntmps16
   go_wp2_with fail
   go_at_call 44
   refine (number15_any _ _).mono ?_
   rintro e w' ⟨rfl,rfl⟩
   rw [Hn.out]
   go_wp2_with fail
   go_at_call 44
   refine (number15_any _ _).mono ?_
   rintro e w' ⟨rfl,rfl⟩
   rw [Hf.out]
   go_wp2_with fail
   go_at_call 45
   refine (begins_any _ _).mono ?_
   rintro e w' ⟨rfl,rfl⟩
   rw [Hfb.out]
   go_wp2_with fail
   have hO1:Only [] w (w.alloc (.cells #[.int .i64 num,.int .i64 fst,.int .i64 cod.length,.slice (some ⟨b,off,none⟩) cod.length cap] 41)):=Only.new _ _
   generalize w.alloc (.cells #[.int .i64 num,.int .i64 fst,.int .i64 cod.length,.slice (some ⟨b,off,none⟩) cod.length cap] 41)=W1 at *
   go_loopw [4] (fun i wr=>∃ k:Nat,k≤cod.length∧i=.int .i64 k∧Hid (((cod.drop k).all fun x=>(readB x).isNone)=(cod.all fun x=>(readB x).isNone))∧Only [] W1 wr) (fun i _=>cod.length-(intOf i).toNat)
   case atStart=>exact ⟨0,by omega,rfl,lh rfl,Only.refl _ _⟩
   case round =>
    clear q1
    obtain ⟨k,hk,rfl,Hk,hq⟩:=hrel
    have rA:=hq.row HR1.out
    have y3:wr.cell? ⟨w.heap.size,2+1,none⟩=some (.slice (some ⟨b,off,none⟩) cod.length cap):=by rw [cell_of_row _ _ _ _ _ _ rA];rfl
    have y3':wr.cell? ⟨w.heap.size,3,none⟩=some (.slice (some ⟨b,off,none⟩) cod.length cap):=y3
    by_cases hlt:k<cod.length
    ·obtain ⟨b',off',dv',e,_,_,hc1,hc2,_,hd⟩:=Hel.out k hlt
     injection e with e
     injection e with e1 e2
     subst e1;subst e2
     have c1:=(hO1.q hq).cell hc1 (by simp)
     have c2:=(hO1.q hq).cell hc2 (by simp)
     obtain ⟨da,dcap,rfl,_⟩:=hd.open
     have hx:(0:Int)≤(k:Int):=by omega
     have hx1:(k:Int)<(cod.length:Int):=by omega
     have HI:=lh (kread_any (k:=(cod.getD k default).kind) (hd.quiet (hO1.q hq)) (by have:=Hd.out k hlt;omega))
     have hdrop:=all_drop_succ (fun x=>(readB x).isNone) hlt
     clear hc1 hc2 hd rA
     generalize cod.getD k default=x at *
     obtain ⟨xk,xd⟩:=x
     simp only at c1 c2 HI hdrop
     cases hrb:readB ⟨xk,xd⟩ with
     | some kc =>
      have hkc:=readB_code hrb
      have Hrr:Hid (chunkB ⟨num,fst,cod.length,cod⟩=false):=lh (by rw [Hr.out,← Hk.out,hdrop,hrb];rfl)
      have Hrb:=lh hrb
      clear hrb hdrop
      go_wp2_with fail
      go_at_call 46
      refine HI.out.mono ?_
      rintro e w1 hP
      unfold HeadK at hP
      rw [Hrb.out] at hP
      obtain ⟨hq1,rfl⟩:=hP
      go_wp2_with fail
      go_at_call 47
      refine (ok_eq _ _ _).mono ?_
      rintro e w2 ⟨rfl,rfl⟩
      go_wp2_with fail
      go_ret
      exact ⟨ret_bool Hrr.out.symm,(hO1.q hq).q (((hq1.alloc _).alloc _).alloc _)⟩
     | none =>
      have Hrb:=lh hrb
      have Hk2:Hid (((cod.drop (k+1)).all fun x=>(readB x).isNone)=(cod.all fun x=>(readB x).isNone)):=lh (by rw [← Hk.out,hdrop,hrb];simp)
      clear hrb hdrop
      go_wp2_with fail
      go_at_call 46
      refine HI.out.mono ?_
      rintro e w1 hP
      unfold HeadK at hP
      rw [Hrb.out] at hP
      obtain ⟨hq1,dv1,rfl,hd1⟩:=hP
      obtain ⟨da1,dcap1,rfl,_⟩:=hd1.open
      simp only
      clear hd1
      go_wp2_with fail
      go_at_call 47
      refine (ok_eq _ _ _).mono ?_
      rintro e w2 ⟨rfl,rfl⟩
      go_wp2_with fail
      go_roundw
      case rel=>exact ⟨k+1,by omega,by go_num,Hk2,hq.q (((hq1.alloc _).alloc _).alloc _)⟩
      case measure=>simp [intOf];omega
    ·obtain rfl:k=cod.length:=by omega
     have hx:¬ (cod.length:Int)<(cod.length:Int):=by omega
     have Hrr:Hid (chunkB ⟨num,fst,cod.length,cod⟩=true):=lh (by rw [Hr.out,← Hk.out,List.drop_length];rfl)
     go_wp2_with fail
     go_ret
     exact ⟨ret_bool Hrr.out.symm,hO1.q hq⟩
theorem qGKPkt0 {p:Prop} (h:p:=by intro wz hSw;obtain ⟨hS0,c0,c1⟩:=hSw;obtain ⟨r0,r1,r2,r3⟩:=row4_cells hS0;go_simp;try with_reducible rfl):p:=h
/-- what kinref23.Pack hands back -/
def KPackP (c:Chunk) (w:World) (e:Ending) (w':World):Prop :=
 Only [] w w'∧match chunkB c with
  | true=>∃ v,e=.returned (.tuple #[v,.agg #[.int .i64 0,.slice none 0 0]])∧Own .u8 5 w.heap.size w' v (packB c)
  | false=>e=.returned (.tuple #[.slice none 0 0,.agg #[.int .i64 2,.slice none 0 0]])
section
theorem kgpack_any {lo hi:Nat} {dv:Value} {c:Chunk} {w:World} (h:CodedsAt lo hi w dv c.coded) (hd:∀ x∈c.coded,x.data.length≤20000) :
  Calls Tryz.prog 13 #[.agg #[.int .i64 c.number,.int .i64 c.first,.int .i64 c.count,dv]] w (KPackP c w):=by
 refine hidQ fun Q HPost=>?_
 have HM:=lh (fun (W:World) (o:Only [] w W)=>kchunk_any (h.quiet o) (fun i hi=>by have:=hd _ (by rw [List.getD_eq_getElem?_getD,List.getElem?_eq_getElem hi];exact List.getElem_mem _:c.coded.getD i default∈c.coded);omega))
 have HPr:Hid (chunkB c=true→headB c.number c.first c.count=true∧(c.coded.length:Int)=c.count∧∀ x∈c.coded,readB x=none):=lh (fun h1=>by
  unfold chunkB at h1
  simp only [Bool.and_eq_true,decide_eq_true_eq,List.all_eq_true] at h1
  obtain ⟨⟨⟨a,b⟩,-⟩,d⟩:=h1
  refine ⟨a,b,fun x hx=>?_⟩
  have h3:=d x hx
  cases hr:readB x with
  | none=>rfl
  | some e=>rw [hr] at h3;cases h3)
 unfold KPackP packB at HPost
 obtain ⟨num,fst,cnt,cs⟩:=c
 simp only at h hd HM HPr HPost
 obtain ⟨a,cap,rfl,hcap,hmax,hel⟩:=h.open
 have Hel:=lh hel
 have hll:(cs.length:Int)≤9223372036854775807:=by unfold maxLen at hmax;omega
 obtain ⟨hb,HR2,HE2,HZ2⟩:=boxes2 w (.cells #[.int .i64 num,.int .i64 fst,.int .i64 cnt,.slice a cs.length cap] 41) (.cells #[.int .i64 0,.slice none 0 0] 38)
 have HQ2:=lh hb
 clear h hel hmax hcap hd hb
 generalize chunkB ⟨num,fst,cnt,cs⟩=CB at *
 go_enter Tryz.func13,Tryz.ntmps13
 obtain ⟨r0,r1,r2,r3⟩:=row4_cells HR2.out
 go_wp2_with fail
 generalize hW2:World.alloc (World.alloc w _) _=W2 at *
 clear hW2 r0 r1 r2 r3
 obtain ⟨B1,hB1⟩:∃ z,z=w.heap.size:=⟨_,rfl⟩
 rw [← hB1] at HR2 HE2 ⊢
 have HB1:=lh hB1
 clear hB1
 go_at_call 16
 refine (HM.out _ HQ2.out).mono ?_
 rintro e w3 ⟨rfl,hq3⟩
 have HQ3:=lh (HQ2.out.q hq3)
 have HR3:=lh (hq3.row HR2.out)
 have HE3:=lh (hq3.row HE2.out)
 have HZ3:Hid (B1+1<w3.heap.size):=lh (by have:=hq3.size;have:=HZ2.out;have:=HB1.out;omega)
 clear hq3
 cases CB with
 | false =>
  go_wp2_with fail
  go_at_call 40
  refine (fail_any _ _).mono ?_
  rintro e w4 ⟨rfl,hq4⟩
  have HQ4:=lh (HQ3.out.q hq4)
  have HE4:=lh (hq4.row HE3.out)
  clear hq4
  obtain ⟨e0,e1,ef0,ef1,_⟩:=row2 HE4.out
  go_wp2_with fail
  generalize hWf:World.setCell _ _ _=Wf
  obtain ⟨t0,t1,oF,_⟩:=set2r HE4.out hWf
  refine bodyPost_ret (v:=.tuple #[.slice none 0 0,.agg #[.int .i64 2,.slice none 0 0]]) (by simp [results,Tryz.results13,go_sem,t0,t1]) rfl (HPost.out _ _ ⟨HQ4.out.tail1 oF (by have:=HB1.out;omega),rfl⟩)
 | true =>
  obtain ⟨hh,hcn,hrd⟩:=HPr.out rfl
  have hin:=head_in (k:=⟨num,fst,cnt,cs⟩) hh
  unfold headB at hh
  rw [decide_eq_true_eq] at hh
  have hw0:IntKind.u8.wrap num=num:=by simp only [IntKind.wrap,IntKind.bits,IntKind.signed];simp;omega
  have hw1:IntKind.u8.wrap fst=fst:=by simp only [IntKind.wrap,IntKind.bits,IntKind.signed];simp;omega
  have hw2:IntKind.u8.wrap cnt=cnt:=by simp only [IntKind.wrap,IntKind.bits,IntKind.signed];simp;omega
  have HC16:Hid (cs.length≤16):=lh (by omega)
  have HRd:=lh hrd
  have hn4:=Only.new w3 (.cells #[.int .u8 num,.int .u8 fst,.int .u8 cnt] 5)
  have HUn:=lh (kunit_any (base:=w3.heap.size) (m:=[]) 32 (Own.nil .u8 5 w3.heap.size (w3.alloc (.cells #[.int .u8 num,.int .u8 fst,.int .u8 cnt] 5))) hn4.size (ints_newG (k:=.u8) (w:=w3) (t:=5) (l:=[num,fst,cnt]) (vs:=#[.int .u8 num,.int .u8 fst,.int .u8 cnt]) rfl (by simp [maxLen]) hin 3 rfl rfl) (by decide) (by simp) (by simp))
  have HQ4:=lh (HQ3.out.q hn4)
  have HN4:=lh hn4
  clear hh hcn hin hrd hn4 HPr HM
  obtain ⟨r0,r1,r2,r3⟩:=row4_cells HR3.out
  go_wp2_with fail
  clear r0 r1 r2 r3
  generalize hW4:World.alloc w3 _=W4 at *
  clear hW4
  go_at_call 41
  refine HUn.out.mono ?_
  rintro e w5 ⟨v5,rfl,ho5,ha5⟩
  have hq5:Only [] W4 w5:=ha5.from_nil rfl
  have HQ5:=lh (HQ4.out.q hq5)
  have HQ35:=lh (HN4.out.q hq5)
  have HO5:=lh ho5
  rw [List.nil_append] at HO5
  clear ho5 ha5 hq5 HUn hw0 hw1 hw2
  have HUL:Hid ((unitB 32 [num,fst,cnt]).length=11):=lh (by rw [unitB_length];rfl)
  generalize hX:unitB 32 [num,fst,cnt]=X at *
  clear hX
  have HR5:=lh (HQ35.out.row HR3.out)
  have HE5:=lh (HQ35.out.row HE3.out)
  obtain ⟨r0,r1,r2,r3⟩:=row4_cells HR5.out
  go_wp2_with fail
  clear r0 r1 r2 r3
  go_loopw [5,4] (fun i s wr=>∃ (k:Nat) (bv:Value),k≤cs.length∧i=.int .i64 k∧bv=s∧Hid (Own .u8 5 w3.heap.size wr bv (X ++ (cs.take k).flatMap fun c=>unitB c.kind c.data))∧Hid (wr.heap[B1]?=some (.cells #[.int .i64 num,.int .i64 fst,.int .i64 cnt,.slice a cs.length cap] 41 (0,0)))∧Hid (wr.heap[B1+1]?=some (.cells #[.int .i64 0,.slice none 0 0] 38 (0,0)))∧Hid (Only [] w wr)∧Hid (w3.heap.size≤wr.heap.size)) (fun i _ _=>cs.length-(intOf i).toNat)
  case atStart=>exact ⟨0,_,by omega,rfl,rfl,lh (by simpa using HO5.out),HR5,HE5,HQ5,lh HQ35.out.size⟩
  case round =>
   obtain ⟨k,bv,hk,rfl,rfl,HO,HR,HE,HQ,HZ⟩:=hrel
   by_cases hlt:k<cs.length
   ·obtain ⟨b,off,dv,rfl,-,-,hc0,hc1,hkd,hd⟩:=Hel.out k hlt
    have hki:(k:Int)<(cs.length:Int):=by omega
    have hk0:(0:Int)≤(k:Int):=by omega
    have HFt:=lh (flat_take hlt)
    have hmem:cs.getD k default∈cs:=by rw [List.getD_eq_getElem?_getD,List.getElem?_eq_getElem hlt];exact List.getElem_mem _
    have hrd:=readB_none (HRd.out _ hmem)
    have hpl:=flat_le' (cs.take k) (fun c hc=>(readB_none (HRd.out c (List.mem_of_mem_take hc))).2.2)
    rw [List.length_take] at hpl
    have HLn:Hid ((X ++ (cs.take k).flatMap fun c=>unitB c.kind c.data).length≤2000000):=lh (by rw [List.length_append,HUL.out];have:=HC16.out;omega)
    clear hpl hmem
    generalize cs.getD k default=x at *
    generalize hY:(X ++ (cs.take k).flatMap fun c=>unitB c.kind c.data)=Y at *
    have HY:=lh hY
    obtain ⟨da,dc,rfl,-⟩:=hd.open
    have HUn:=lh (fun (W:World) (o:Only [] wr W)=>kunit_any x.kind (HO.out.quiet o) (Nat.le_trans HZ.out o.size) (hd.quiet (HQ.out.q o)) ⟨hrd.1,by omega⟩ hrd.2.2 (by have:=HLn.out;omega))
    have hown:∀ g,g∈bv.ownBlock.toList→w3.heap.size≤g:=fun g hg=>(HO.out.at g (by simpa using hg)).1
    have HOn:=lh hown
    have HSS:Hid (∀ wx:World,Only bv.ownBlock.toList wr wx→wx.heap[B1]?=some (.cells #[.int .i64 num,.int .i64 fst,.int .i64 cnt,.slice (some ⟨b,off,none⟩) cs.length cap] 41 (0,0))∧wx.cell? ⟨b,off+k*2,none⟩=some (.int .i64 x.kind)∧wx.cell? ⟨b,off+k*2+1,none⟩=some (.slice da x.data.length dc)):=lh (fun wx o=>⟨o.rowAt HR.out (fun hm=>by have:=hown _ hm;have:=HZ3.out;omega),o.cell (HQ.out.cell hc0 (by simp)) (fun hm=>by have:=hown _ hm;have:=block_lt_of_cell hc0;have:=HQ3.out.size;simp only at *;omega),o.cell (HQ.out.cell hc1 (by simp)) (fun hm=>by have:=hown _ hm;have:=block_lt_of_cell hc1;have:=HQ3.out.size;simp only at *;omega)⟩)
    have HSS0:=lh (HSS.out _ (Only.refl _ _))
    have HSS1:=lh (HSS.out _ (Only.refl _ _).drew)
    clear hY hd hc0 hc1 hrd hkd hown
    obtain ⟨r0,r1,r2,r3⟩:=row4_cells HR.out
    go_upto_region 7 with (fail)
    clear r0 r1 r2 r3
    refine wp_region_held_drew (S:=(fun wz=>wz.heap[B1]?=some (.cells #[.int .i64 num,.int .i64 fst,.int .i64 cnt,.slice (some ⟨b,off,none⟩) cs.length cap] 41 (0,0))∧wz.cell? ⟨b,off+k*2,none⟩=some (.int .i64 x.kind)∧wz.cell? ⟨b,off+k*2+1,none⟩=some (.slice da x.data.length dc))) (by kernel_rfl) ?_ (fun hHeld=>?_)
    ·first | exact HSS0.out | exact HSS1.out
    refine tkw 0 30 ⟨rfl,qGKPkt0⟩ ?_
    refine tkw 1 31 ⟨rfl,qGKPkt0⟩ ?_
    refine tkw 2 32 ⟨rfl,qGKPkt0⟩ ?_
    refine tkw 3 33 ⟨rfl,qGKPkt0⟩ ?_
    refine tkw 4 34 ⟨rfl,qGKPkt0⟩ ?_
    refine tkw 5 35 ⟨rfl,qGKPkt0⟩ ?_
    refine tkw 6 36 ⟨rfl,qGKPkt0⟩ ?_
    refine tkw 7 37 ⟨rfl,qGKPkt0⟩ ?_
    refine tkw 8 38 ⟨rfl,qGKPkt0⟩ ?_
    refine tkw 9 39 ⟨rfl,qGKPkt0⟩ ?_
    refine tkw 10 40 ⟨rfl,qGKPkt0⟩ ?_
    refine tkw 11 41 ⟨rfl,qGKPkt0⟩ ?_
    refine tkw 12 42 ⟨rfl,qGKPkt0⟩ ?_
    refine rdy (rdc 13 43 (fun K hK=>?_) .nil)
    go_simp
    go_at_call 41
    refine (HUn.out _ (by first | exact Only.refl _ _ | exact (Only.refl _ _).drew)).mono ?_
    rintro e w6 ⟨v6,rfl,ho6,ha6⟩
    have hq6:Only bv.ownBlock.toList wr w6:=by first | exact ha6.only | exact ((Only.refl [] wr).drew).trans ha6.only (by simp) (fun g hg _=>hg)
    have HQ6:=lh hq6
    have HO6:=lh ho6
    clear ho6 ha6 hq6
    refine hK.out _ _ ?_ (fun hHeld=>?_)
    ·exact HSS.out _ HQ6.out
    clear hK K
    try simp only [Act.put,List.setIfInBounds_toArray,List.set_cons_zero,List.set_cons_succ]
    refine tkw 14 4 ⟨rfl,qGKPkt0⟩ ?_
    refine wpAnyH_done (by kernel_rfl) ?_ _
    go_wp2_with fail
    have hf:Only bv.ownBlock.toList wr w6:=HQ6.out
    refine ⟨⟨k+1,_,by omega,by go_num,rfl,lh ?_,lh ?_,lh ?_,lh ?_,lh ?_⟩,by simp [intOf];omega⟩
    ·rw [HFt.out,← List.append_assoc,HY.out]
     first | exact HO6.out | exact HO6.out.quiet (Only.refl _ _).drew
    ·first | exact (HSS.out _ hf).1 | exact (HSS.out _ hf.drew).1
    ·first | exact hf.rowAt HE.out (fun hm=>by have:=HOn.out _ hm;have:=HZ3.out;omega) | exact hf.drew.rowAt HE.out (fun hm=>by have:=HOn.out _ hm;have:=HZ3.out;omega)
    ·first | exact HQ.out.trans hf (by simp) (fun g hg hlt=>by have:=HOn.out g hg;have:=HQ3.out.size;omega) | exact (HQ.out.trans hf (by simp) (fun g hg hlt=>by have:=HOn.out g hg;have:=HQ3.out.size;omega)).drew
    ·first | exact Nat.le_trans HZ.out hf.size | exact Nat.le_trans HZ.out hf.drew.size
   ·obtain rfl:k=cs.length:=by omega
    have hx:¬ (cs.length:Int)<(cs.length:Int):=by omega
    obtain ⟨r0,r1,r2,r3⟩:=row4_cells HR.out
    obtain ⟨e0,e1,ef0,ef1,_⟩:=row2 HE.out
    obtain ⟨va,vc,hv,-⟩:=HO.out.ints.open
    generalize hL:(X ++ (cs.take cs.length).flatMap fun c=>unitB c.kind c.data).length=L at *
    subst hv
    go_wp2_with fail
    generalize hWf:World.setCell _ _ _=Wf
    obtain ⟨t0,t1,oF,_⟩:=set2r HE.out hWf
    refine bodyPost_ret (v:=.tuple #[.slice va L vc,.agg #[.int .i64 0,.slice none 0 0]]) (by simp [results,Tryz.results13,go_sem,t0,t1]) rfl (HPost.out _ _ ⟨HQ.out.tail1 oF (by have:=HB1.out;omega),_,rfl,?_⟩)
    have h:=(HO.out.only oF (fun g hg e=>by rw [mSg] at hg;have:=(HO.out.at g e).1;have:=HZ3.out;omega)).lower (base':=w.heap.size) HQ3.out.size
    rwa [List.take_length] at h
end
theorem qDCopyCt0 {p:Prop} (h:p:=by intro wz hSw;obtain ⟨hS0,hS1⟩:=hSw;go_simp;try with_reducible rfl):p:=h
theorem kcopyc_any {lo hi:Nat} {v:Value} {w:World} {l:List Coded} (h:CodedsAt lo hi w v l) (hl40:l.length≤40) (hdl:∀ c∈l,c.data.length≤140737488355328) :
  Calls Tryz.prog 11 #[v] w fun e w'=>(∃ a cap,e=.returned (.slice a l.length cap)∧CodedsAt w.heap.size w'.heap.size w' (.slice a l.length cap) l)∧Only [] w w':=by
 refine hidQ fun Q HPost=>?_
 obtain ⟨a,cap,rfl,hcap,hmax,hel⟩:=h.open
 have Hel:=lh hel
 have Hl40:=lh hl40
 have Hdl:=lh hdl
 have hll:(l.length:Int)≤9223372036854775807:=by omega
 clear h hel hcap hmax hl40 hdl
 go_enter Tryz.func11,Tryz.ntmps11
 go_wp2_with fail
 go_loopw [4,3] (fun i r wr=>∃ k:Nat,k≤l.length∧i=.int .i64 k∧Hid (OwnCD w.heap.size wr r (l.take k))∧Hid (Only [] w wr)) (fun i _ _=>l.length-(intOf i).toNat)
 case atStart=>exact ⟨0,by omega,rfl,lh (OwnCD.nil _ _),lh (Only.refl _ _)⟩
 case round =>
  obtain ⟨k,hk,rfl,HOk,HQk⟩:=hrel
  obtain ⟨ra,rcap,hra⟩:=HOk.out.isSlice
  rw [List.length_take,Nat.min_eq_left hk] at hra
  subst hra
  by_cases hlt:k<l.length
  ·have hki:(k:Int)<(l.length:Int):=by omega
   have hk0:(0:Int)≤(k:Int):=by omega
   obtain ⟨cb,coff,dv,rfl,_,_,hc1,hc2,hik,hd⟩:=Hel.out k hlt
   have Hcl:=lh (Hdl.out _ (by rw [List.getD_eq_getElem?_getD,List.getElem?_eq_getElem hlt];exact List.getElem_mem _:l.getD k default∈l))
   have Htk:=lh (show l.take (k+1)=l.take k ++ [l.getD k default] by rw [List.take_succ_eq_append_getElem hlt,List.getD_eq_getElem?_getD,List.getElem?_eq_getElem hlt];rfl)
   generalize l.getD k default=c at *
   have HC1:=lh (fun (wx:World) (o:Only [] w wx)=>o.cell hc1 (by simp))
   have HC2:=lh (fun (wx:World) (o:Only [] w wx)=>o.cell hc2 (by simp))
   have HD:=lh hd
   have Hik:=lh hik
   have Hlt:=lh hlt
   obtain ⟨da,dcap,rfl,-⟩:=hd.open
   have HCp:=lh (fun (wx:World) (o:Only [] w wx)=>copyb_any (HD.out.quiet o) Hcl.out)
   clear hc1 hc2 hd hik
   go_wp2_with fail
   refine wp_region_held_drew (S:=(fun wz=>wz.cell? ⟨cb,coff+k*2,none⟩=some (.int .i64 c.kind)∧wz.cell? ⟨cb,coff+k*2+1,none⟩=some (.slice da c.data.length dcap))) (by kernel_rfl) ?_ (fun hHeld=>?_)
   ·exact ⟨HC1.out _ HQk.out.drew,HC2.out _ HQk.out.drew⟩
   refine tkw 0 11 ⟨rfl,qDCopyCt0⟩ ?_
   refine tkw 1 12 ⟨rfl,qDCopyCt0⟩ ?_
   refine tkw 2 13 ⟨rfl,qDCopyCt0⟩ ?_
   refine tkw 3 14 ⟨rfl,qDCopyCt0⟩ ?_
   refine tkw 4 15 ⟨rfl,qDCopyCt0⟩ ?_
   refine tkw 5 16 ⟨rfl,qDCopyCt0⟩ ?_
   refine tkw 6 17 ⟨rfl,qDCopyCt0⟩ ?_
   refine tkw 7 18 ⟨rfl,qDCopyCt0⟩ ?_
   refine tkw 8 19 ⟨rfl,qDCopyCt0⟩ ?_
   refine tkw 9 20 ⟨rfl,qDCopyCt0⟩ ?_
   refine tkw 10 21 ⟨rfl,qDCopyCt0⟩ ?_
   refine rdy (rdc 11 22 (fun K hK=>?_) .nil)
   go_simp
   go_at_call 26
   refine (HCp.out _ (by first | exact HQk.out | exact HQk.out.drew | exact HQk.out.drew.drew)).mono ?_
   rintro e w5 ⟨nv,rfl,hown5,hq5⟩
   obtain ⟨b5,hin5,hb5⟩:=own_data hown5
   obtain ⟨na,ncap,rfl,-⟩:=hin5.open
   replace hq5:Only [] wr w5:=by first | exact hq5 | exact ((Only.refl _ _).drew).q hq5 | exact ((Only.refl _ _).drew.drew).q hq5
   have hwd:wr.heap.size≤wr.drew.heap.size∧wr.drew.heap.size≤wr.drew.drew.heap.size:=⟨(Only.refl [] wr).drew.size,(Only.refl [] wr.drew).drew.size⟩
   have HQ5:=lh (HQk.out.q hq5)
   have HO5:=lh (HOk.out.quiet hq5)
   have HIn5:=lh hin5
   have Hb5:Hid (c.data=[]∨(w.heap.size≤b5∧b5<w5.heap.size∧(Value.slice ra k rcap).ownBlock≠some b5)):=lh (hb5.imp id (fun h=>⟨by have:=HQk.out.size;first | omega | (have:=h.1;omega),h.2,fun e=>by have:=(HOk.out.at _ e).2;have:=h.1;omega⟩))
   clear hown5 hin5 hb5 hq5 hwd
   refine hK.out _ _ ?_ (fun hHeld=>?_)
   ·exact ⟨HC1.out _ HQ5.out,HC2.out _ HQ5.out⟩
   clear hK K
   refine tkw 12 23 ⟨rfl,qDCopyCt0⟩ ?_
   refine rdy (rdc 13 24 (fun K hK=>?_) .nil)
   go_simp
   have hqn:=Only.new w5 (.cells #[.int .i64 c.kind,.slice na c.data.length ncap] 69)
   have HCs:Hid (Cells 2 w5.heap.size (w5.heap.size+1) (w5.alloc (.cells #[.int .i64 c.kind,.slice na c.data.length ncap] 69)) (.slice (some ⟨w5.heap.size,0,none⟩) 1 1) 1 [.int .i64 c.kind,.slice na c.data.length ncap]):=lh (cells_newG rfl rfl (by simp [maxLen]) (by simp))
   have HO6:=lh (HO5.out.quiet hqn)
   have HI6:=lh (HIn5.out.quiet hqn)
   have HQ6:=lh (HQ5.out.q hqn)
   have Hb6:Hid (c.data=[]∨(w.heap.size≤b5∧b5<(w5.alloc (.cells #[.int .i64 c.kind,.slice na c.data.length ncap] 69)).heap.size∧(Value.slice ra k rcap).ownBlock≠some b5)):=lh (Hb5.out.imp id (fun h=>⟨h.1,Nat.lt_of_lt_of_le h.2.1 hqn.size,h.2.2⟩))
   clear hqn
   refine hK.out _ _ ?_ (fun hHeld=>?_)
   ·exact ⟨HC1.out _ HQ6.out,HC2.out _ HQ6.out⟩
   clear hK K
   generalize hW6:World.alloc w5 _=w6 at *
   clear hW6
   have Hby:Hid (((l.take k).length+1)*32≤140737488355328):=lh (by rw [List.length_take];have:=Hl40.out;omega)
   refine rdy (rdc 14 25 (fun K hK=>?_) .nil)
   refine wp_append_cd (.tmp 11) (.tmp 24) _ rfl ECd HO6.out rfl HCs.out Hik.out HI6.out Hb6.out rfl Hby.out HQ6.out.size (fun v1 w7 hown1 ho1=>?_)
   obtain ⟨x1,x1cap,hx1⟩:=hown1.isSlice
   rw [List.length_append,List.length_take,Nat.min_eq_left hk,List.length_singleton] at hx1
   subst hx1
   rw [← Htk.out] at hown1
   have hq7:Only [] w w7:=HQ6.out.trans ho1.only (U:=[]) (by simp) (fun x hx hl=>by have:=(HO6.out.at x (by simpa using hx)).1;omega)
   have HO7:=lh hown1
   have HQ7:=lh hq7
   clear hown1 ho1 hq7
   refine hK.out _ _ ?_ (fun hHeld=>?_)
   ·exact ⟨HC1.out _ HQ7.out,HC2.out _ HQ7.out⟩
   clear hK K
   refine tkw 15 3 ⟨rfl,qDCopyCt0⟩ ?_
   refine wpAnyH_done (by kernel_rfl) ?_ _
   have Hlt2:Hid (k+1≤l.length):=lh Hlt.out
   go_wp2_with fail
   refine ⟨?_,by simp [intOf];have:=Hlt.out;omega⟩
   exact ⟨k+1,Hlt2.out,by go_num,HO7,HQ7⟩
  ·obtain rfl:k=l.length:=by omega
   have hki:¬ (l.length:Int)<(l.length:Int):=by omega
   have HOe:=lh (show OwnCD w.heap.size wr (.slice ra l.length rcap) l by have:=HOk.out;rw [List.take_length] at this;exact this)
   go_wp2_with fail
   exact HPost.out _ _ ⟨⟨ra,rcap,rfl,HOe.out.codeds⟩,HQk.out⟩
theorem ksizes_any {lo hi:Nat} {v:Value} {l:List Coded} {w:World} (h:CodedsAt lo hi w v l) (hl:l.length≤1000000) (hd:∀ i,i<l.length→(l.getD i default).data.length≤1000000000000000) :
  Calls Tryz.prog 22 #[v] w fun e w'=>∃ v',e=.returned v'∧Own .i64 3 w.heap.size w' v' (sizesOf l)∧Only [] w w':=by
 obtain ⟨a,cap,hv,hcap,hmax,hel⟩:=h.open
 subst hv
 have Hel:=lh hel
 have Hl:=lh hl
 have Hd:=lh hd
 have hll:(l.length:Int)≤9223372036854775807:=by omega
 clear h hel hmax hcap hl hd
 go_enter Tryz.func22,Tryz.ntmps22
 go_wp2
 go_loopw [4,3] (fun i y wr=>∃ k:Nat,k≤l.length∧i=.int .i64 k∧Own .i64 3 w.heap.size wr y (sizesOf (l.take k))∧From w.heap.size y∧Only [] w wr) (fun i _ _=>l.length-(intOf i).toNat)
 case atStart=>exact ⟨0,by omega,rfl,Own.nil _ _ _ _,From.nil _,Only.refl _ _⟩
 case round =>
  obtain ⟨k,hk,rfl,hown,hfrom,hq⟩:=hrel
  by_cases hlt:k<l.length
  ·obtain ⟨b,off,dv,rfl,_,_,hc1,hc2,_,hd⟩:=Hel.out k hlt
   have c2:=hq.cell hc2 (by simp)
   obtain ⟨da,dcap,rfl,_⟩:=hd.open
   have hdl:=Hd.out k hlt
   have hs:=getD_map_take hlt
   have hlen:(sizesOf (l.take k)).length=k:=by simp [sizesOf];omega
   clear hc1 hc2 hd
   have Hs:=lh hs
   clear hs
   generalize sizesOf (l.take k)=S0 at *
   generalize l.getD k default=x at *
   have Hlen:=lh hlen
   have hx:(0:Int)≤(k:Int):=by omega
   have hx1:(k:Int)<(l.length:Int):=by omega
   have hw8:(8:Int)+(x.data.length:Int)=(x.data.length:Int)+8:=by omega
   have Hw8:=lh hw8
   clear hlen hw8
   go_wp2_with (first | (at_builtin;refine wpList_append_ints rfl (.tmp 11) (.tmp 19) _ rfl EI (hown.quiet (Only.new _ _)) rfl (ints_newG (l:=[(8:Int)+(x.data.length:Int)]) rfl (by simp [maxLen]) ?c0 1 rfl rfl) rfl ?c1 ?c2 (fun v1 w1 hown1 ho1=>?_)) | fail)
   case c0=>simp only [List.mem_cons,List.not_mem_nil,or_false,forall_eq,InK];omega
   case c1=>have:=Hlen.out;have:=Hl.out;simp;omega
   case c2=>have:=hq.size;simp at this ⊢;omega
   have hq2:=hq.q (Only.new _ (.cells #[.int .i64 ((8:Int)+(x.data.length:Int))] 3))
   rw [Hw8.out] at hown1
   go_wp2_with fail
   go_roundw
   case rel=>exact ⟨k+1,by omega,by go_num,by rw [Hs.out];exact hown1,ho1.from_ hfrom hq2.size,hq2.acc ho1 hfrom⟩
   case measure=>simp [intOf];omega
  ·obtain rfl:k=l.length:=by omega
   go_wp2
   go_ret
   exact ⟨_,rfl,by simpa using hown,hq⟩
end Go.Proofs.YtkigikallkpbcaaGreatDoor
