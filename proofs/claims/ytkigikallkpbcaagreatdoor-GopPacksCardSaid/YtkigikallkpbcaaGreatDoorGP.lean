/- Joined texts: Num, Plain, ReadK, Cfg. Conditions: each part names its own. -/
import Derived.Test.YtkigikallkpbcaaGreatDoorC4
import Derived.Test.YtkigikallkpbcaaGreatDoorC1
import Derived.Test.YtkigikallkpbcaaGreatDoorG1
namespace Go.Proofs.YtkigikallkpbcaaGreatDoor
open Go.RowKit
set_option linter.unusedVariables false
set_option linter.unusedSimpArgs false
set_option maxRecDepth 100000
set_option maxHeartbeats 16000000
theorem num_set (v:Int) (j k:Nat):(List.replicate (j+1) (0:Int) ++ be v k).set j (v / 2 ^ (8*k) % 256)=List.replicate j 0 ++ be v (k+1):=by
 rw [List.replicate_succ',List.append_assoc,List.set_append_right _ _ (by simp)]
 simp [be]
theorem shift_more (v:Int) (k:Nat):v / 2 ^ (8*k) / 256=v / 2 ^ (8*(k+1)):=by
 have h0:(0:Int)≤2 ^ (8*k):=Int.le_of_lt (Int.pow_pos (by decide))
 rw [Int.ediv_ediv_of_nonneg h0,show 8*(k+1)=8*k+8 by omega,Int.pow_add]
 rfl
theorem number_any (v:Int) (n:Nat) (w:World) (h1:1≤n) (h7:n≤7) :
  Calls Tryz.prog 91 #[.int .i64 v,.int .i64 n] w fun e w'=>e=.returned (.slice (some ⟨w.heap.size,0,none⟩) n n)∧Own .u8 5 w.heap.size w' (.slice (some ⟨w.heap.size,0,none⟩) n n) (be v n)∧Only [] w w':=by
 have hmk:=run_make_row' (P:=Tryz.prog) 30 5 (.int .u8 0) 1 E8.ut (by kernel_rfl) rfl .i64 .i64 n (by omega) (by omega)
 have hO:=Own.lower (own_made .u8 5 w n (by simp [maxLen];omega)) (Nat.le_refl _)
 have hOn:=Only.new w (.cells (madeCells #[.int .u8 0] n) 5)
 have HO:=lh hO
 have HOn:=lh hOn
 clear hO hOn
 go_enter Tryz.func91,Tryz.ntmps91
 go_wp2_with fail
 clear hmk
 generalize w.alloc (.cells (madeCells #[.int .u8 0] n) 5)=W1 at *
 go_loopw [6,0] (fun i x wr=>∃ (j k:Nat),j+k=n∧i=.int .i64 ((j:Int)-1)∧x=.int .i64 (v / 2 ^ (8*k))∧Own .u8 5 w.heap.size wr (.slice (some ⟨w.heap.size,0,none⟩) n n) (List.replicate j 0 ++ be v k)∧Only [w.heap.size] W1 wr) (fun i _ _=>(intOf i+1).toNat)
 case atStart=>exact ⟨n,0,rfl,rfl,by simp,by simpa [be] using HO.out,Only.refl _ _⟩
 case round =>
  obtain ⟨j,k,hjk,rfl,rfl,ho,hq⟩:=hrel
  have hlen:(List.replicate j (0:Int) ++ be v k).length=n:=by simp [be_length];omega
  cases j with
  | zero =>
   have hx:¬ (0:Int)≤((0:Nat):Int)-1:=by omega
   obtain rfl:k=n:=by omega
   go_wp2_with fail
   go_ret
   exact ⟨rfl,by simpa using ho,HOn.out.trans hq (by simp) (by simp)⟩
  | succ j =>
   have hj0:(0:Int)≤(j:Int):=by omega
   have hjn:(j:Int)<(n:Int):=by omega
   have hlt:j<(List.replicate (j+1) (0:Int) ++ be v k).length:=by omega
   have hc:=ho.cellS hlen.symm hlt
   have hf:=ho.frzS hlen.symm j
   have hin:InK .u8 (v / 2 ^ (8*k) % 256):=by unfold InK;omega
   obtain ⟨hs1,hs2⟩:=ho.storeS hlen.symm hin j
   rw [num_set] at hs1
   have Hs1:=lh hs1
   have Hs2:=lh hs2
   have Hm:=lh (shift_more v k)
   have hj2:((j+1:Nat):Int)-1=(j:Int):=by omega
   have Hj2:=lh hj2
   have hw:IntKind.u8.wrap (v / 2 ^ (8*k))=v / 2 ^ (8*k) % 256:=by simp [IntKind.wrap,IntKind.bits,IntKind.signed]
   clear hs1 hs2 ho hlen hj2
   generalize v / 2 ^ (8*k)=y at *
   go_wp2_with fail
   go_roundw
   case rel=>exact ⟨j,k+1,by omega,by first | rfl | go_num,by rw [← Hm.out],Hs1.out,hq.trans Hs2.out (by simp) (by simp)⟩
   case measure=>first | (simp [intOf];done) | (simp [intOf];omega)
theorem number3_any (v:Int) (w:World) :
  Calls Tryz.prog 91 #[.int .i64 v,.int .i64 3] w fun e w'=>e=.returned (.slice (some ⟨w.heap.size,0,none⟩) 3 3)∧Own .u8 5 w.heap.size w' (.slice (some ⟨w.heap.size,0,none⟩) 3 3) (be v 3)∧Only [] w w':=number_any v 3 w (by omega) (by omega)
theorem number4_any (v:Int) (w:World) :
  Calls Tryz.prog 91 #[.int .i64 v,.int .i64 4] w fun e w'=>e=.returned (.slice (some ⟨w.heap.size,0,none⟩) 4 4)∧Own .u8 5 w.heap.size w' (.slice (some ⟨w.heap.size,0,none⟩) 4 4) (be v 4)∧Only [] w w':=number_any v 4 w (by omega) (by omega)
theorem be3_len {n:Nat} (h:n≤65536):be n 3=[(n:Int) / 65536,(n:Int) / 256 % 256,(n:Int) % 256]:=by
 have e:be n 3=[(n:Int) / 65536 % 256,(n:Int) / 256 % 256,(n:Int) / 1 % 256]:=rfl
 rw [e]
 simp only [List.cons.injEq,and_true,Int.ediv_one]
 omega
theorem plain1_any (n a b:Int) (s:Option Addr) (m cap:Nat) (w:World) :
  Calls Tryz.prog 14 #[.agg #[.int .i64 n,.int .i64 a,.int .i64 b,.slice s m cap]] w fun e w'=>e=.returned (.agg #[.int .i64 n,.int .i64 a,.int .i64 b,.slice s m cap])∧Only [] w w':=by
 go_enter Tryz.func14,Tryz.ntmps14
 go_wp2
 exact bodyPost_ret (v:=.agg #[.int .i64 n,.int .i64 a,.int .i64 b,.slice s m cap]) (by simp [results,Tryz.results14,go_sem]) rfl ⟨rfl,(Only.new _ _).q (Only.new _ _)⟩
theorem qReadK0 {p:Prop} (h:p:=by
 go_enter Tryz.func46,Tryz.ntmps46
 go_wp2_with (go_at_call 40;refine (fail_eq _ _).mono ?_;rintro e w' ⟨rfl,rfl⟩)
 exact bodyPost_ret (v:=.tuple #[.agg #[.int .i64 0,.int .i64 0,.slice none 0 0],.agg #[.int .i64 13,.slice none 0 0]]) (by simp [results,Tryz.results46,go_sem]) rfl (HeadK.err Hr.out ((HQ.out _ _ _).alloc _) rfl)):p:=h
theorem kread_any {lo hi:Nat} {k:Int} {dv:Value} {l:List Int} {w:World} (h:Ints .u8 lo hi w dv l) (hlen:l.length≤140737488355328) :
  Calls Tryz.prog 46 #[.agg #[.int .i64 k,dv]] w (HeadK w ⟨k,l⟩):=by
 obtain ⟨a,cap,rfl,hcap,hmax,hat,hcell⟩:=h.open
 have hcm:(cap:Int)≤9223372036854775807:=by unfold maxLen at hmax;omega
 have HQ:=lh (fun o o' o''=>(((Only.new w o).q (Only.new _ o')).q (Only.new _ o'')))
 have Hh:=lh h
 have Hat:=lh hat
 have Hcell:=lh hcell
 clear h hat hcell hmax
 by_cases hk1:k<1
 ·have Hr:=lh (readB_13 (l:=l) (.inl hk1))
  exact qReadK0
 by_cases hk4:4<k
 ·have Hr:=lh (readB_13 (l:=l) (.inr hk4))
  exact qReadK0
 have hkB:=kindB_of hk1 hk4
 by_cases hk2:2<k
 ·have hbB:=bareB_of hk4 hk2
  by_cases h0:0<l.length
  ·have Hr:Hid (readB ⟨k,l⟩=some 2):=lh (by simp [readB,hkB,hbB,h0])
   clear hkB hbB
   go_enter Tryz.func46,Tryz.ntmps46
   go_wp2_with (go_at_call 40;refine (fail_eq _ _).mono ?_;rintro e w' ⟨rfl,rfl⟩)
   exact bodyPost_ret (v:=.tuple #[.agg #[.int .i64 0,.int .i64 0,.slice none 0 0],.agg #[.int .i64 2,.slice none 0 0]]) (by simp [results,Tryz.results46,go_sem]) rfl (HeadK.err Hr.out ((HQ.out _ _ _).alloc _) rfl)
  ·have hz:l=[]:=List.eq_nil_of_length_eq_zero (by omega)
   have Hr:Hid (readB ⟨k,l⟩=none):=lh (by simp [readB,hkB,hbB,hz])
   have Hz:=lh hz
   clear hkB hbB hz
   go_enter Tryz.func46,Tryz.ntmps46
   go_wp2_with fail
   refine bodyPost_ret (v:=.tuple #[.agg #[.int .i64 k,.int .i64 0,.slice none 0 0],.agg #[.int .i64 0,.slice none 0 0]]) (by simp [results,Tryz.results46,go_sem]) rfl ?_
   unfold HeadK
   rw [Hr.out,Hz.out]
   exact ⟨HQ.out _ _ _,_,rfl,Ints.nil _ _ _ _⟩
 ·have hbB:=bareB_no hk2
  by_cases h0:l.length=0
  ·have hz:l=[]:=List.eq_nil_of_length_eq_zero h0
   have h0i:((l.length:Nat):Int)=0:=by omega
   have Hr:Hid (readB ⟨k,l⟩=some 1):=lh (by simp [readB,hkB,hbB,hz])
   clear hkB hbB hz h0
   go_enter Tryz.func46,Tryz.ntmps46
   go_wp2_with (go_at_call 40;refine (fail_eq _ _).mono ?_;rintro e w' ⟨rfl,rfl⟩)
   exact bodyPost_ret (v:=.tuple #[.agg #[.int .i64 0,.int .i64 0,.slice none 0 0],.agg #[.int .i64 1,.slice none 0 0]]) (by simp [results,Tryz.results46,go_sem]) rfl (HeadK.err Hr.out ((HQ.out _ _ _).alloc _) rfl)
  ·have hpos:0<l.length:=by omega
   have h0b:(((l.length:Nat):Int) == 0)=false:=by rw [beq_eq_false_iff_ne];omega
   have hpi:(0:Int)<(l.length:Int):=by omega
   obtain ⟨b,off,rfl,_,_⟩:=Hat.out 0 hpos
   have c0:=Hcell.out b off rfl 0 hpos
   rw [Nat.add_zero] at c0
   have hx:=Hh.out.range hpos
   unfold InK at hx
   have Hr3:=lh (readB_3 hkB hbB hpos)
   have Hr5:=lh (readB_5 hkB hbB hpos)
   have Hr0:=lh (readB_0 hkB hbB hpos)
   obtain ⟨a1,hsl,hI1⟩:=slice_from Hh.out hcap (i:=1) hpos (z:=1) rfl
   have HI1:=lh hI1
   have hl1:(l.drop 1).length=l.length-1:=by simp
   have Hl1:=lh hl1
   clear hkB hbB h0 hI1 hl1
   generalize hq:l.getD 0 0=q at *
   have Hq:=lh hq
   clear hq
   have c1:∀ o o' o'',(((w.alloc o).alloc o').alloc o'').cell? ⟨b,off,none⟩=some (.int .u8 q):=fun o o' o''=>(HQ.out o o' o'').cell c0 (by simp)
   by_cases h15:15<q
   ·have Hr:=lh (Hr3.out h15)
    go_enter Tryz.func46,Tryz.ntmps46
    go_wp2_with (go_at_call 40;refine (fail_eq _ _).mono ?_;rintro e w' ⟨rfl,rfl⟩)
    exact bodyPost_ret (v:=.tuple #[.agg #[.int .i64 0,.int .i64 0,.slice none 0 0],.agg #[.int .i64 3,.slice none 0 0]]) (by simp [results,Tryz.results46,go_sem]) rfl (HeadK.err Hr.out ((HQ.out _ _ _).alloc _) rfl)
   ·by_cases h5:65536<l.length
    ·have Hr:=lh (Hr5.out h15 h5)
     go_enter Tryz.func46,Tryz.ntmps46
     go_wp2_with (go_at_call 40;refine (fail_eq _ _).mono ?_;rintro e w' ⟨rfl,rfl⟩)
     exact bodyPost_ret (v:=.tuple #[.agg #[.int .i64 0,.int .i64 0,.slice none 0 0],.agg #[.int .i64 5,.slice none 0 0]]) (by simp [results,Tryz.results46,go_sem]) rfl (HeadK.err Hr.out ((HQ.out _ _ _).alloc _) rfl)
    ·exact kread_good Hh.out hcap hcm hlen hk1 hk4 hk2 hpos Hq.out h15 h5 (Hr0.out h15 h5)
def numB (n:Int):Bool:=decide (0≤n∧n≤15)
theorem number15_any (n:Int) (w:World):Calls Tryz.prog 44 #[.int .i64 n] w fun e w'=>e=.returned (.bool (numB n))∧w=w':=by
 go_enter Tryz.func44,Tryz.ntmps44
 go_wp2
 all_goals
  go_ret
  refine ⟨ret_bool ?_,rfl⟩
  unfold numB
  rw [Bool.eq_iff_iff]
  simp
  try omega
theorem begins_any (k:Int) (w:World):Calls Tryz.prog 45 #[.int .i64 k] w fun e w'=>e=.returned (.bool (firstB k))∧w=w':=by
 by_cases h1:k=1
 ·subst h1
  go_enter Tryz.func45,Tryz.ntmps45
  go_wp2
  all_goals
   go_ret
   exact ⟨ret_bool (by simp [firstB]),rfl⟩
 ·have h1b:(k == 1)=false:=by simpa using h1
  have H1:=lh h1
  clear h1
  go_enter Tryz.func45,Tryz.ntmps45
  go_wp2
  all_goals
   go_ret
   refine ⟨ret_bool ?_,rfl⟩
   have:=H1.out
   unfold firstB
   rw [Bool.eq_iff_iff]
   simp [this]
end Go.Proofs.YtkigikallkpbcaaGreatDoor
