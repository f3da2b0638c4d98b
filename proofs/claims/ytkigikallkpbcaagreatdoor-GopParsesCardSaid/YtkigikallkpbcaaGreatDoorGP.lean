/- Joined texts: ReadK, Cfg. Conditions: each part names its own. -/
import Derived.Test.YtkigikallkpbcaaGreatDoorG1
import Derived.Test.YtkigikallkpbcaaGreatDoorC1
namespace Go.Proofs.YtkigikallkpbcaaGreatDoor
open Go.RowKit
set_option linter.unusedVariables false
set_option linter.unusedSimpArgs false
set_option maxRecDepth 100000
set_option maxHeartbeats 16000000
theorem qReadK0 {p:Prop} (h:p:=by
 go_enter Tryz.func46,Tryz.ntmps46
 go_wp2_with (go_at_call 40;refine (fail_eq _ _).mono ?_;rintro e w' ⟨rfl,rfl⟩)
 exact bodyPost_ret (v:=.tuple #[.agg #[.int .i64 0,.int .i64 0,.slice none 0 0],.agg #[.int .i64 13,.slice none 0 0]]) (by simp [results,Tryz.results46,go_sem]) rfl (HeadK.err Hr.out ((HQ.out _ _ _).alloc _) rfl)):p:=h
theorem kread_any {lo hi:Nat} {k:Int} {dv:Value} {l:List Int} {w:World} (h:Ints .u8 lo hi w dv l) (hlen:l.length≤140737488355328) :
  Calls Tryz.prog 46 #[.agg #[.int .i64 k,dv]] w (HeadK w ⟨k,l⟩):=by
 obtain ⟨a,cap,rfl,hcap,hmax,hat,hcell⟩:=h.open
 have hcm:(cap:Int)≤9223372036854775807:=by unfold maxLen at hmax;omega
 have HQ:=lh (fun o o' o''=>(((Only.new w o).q (Only.new _ o')).q (Only.new _ o'')))
 have Hh:=lh h
 have Hat:=lh hat
 have Hcell:=lh hcell
 clear h hat hcell hmax
 by_cases hk1:k<1
 ·have Hr:=lh (readB_13 (l:=l) (.inl hk1))
  exact qReadK0
 by_cases hk4:4<k
 ·have Hr:=lh (readB_13 (l:=l) (.inr hk4))
  exact qReadK0
 have hkB:=kindB_of hk1 hk4
 by_cases hk2:2<k
 ·have hbB:=bareB_of hk4 hk2
  by_cases h0:0<l.length
  ·have Hr:Hid (readB ⟨k,l⟩=some 2):=lh (by simp [readB,hkB,hbB,h0])
   clear hkB hbB
   go_enter Tryz.func46,Tryz.ntmps46
   go_wp2_with (go_at_call 40;refine (fail_eq _ _).mono ?_;rintro e w' ⟨rfl,rfl⟩)
   exact bodyPost_ret (v:=.tuple #[.agg #[.int .i64 0,.int .i64 0,.slice none 0 0],.agg #[.int .i64 2,.slice none 0 0]]) (by simp [results,Tryz.results46,go_sem]) rfl (HeadK.err Hr.out ((HQ.out _ _ _).alloc _) rfl)
  ·have hz:l=[]:=List.eq_nil_of_length_eq_zero (by omega)
   have Hr:Hid (readB ⟨k,l⟩=none):=lh (by simp [readB,hkB,hbB,hz])
   have Hz:=lh hz
   clear hkB hbB hz
   go_enter Tryz.func46,Tryz.ntmps46
   go_wp2_with fail
   refine bodyPost_ret (v:=.tuple #[.agg #[.int .i64 k,.int .i64 0,.slice none 0 0],.agg #[.int .i64 0,.slice none 0 0]]) (by simp [results,Tryz.results46,go_sem]) rfl ?_
   unfold HeadK
   rw [Hr.out,Hz.out]
   exact ⟨HQ.out _ _ _,_,rfl,Ints.nil _ _ _ _⟩
 ·have hbB:=bareB_no hk2
  by_cases h0:l.length=0
  ·have hz:l=[]:=List.eq_nil_of_length_eq_zero h0
   have h0i:((l.length:Nat):Int)=0:=by omega
   have Hr:Hid (readB ⟨k,l⟩=some 1):=lh (by simp [readB,hkB,hbB,hz])
   clear hkB hbB hz h0
   go_enter Tryz.func46,Tryz.ntmps46
   go_wp2_with (go_at_call 40;refine (fail_eq _ _).mono ?_;rintro e w' ⟨rfl,rfl⟩)
   exact bodyPost_ret (v:=.tuple #[.agg #[.int .i64 0,.int .i64 0,.slice none 0 0],.agg #[.int .i64 1,.slice none 0 0]]) (by simp [results,Tryz.results46,go_sem]) rfl (HeadK.err Hr.out ((HQ.out _ _ _).alloc _) rfl)
  ·have hpos:0<l.length:=by omega
   have h0b:(((l.length:Nat):Int) == 0)=false:=by rw [beq_eq_false_iff_ne];omega
   have hpi:(0:Int)<(l.length:Int):=by omega
   obtain ⟨b,off,rfl,_,_⟩:=Hat.out 0 hpos
   have c0:=Hcell.out b off rfl 0 hpos
   rw [Nat.add_zero] at c0
   have hx:=Hh.out.range hpos
   unfold InK at hx
   have Hr3:=lh (readB_3 hkB hbB hpos)
   have Hr5:=lh (readB_5 hkB hbB hpos)
   have Hr0:=lh (readB_0 hkB hbB hpos)
   obtain ⟨a1,hsl,hI1⟩:=slice_from Hh.out hcap (i:=1) hpos (z:=1) rfl
   have HI1:=lh hI1
   have hl1:(l.drop 1).length=l.length-1:=by simp
   have Hl1:=lh hl1
   clear hkB hbB h0 hI1 hl1
   generalize hq:l.getD 0 0=q at *
   have Hq:=lh hq
   clear hq
   have c1:∀ o o' o'',(((w.alloc o).alloc o').alloc o'').cell? ⟨b,off,none⟩=some (.int .u8 q):=fun o o' o''=>(HQ.out o o' o'').cell c0 (by simp)
   by_cases h15:15<q
   ·have Hr:=lh (Hr3.out h15)
    go_enter Tryz.func46,Tryz.ntmps46
    go_wp2_with (go_at_call 40;refine (fail_eq _ _).mono ?_;rintro e w' ⟨rfl,rfl⟩)
    exact bodyPost_ret (v:=.tuple #[.agg #[.int .i64 0,.int .i64 0,.slice none 0 0],.agg #[.int .i64 3,.slice none 0 0]]) (by simp [results,Tryz.results46,go_sem]) rfl (HeadK.err Hr.out ((HQ.out _ _ _).alloc _) rfl)
   ·by_cases h5:65536<l.length
    ·have Hr:=lh (Hr5.out h15 h5)
     go_enter Tryz.func46,Tryz.ntmps46
     go_wp2_with (go_at_call 40;refine (fail_eq _ _).mono ?_;rintro e w' ⟨rfl,rfl⟩)
     exact bodyPost_ret (v:=.tuple #[.agg #[.int .i64 0,.int .i64 0,.slice none 0 0],.agg #[.int .i64 5,.slice none 0 0]]) (by simp [results,Tryz.results46,go_sem]) rfl (HeadK.err Hr.out ((HQ.out _ _ _).alloc _) rfl)
    ·exact kread_good Hh.out hcap hcm hlen hk1 hk4 hk2 hpos Hq.out h15 h5 (Hr0.out h15 h5)
theorem begins_any (k:Int) (w:World):Calls Tryz.prog 45 #[.int .i64 k] w fun e w'=>e=.returned (.bool (firstB k))∧w=w':=by
 by_cases h1:k=1
 ·subst h1
  go_enter Tryz.func45,Tryz.ntmps45
  go_wp2
  all_goals
   go_ret
   exact ⟨ret_bool (by simp [firstB]),rfl⟩
 ·have h1b:(k == 1)=false:=by simpa using h1
  have H1:=lh h1
  clear h1
  go_enter Tryz.func45,Tryz.ntmps45
  go_wp2
  all_goals
   go_ret
   refine ⟨ret_bool ?_,rfl⟩
   have:=H1.out
   unfold firstB
   rw [Bool.eq_iff_iff]
   simp [this]
end Go.Proofs.YtkigikallkpbcaaGreatDoor
