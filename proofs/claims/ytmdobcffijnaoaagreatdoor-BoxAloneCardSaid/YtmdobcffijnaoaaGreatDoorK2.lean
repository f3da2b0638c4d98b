/- Joined texts: DForm, DCont, DMay, DWhtC, DClone, DBits. Conditions: each part names its own. -/
import Derived.Test.YtmdobcffijnaoaaGreatDoorC4
import Derived.Test.YtmdobcffijnaoaaGreatDoorC3
import Derived.Test.YtmdobcffijnaoaaGreatDoorC1
import Derived.Test.YtmdobcffijnaoaaGreatDoorK1
import Derived.Laws.Bits64b
/- The form of an own slice of integers. Conditions: none. -/
set_option maxRecDepth 100000
set_option maxHeartbeats 16000000
namespace Go.Proofs.YtmdobcffijnaoaaGreatDoor
open Go.RowKit
theorem Own.form {k:IntKind} {e:TypeId} {base:Nat} {w:World} {v:Value} {l:List Int} (h:Own k e base w v l) (hl:0<l.length):∃ g cap,v=.slice (some ⟨g,0,none⟩) l.length cap∧base≤g∧g<w.heap.size:=by
 rcases h.1.2 with ⟨_,h0⟩ | ⟨g,cap,cur,rfl,hb,hg,_⟩
 ·omega
 ·exact ⟨g,cap,rfl,hb,(Array.getElem?_eq_some_iff.1 hg).1⟩
end Go.Proofs.YtmdobcffijnaoaaGreatDoor
namespace Go.Proofs.YtmdobcffijnaoaaGreatDoor
open Go.RowKit
set_option linter.unusedVariables false
set_option linter.unusedSimpArgs false
theorem anyI_drop {f:Int→Bool} {l:List Int} {k:Nat} (h:k<l.length):(l.drop k).any f=(f (l.getD k 0) || (l.drop (k+1)).any f):=by
 rw [List.drop_eq_getElem_cons h,List.any_cons]
 congr 2
 simp [h]
def nsamB (x:Int):Bool:=!sampleB x
theorem samples1_any (x:Int) (w:World):Calls Tryz.prog 174 #[.int .i64 x] w fun e w'=>e=.returned (.bool (nsamB x))∧w=w':=by
 go_enter Tryz.func174,Tryz.ntmps174
 go_wp2_with (first | (go_at_call 56;refine (sample_any _ _).mono ?_;rintro e w1 ⟨rfl,rfl⟩) | fail)
 go_ret
 exact ⟨rfl,rfl⟩
theorem qDCont0 {p:Prop} (h:p:=by
 obtain rfl:k=l.length:=by omega
 have hx:¬ (l.length:Int)<(l.length:Int):=by omega
 have Hz:Hid (l.any g=false):=lh (by rw [← Hk.out,List.drop_length];rfl)
 go_wp2_with fail
 go_ret
 refine ⟨⟨-1,rfl,?_,by omega,by omega⟩,hq⟩
 first | rw [Hz.out] | rw [← List.any_eq_true,Hz.out]
 simp):p:=h
theorem qDCont1 {p:Prop} (h:p:=by
 refine (HF.out _ _).mono ?_
 rintro e w2 ⟨rfl,rfl⟩
 rw [Hx.out]
 have hfin:Hid ((l.drop (k+1)).any g=l.any g):=lh (by rw [← Hk.out,Hdrop.out,Hx.out];rfl)
 go_wp2_with fail
 exact ⟨⟨k+1,by omega,by go_num,hfin,hq⟩,by simp [intOf];omega⟩):p:=h
theorem qDCont3 {p:Prop} (h:p:=by
 refine (HF.out _ _).mono ?_
 rintro e w2 ⟨rfl,rfl⟩
 rw [Hx.out]
 go_wp2_with fail
 go_ret
 refine ⟨⟨k,rfl,?_,by omega,by have:=Hl.out;omega⟩,hq⟩
 rw [← Hk.out,Hdrop.out,Hx.out]
 simp):p:=h
theorem indexS_any {lo hi:Nat} {v:Value} {l:List Int} {w:World} (h:Ints .i64 lo hi w v l) (hl:l.length≤1000000000) :
  Calls Tryz.prog 205 #[v,.func (.func 174) #[] #[]] w fun e w'=>(∃ i:Int,e=.returned (.int .i64 i)∧(0≤i↔l.any nsamB=true)∧-1≤i∧i≤1000000000)∧Only [] w w':=by
 obtain ⟨a,cap,rfl,hcap,hmax,hat,hcell⟩:=h.open
 have Hat:=lh hat
 have Hcell:=lh hcell
 have HF:=lh (fun (x:Int) (wx:World)=>samples1_any x wx)
 have Hl:=lh hl
 have hll:(l.length:Int)≤9223372036854775807:=by omega
 clear h hat hcell hmax hcap hl
 generalize hg:nsamB=g at *
 clear hg
 go_enter Tryz.func205,Tryz.ntmps205
 go_wp2_with fail
 go_loopw [8] (fun i wr=>∃ k:Nat,k≤l.length∧i=.int .i64 k∧Hid ((l.drop k).any g=l.any g)∧Only [] w wr) (fun i _=>l.length-(intOf i).toNat)
 case atStart=>exact ⟨0,by omega,rfl,lh rfl,Only.refl _ _⟩
 case round =>
  obtain ⟨k,hk,rfl,Hk,hq⟩:=hrel
  by_cases hlt:k<l.length
  ·obtain ⟨b,off,rfl,_,_⟩:=Hat.out k hlt
   have c0:=hq.cell (Hcell.out b off rfl k hlt) (by simp)
   have hx:(0:Int)≤(k:Int):=by omega
   have hx1:(k:Int)<(l.length:Int):=by omega
   have Hdrop:=lh (anyI_drop (f:=g) hlt)
   generalize l.getD k 0=x at *
   cases hxx:g x with
   | true =>
    have Hx:=lh hxx
    clear hxx
    go_wp2_with fail
    go_at_call 174
    exact qDCont3
   | false =>
    have Hx:=lh hxx
    clear hxx
    go_wp2_with fail
    go_at_call 174
    exact qDCont1
  ·exact qDCont0
theorem qDCont2 {p:Prop} (h:p:=by
 go_enter Tryz.func173,Tryz.ntmps173
 go_wp2_with (first | (go_at_call 205;refine H.out.mono ?_;rintro e w1 ⟨⟨i,rfl,hi1,hi2,hi3⟩,hq1⟩) | fail)
 go_ret
 exact ⟨ret_bool (by rw [Bool.eq_iff_iff,← hi1];try simp),hq1⟩):p:=h
theorem containsS_any {lo hi:Nat} {v:Value} {l:List Int} {w:World} (h:Ints .i64 lo hi w v l) (hl:l.length≤1000000000) :
  Calls Tryz.prog 173 #[v,.func (.func 174) #[] #[]] w fun e w'=>e=.returned (.bool (l.any nsamB))∧Only [] w w':=by
 have H:=lh (indexS_any h hl)
 clear h hl
 generalize l.any nsamB=B at *
 exact qDCont2
def levB (l:List Int):Bool:=l.all fun x=>decide (-16320≤x∧x≤16320)
def levErr (x:Int):Bool:=decide (x < -16320) || decide (16320<x)
theorem check1L_any (x:Int) (w:World):Calls Tryz.prog 206 #[.int .i64 x] w fun e w'=>e=.returned (.bool (levErr x))∧w=w':=by
 by_cases h:x < -16320
 ·have hb:levErr x=true:=by simp [levErr,h]
  rw [hb]
  go_enter Tryz.func206,Tryz.ntmps206
  go_wp2
  go_ret
  exact ⟨rfl,rfl⟩
 ·have hb:levErr x=decide (16320<x):=by simp [levErr,h]
  rw [hb]
  go_enter Tryz.func206,Tryz.ntmps206
  go_wp2
  go_ret
  exact ⟨rfl,rfl⟩
theorem indexL_any {lo hi:Nat} {v:Value} {l:List Int} {w:World} (h:Ints .i64 lo hi w v l) (hl:l.length≤1000000000) :
  Calls Tryz.prog 205 #[v,.func (.func 206) #[] #[]] w fun e w'=>(∃ i:Int,e=.returned (.int .i64 i)∧(0≤i↔l.any levErr=true)∧-1≤i∧i≤1000000000)∧Only [] w w':=by
 obtain ⟨a,cap,rfl,hcap,hmax,hat,hcell⟩:=h.open
 have Hat:=lh hat
 have Hcell:=lh hcell
 have HF:=lh (fun (x:Int) (wx:World)=>check1L_any x wx)
 have Hl:=lh hl
 have hll:(l.length:Int)≤9223372036854775807:=by omega
 clear h hat hcell hmax hcap hl
 generalize hg:levErr=g at *
 clear hg
 go_enter Tryz.func205,Tryz.ntmps205
 go_wp2_with fail
 go_loopw [8] (fun i wr=>∃ k:Nat,k≤l.length∧i=.int .i64 k∧Hid ((l.drop k).any g=l.any g)∧Only [] w wr) (fun i _=>l.length-(intOf i).toNat)
 case atStart=>exact ⟨0,by omega,rfl,lh rfl,Only.refl _ _⟩
 case round =>
  obtain ⟨k,hk,rfl,Hk,hq⟩:=hrel
  by_cases hlt:k<l.length
  ·obtain ⟨b,off,rfl,_,_⟩:=Hat.out k hlt
   have c0:=hq.cell (Hcell.out b off rfl k hlt) (by simp)
   have hx:(0:Int)≤(k:Int):=by omega
   have hx1:(k:Int)<(l.length:Int):=by omega
   have Hdrop:=lh (anyI_drop (f:=g) hlt)
   generalize l.getD k 0=x at *
   cases hxx:g x with
   | true =>
    have Hx:=lh hxx
    clear hxx
    go_wp2_with fail
    go_at_call 206
    exact qDCont3
   | false =>
    have Hx:=lh hxx
    clear hxx
    go_wp2_with fail
    go_at_call 206
    exact qDCont1
  ·exact qDCont0
theorem containsL_any {lo hi:Nat} {v:Value} {l:List Int} {w:World} (h:Ints .i64 lo hi w v l) (hl:l.length≤1000000000) :
  Calls Tryz.prog 173 #[v,.func (.func 206) #[] #[]] w fun e w'=>e=.returned (.bool (l.any levErr))∧Only [] w w':=by
 have H:=lh (indexL_any h hl)
 clear h hl
 generalize l.any levErr=B at *
 exact qDCont2
def nzB (x:Int):Bool:=x != 0
theorem zero1_any (x:Int) (w:World):Calls Tryz.prog 207 #[.int .i64 x] w fun e w'=>e=.returned (.bool (nzB x))∧w=w':=by
 go_enter Tryz.func207,Tryz.ntmps207
 go_wp2
 go_ret
 exact ⟨rfl,rfl⟩
theorem indexZ_any {lo hi:Nat} {v:Value} {l:List Int} {w:World} (h:Ints .i64 lo hi w v l) (hl:l.length≤1000000000) :
  Calls Tryz.prog 205 #[v,.func (.func 207) #[] #[]] w fun e w'=>(∃ i:Int,e=.returned (.int .i64 i)∧(0≤i↔l.any nzB=true)∧-1≤i∧i≤1000000000)∧Only [] w w':=by
 obtain ⟨a,cap,rfl,hcap,hmax,hat,hcell⟩:=h.open
 have Hat:=lh hat
 have Hcell:=lh hcell
 have HF:=lh (fun (x:Int) (wx:World)=>zero1_any x wx)
 have Hl:=lh hl
 have hll:(l.length:Int)≤9223372036854775807:=by omega
 clear h hat hcell hmax hcap hl
 generalize hg:nzB=g at *
 clear hg
 go_enter Tryz.func205,Tryz.ntmps205
 go_wp2_with fail
 go_loopw [8] (fun i wr=>∃ k:Nat,k≤l.length∧i=.int .i64 k∧Hid ((l.drop k).any g=l.any g)∧Only [] w wr) (fun i _=>l.length-(intOf i).toNat)
 case atStart=>exact ⟨0,by omega,rfl,lh rfl,Only.refl _ _⟩
 case round =>
  obtain ⟨k,hk,rfl,Hk,hq⟩:=hrel
  by_cases hlt:k<l.length
  ·obtain ⟨b,off,rfl,_,_⟩:=Hat.out k hlt
   have c0:=hq.cell (Hcell.out b off rfl k hlt) (by simp)
   have hx:(0:Int)≤(k:Int):=by omega
   have hx1:(k:Int)<(l.length:Int):=by omega
   have Hdrop:=lh (anyI_drop (f:=g) hlt)
   generalize l.getD k 0=x at *
   cases hxx:g x with
   | true =>
    have Hx:=lh hxx
    clear hxx
    go_wp2_with fail
    go_at_call 207
    exact qDCont3
   | false =>
    have Hx:=lh hxx
    clear hxx
    go_wp2_with fail
    go_at_call 207
    exact qDCont1
  ·exact qDCont0
theorem containsZ_any {lo hi:Nat} {v:Value} {l:List Int} {w:World} (h:Ints .i64 lo hi w v l) (hl:l.length≤1000000000) :
  Calls Tryz.prog 173 #[v,.func (.func 207) #[] #[]] w fun e w'=>e=.returned (.bool (l.any nzB))∧Only [] w w':=by
 have H:=lh (indexZ_any h hl)
 clear h hl
 generalize l.any nzB=B at *
 exact qDCont2
theorem withinB_any {l:List Int}:(!(l.any nsamB))=withinB l 0 255:=by
 unfold withinB nsamB sampleB
 rw [Bool.eq_iff_iff]
 simp
theorem samples_any {lo hi:Nat} {v:Value} {l:List Int} {w:World} (h:Ints .i64 lo hi w v l) (hl:l.length≤1000000000) :
  Calls Tryz.prog 136 #[v] w fun e w'=>e=.returned (.bool (withinB l 0 255))∧Only [] w w':=by
 have H:=lh (containsS_any h hl)
 obtain ⟨a,cap,rfl,_⟩:=h.open
 clear h hl
 go_enter Tryz.func136,Tryz.ntmps136
 go_wp2_with fail
 go_at_call 173
 refine H.out.mono ?_
 rintro e w1 ⟨rfl,hq1⟩
 go_wp2_with fail
 go_ret
 exact ⟨ret_bool withinB_any,hq1⟩
theorem levB_any {l:List Int}:l.any levErr=!levB l:=by
 unfold levB levErr
 rw [Bool.eq_iff_iff]
 simp
 constructor
 ·rintro ⟨x,hx,h⟩;exact ⟨x,hx,by omega⟩
 ·rintro ⟨x,hx,h⟩;exact ⟨x,hx,by omega⟩
theorem zero_any {lo hi:Nat} {v:Value} {l:List Int} {w:World} (h:Ints .i64 lo hi w v l) (hl:l.length≤1000000000) :
  Calls Tryz.prog 181 #[v] w fun e w'=>e=.returned (.bool (!l.any nzB))∧Only [] w w':=by
 have H:=lh (containsZ_any h hl)
 obtain ⟨a,cap,rfl,_⟩:=h.open
 clear h hl
 go_enter Tryz.func181,Tryz.ntmps181
 go_wp2_with fail
 go_at_call 173
 refine H.out.mono ?_
 rintro e w1 ⟨rfl,hq1⟩
 go_wp2_with fail
 go_ret
 exact ⟨rfl,hq1⟩
/-- coef.Check: what is wrong with a list of levels -/
def checkL (l:List Int):Option Int:=if l.length≠16∧l.length≠64 then some 14 else if levB l then none else some 3
def CodeV (v:Value):Option Int→Prop
 | none=>v=.nilIface
 | some k=>v=.iface 29 (.int .i64 k)
theorem qDCont4 {p:Prop} (h:p:=by
 rw [HL.out,hb] at H
 rw [hb] at Hc
 clear hb
 go_enter Tryz.func178,Tryz.ntmps178
 go_wp2_with fail
 go_at_call 173
 refine H.out.mono ?_
 rintro e w1 ⟨rfl,hq1⟩
 go_wp2_with fail
 go_ret
 exact ⟨⟨_,rfl,by rw [Hc.out];rfl⟩,hq1⟩):p:=h
theorem coefCheck_any {lo hi:Nat} {v:Value} {l:List Int} {w:World} (h:Ints .i64 lo hi w v l) (hl:l.length≤1000000000) :
  Calls Tryz.prog 178 #[v] w fun e w'=>(∃ u,e=.returned u∧CodeV u (checkL l))∧Only [] w w':=by
 have H:=lh (containsL_any h hl)
 obtain ⟨a,cap,rfl,_⟩:=h.open
 clear h
 by_cases h16:l.length=16∨l.length=64
 ·have hc:checkL l=if levB l then none else some 3:=if_neg (by omega)
  have Hc:=lh hc
  have HL:=lh (levB_any (l:=l))
  clear hc
  have hi:(l.length:Int)=16∨(l.length:Int)=64:=by omega
  clear h16
  rcases hi with hi | hi
  all_goals
   cases hb:levB l with
   | true =>
    exact qDCont4
   | false =>
    exact qDCont4
 ·have hc:checkL l=some 14:=if_pos (by omega)
  have Hc:=lh hc
  have h1:((l.length:Int) != 16)=true:=by simp;omega
  have h2:((l.length:Int) != 64)=true:=by simp;omega
  clear hc h16 H
  go_enter Tryz.func178,Tryz.ntmps178
  go_wp2_with fail
  go_ret
  exact ⟨⟨_,rfl,by rw [Hc.out];rfl⟩,Only.refl _ _⟩
theorem frame_cells {w:World} {a b c:Value} {t:TypeId} {g:Nat} (h:w.heap[g]?=some (.cells #[a,b,c] t (0,0))) :
  w.cell? ⟨g,0,none⟩=some a∧w.cell? ⟨g,1,none⟩=some b∧w.cell? ⟨g,2,none⟩=some c:=by
 refine ⟨?_,?_,?_⟩ <;> (rw [cell_of_row _ _ _ _ _ _ h];rfl)
section
theorem pmay_any {lo hi:Nat} {pv:Value} {l:List Int} {w:World} (W H:Int) (h:Ints .i64 lo hi w pv l) :
  Calls Tryz.prog 93 #[.agg #[.int .i64 W,.int .i64 H,pv]] w fun e w'=>e=.returned (.bool (mayF ⟨W,H,l⟩))∧Only [] w w':=by
 obtain ⟨a,cap,rfl,hlc,hmax,_⟩:=h.open
 have hll:(l.length:Int)≤9223372036854775807:=by unfold maxLen at hmax;omega
 have hq1:Only [] w (w.alloc (.cells #[.int .i64 W,.int .i64 H,.slice a l.length cap] 70)):=Only.new w _
 have HQ:=lh hq1
 have Hh:=lh h
 clear h hmax hlc hq1
 cases hW:sideB W with
 | false =>
  have Hr:Hid (mayF ⟨W,H,l⟩=false):=lh (by simp [mayF,hW])
  have HW:=lh hW
  clear hW
  go_enter Tryz.func93,Tryz.ntmps93
  go_wp2_with (first | (go_at_call 55;refine (side_any _ _).mono ?_;rintro e w' ⟨rfl,rfl⟩;rw [HW.out]) | fail)
  go_ret
  exact ⟨ret_bool (by rw [Hr.out]),HQ.out⟩
 | true =>
  cases hH:sideB H with
  | false =>
   have Hr:Hid (mayF ⟨W,H,l⟩=false):=lh (by simp [mayF,hH])
   have HW:=lh hW
   have HH:=lh hH
   clear hW hH
   go_enter Tryz.func93,Tryz.ntmps93
   go_wp2_with (first | (go_at_call 55;refine (side_any _ _).mono ?_;rintro e w' ⟨rfl,rfl⟩;(first | rw [HW.out] | rw [HH.out])) | fail)
   go_ret
   exact ⟨ret_bool (by rw [Hr.out]),HQ.out⟩
  | true =>
   have bW:=of_decide_eq_true hW
   have bH:=of_decide_eq_true hH
   have Hr:Hid (mayF ⟨W,H,l⟩=(decide ((l.length:Int)=W*H) && withinB l 0 255)):=lh (by simp [mayF,hW,hH])
   have HW:=lh hW
   have HH:=lh hH
   clear hW hH
   obtain ⟨W',rfl⟩:=Int.eq_ofNat_of_zero_le (by omega:0≤W)
   obtain ⟨H',rfl⟩:=Int.eq_ofNat_of_zero_le (by omega:0≤H)
   have hn:W'*H'≤1024:=Nat.le_trans (Nat.mul_le_mul (by omega:W'≤32) (by omega:H'≤32)) (by decide)
   have hmul:(W':Int)*(H':Int)=((W'*H':Nat):Int):=by rw [Int.natCast_mul]
   have Hmul:=lh hmul
   by_cases he:l.length=W'*H'
   ·have Hs:=lh (fun (wx:World) (o:Only [] w wx)=>samples_any (Hh.out.quiet o) (by omega))
    have Hr2:Hid (mayF ⟨(W':Int),(H':Int),l⟩=withinB l 0 255):=lh (by rw [Hr.out,Hmul.out,he];simp)
    rw [he] at HQ Hs ⊢
    generalize W'*H'=n at *
    clear he hll bW bH Hr Hmul
    generalize withinB l 0 255=b at *
    go_enter Tryz.func93,Tryz.ntmps93
    go_wp2_with (first | (go_at_call 55;refine (side_any _ _).mono ?_;rintro e w' ⟨rfl,rfl⟩;(first | rw [HW.out] | rw [HH.out])) | (go_at_call 136;refine (Hs.out _ HQ.out).mono ?_;rintro e w2 ⟨rfl,hq2⟩;have HQ2:=lh hq2;clear hq2) | fail)
    go_ret
    exact ⟨ret_bool (by rw [Hr2.out]),HQ.out.q HQ2.out⟩
   ·have Hr2:Hid (mayF ⟨(W':Int),(H':Int),l⟩=false):=lh (by rw [Hr.out,Hmul.out];simp;omega)
    have hne:((l.length:Int) == ((W'*H':Nat):Int))=false:=by rw [beq_eq_false_iff_ne];omega
    generalize W'*H'=n at *
    clear he bW bH Hr Hmul
    go_enter Tryz.func93,Tryz.ntmps93
    go_wp2_with (first | (go_at_call 55;refine (side_any _ _).mono ?_;rintro e w' ⟨rfl,rfl⟩;(first | rw [HW.out] | rw [HH.out])) | fail)
    go_ret
    exact ⟨ret_bool (by rw [Hr2.out]),HQ.out⟩
theorem mates_any {lo hi:Nat} {pv:Value} {l:List Int} {w:World} (W H w0 h0:Int) (h:Ints .i64 lo hi w pv l) :
  Calls Tryz.prog 50 #[.agg #[.int .i64 W,.int .i64 H,pv],.int .i64 w0,.int .i64 h0] w fun e w'=>e=.returned (.bool (matesB ⟨W,H,l⟩ w0 h0))∧Only [] w w':=by
 obtain ⟨a,cap,rfl,hlc,hmax,_⟩:=h.open
 have hq1:Only [] w (w.alloc (.cells #[.int .i64 W,.int .i64 H,.slice a l.length cap] 70)):=Only.new w _
 have HR:Hid (matesB ⟨W,H,l⟩ w0 h0=(mayF ⟨W,H,l⟩ && decide (W=w0) && decide (H=h0))):=lh rfl
 have HM:=lh (pmay_any W H (h.quiet hq1))
 have f:=frame_cells (heap_alloc_new w (.cells #[.int .i64 W,.int .i64 H,.slice a l.length cap] 70))
 have HF:=lh f
 have HQ:=lh hq1
 clear h hmax hlc hq1 f
 generalize mayF ⟨W,H,l⟩=b at *
 generalize l.length=n at *
 go_enter Tryz.func50,Tryz.ntmps50
 go_wp2_with fail
 go_at_call 93
 refine HM.out.mono ?_
 rintro e w2 ⟨rfl,hq2⟩
 have c0:=hq2.cell HF.out.1 (by simp)
 have c1:=hq2.cell HF.out.2.1 (by simp)
 have HQ2:=lh hq2
 clear hq2
 cases b with
 | false =>
  go_wp2_with fail
  go_ret
  exact ⟨ret_bool (by rw [HR.out];rfl),HQ.out.q HQ2.out⟩
 | true =>
  by_cases hW:W=w0
  ·subst hW
   go_wp2_with fail
   all_goals
    go_ret
    exact ⟨ret_bool (by rw [HR.out,Bool.eq_iff_iff];simp),HQ.out.q HQ2.out⟩
  ·have hb:(W == w0)=false:=by rw [beq_eq_false_iff_ne];exact hW
   have Hn:=lh hW
   clear hW
   go_wp2_with fail
   go_ret
   exact ⟨ret_bool (by rw [HR.out];simp [Hn.out]),HQ.out.q HQ2.out⟩
def liesD (W H x y n:Int):Bool:=decide (0≤x∧0≤y∧x≤W-n∧y≤H-n)
theorem qDMay0 {p:Prop} (h:p:=by
 go_enter Tryz.func187,Tryz.ntmps187
 go_wp2_with fail
 go_ret
 exact ⟨ret_bool (by rw [HR.out,Bool.eq_iff_iff];simp;try omega),HQ.out⟩):p:=h
theorem pin_any (W H x y n:Int) (pv:Value) (w:World) (hW:8≤W∧W≤32) (hH:8≤H∧H≤32) (hn:4≤n∧n≤8) :
  Calls Tryz.prog 187 #[.agg #[.int .i64 W,.int .i64 H,pv],.int .i64 x,.int .i64 y,.int .i64 n] w fun e w'=>e=.returned (.bool (liesD W H x y n))∧Only [] w w':=by
 have hq1:Only [] w (w.alloc (.cells #[.int .i64 W,.int .i64 H,pv] 70)):=Only.new w _
 have HQ:=lh hq1
 clear hq1
 obtain ⟨w1,w2⟩:=hW
 obtain ⟨h1,h2⟩:=hH
 obtain ⟨n1,n2⟩:=hn
 have HR:Hid (liesD W H x y n=decide (0≤x∧0≤y∧x≤W-n∧y≤H-n)):=lh rfl
 generalize liesD W H x y n=b at *
 by_cases hx:0≤x
 ·by_cases hy:0≤y
  ·by_cases hxx:x≤W-n
   ·by_cases hyy:y≤H-n
    all_goals
     exact qDMay0
   ·exact qDMay0
  ·exact qDMay0
 ·exact qDMay0
end
def outW (most x:Int):Bool:=decide (x < -most) || decide (most<x)
theorem whtc1_any {G:Nat} (most x:Int) {w:World} (hm:w.cell? ⟨G,0,none⟩=some (.int .i64 most)) (hb:0≤most∧most≤1000000000):Calls Tryz.prog 219 #[.int .i64 x,.pointer (some ⟨G,0,none⟩)] w fun e w'=>e=.returned (.bool (outW most x))∧w=w':=by
 have hwr:wrap64 (-most)=-most:=by unfold wrap64;omega
 by_cases h:x < -most
 ·have hb:outW most x=true:=by simp [outW,h]
  rw [hb]
  go_enter Tryz.func219,Tryz.ntmps219
  go_wp2
  go_ret
  exact ⟨rfl,rfl⟩
 ·have hb:outW most x=decide (most<x):=by simp [outW,h]
  rw [hb]
  go_enter Tryz.func219,Tryz.ntmps219
  go_wp2
  go_ret
  exact ⟨rfl,rfl⟩
theorem indexW_any {lo hi:Nat} {v:Value} {l:List Int} {w:World} (most:Int) {G:Nat} (h:Ints .i64 lo hi w v l) (hl:l.length≤1000000000) (hm:w.cell? ⟨G,0,none⟩=some (.int .i64 most)) (hb:0≤most∧most≤1000000000) :
  Calls Tryz.prog 205 #[v,.func (.func 219) #[] #[.pointer (some ⟨G,0,none⟩)]] w fun e w'=>(∃ i:Int,e=.returned (.int .i64 i)∧(0≤i↔l.any (outW most)=true)∧-1≤i∧i≤1000000000)∧Only [] w w':=by
 obtain ⟨a,cap,rfl,hcap,hmax,hat,hcell⟩:=h.open
 have Hat:=lh hat
 have Hcell:=lh hcell
 have HF:=lh (fun (x:Int) (wx:World) (o:Only [] w wx)=>whtc1_any most x (o.cell hm (by simp)) hb)
 have Hl:=lh hl
 have hll:(l.length:Int)≤9223372036854775807:=by omega
 clear h hat hcell hmax hcap hl
 generalize hg:(outW most)=g at *
 clear hg hm
 go_enter Tryz.func205,Tryz.ntmps205
 go_wp2_with fail
 go_loopw [8] (fun i wr=>∃ k:Nat,k≤l.length∧i=.int .i64 k∧Hid ((l.drop k).any g=l.any g)∧Only [] w wr) (fun i _=>l.length-(intOf i).toNat)
 case atStart=>exact ⟨0,by omega,rfl,lh rfl,Only.refl _ _⟩
 case round =>
  obtain ⟨k,hk,rfl,Hk,hq⟩:=hrel
  by_cases hlt:k<l.length
  ·obtain ⟨b,off,rfl,_,_⟩:=Hat.out k hlt
   have c0:=hq.cell (Hcell.out b off rfl k hlt) (by simp)
   have hx:(0:Int)≤(k:Int):=by omega
   have hx1:(k:Int)<(l.length:Int):=by omega
   have Hdrop:=lh (anyI_drop (f:=g) hlt)
   generalize l.getD k 0=x at *
   cases hxx:g x with
   | true =>
    have Hx:=lh hxx
    clear hxx
    go_wp2_with fail
    go_at_call 219
    refine (HF.out _ _ hq).mono ?_
    rintro e w2 ⟨rfl,rfl⟩
    rw [Hx.out]
    go_wp2_with fail
    go_ret
    refine ⟨⟨k,rfl,?_,by omega,by have:=Hl.out;omega⟩,hq⟩
    rw [← Hk.out,Hdrop.out,Hx.out]
    simp
   | false =>
    have Hx:=lh hxx
    clear hxx
    go_wp2_with fail
    go_at_call 219
    refine (HF.out _ _ hq).mono ?_
    rintro e w2 ⟨rfl,rfl⟩
    rw [Hx.out]
    have hfin:Hid ((l.drop (k+1)).any g=l.any g):=lh (by rw [← Hk.out,Hdrop.out,Hx.out];rfl)
    go_wp2_with fail
    exact ⟨⟨k+1,by omega,by go_num,hfin,hq⟩,by simp [intOf];omega⟩
  ·obtain rfl:k=l.length:=by omega
   have hx:¬ (l.length:Int)<(l.length:Int):=by omega
   have Hz:Hid (l.any g=false):=lh (by rw [← Hk.out,List.drop_length];rfl)
   go_wp2_with fail
   go_ret
   refine ⟨⟨-1,rfl,?_,by omega,by omega⟩,hq⟩
   first | rw [Hz.out] | rw [← List.any_eq_true,Hz.out]
   simp
theorem containsW_any {lo hi:Nat} {v:Value} {l:List Int} {w:World} (most:Int) {G:Nat} (h:Ints .i64 lo hi w v l) (hl:l.length≤1000000000) (hm:w.cell? ⟨G,0,none⟩=some (.int .i64 most)) (hb:0≤most∧most≤1000000000) :
  Calls Tryz.prog 173 #[v,.func (.func 219) #[] #[.pointer (some ⟨G,0,none⟩)]] w fun e w'=>e=.returned (.bool (l.any (outW most)))∧Only [] w w':=by
 have H:=lh (indexW_any most h hl hm hb)
 clear h hl
 generalize l.any (outW most)=B at *
 go_enter Tryz.func173,Tryz.ntmps173
 go_wp2_with (first | (go_at_call 205;refine H.out.mono ?_;rintro e w1 ⟨⟨i,rfl,hi1,hi2,hi3⟩,hq1⟩) | fail)
 go_ret
 exact ⟨ret_bool (by rw [Bool.eq_iff_iff,← hi1];try simp),hq1⟩
/-- a list within the bound -/
theorem whtCheck_any {lo hi:Nat} {v:Value} {l:List Int} {w:World} {most:Int} (h:Ints .i64 lo hi w v l) (hl:l.length=16∨l.length=64) (hb:0≤most∧most≤1000000000) (hin:∀ x∈l,-most≤x∧x≤most) :
  Calls Tryz.prog 212 #[v,.int .i64 most] w fun e w'=>e=.returned .nilIface∧Only [] w w':=by
 have hq:=Only.new w (.cells #[.int .i64 most] 3)
 have hany:l.any (outW most)=false:=by
  rw [List.any_eq_false]
  intro x hx
  have:=hin x hx
  simp only [outW,Bool.or_eq_true,decide_eq_true_eq]
  omega
 have H:=lh (containsW_any most (G:=w.heap.size) (h.quiet hq) (by omega) (cell_of_row _ _ 0 _ _ (0,0) (heap_alloc_new _ _)) hb)
 rw [hany] at H
 have hmf:∀ (fn:Fn) (first cap:Array Value) (W:World),(Instr.makeFunc fn first cap).run Tryz.prog W=.ok (.func fn first cap) W:=fun _ _ _ _=>rfl
 obtain ⟨a,cap,rfl,_⟩:=h.open
 have HQ:=lh hq
 clear h hany hin hq
 have hi:(l.length:Int)=16∨(l.length:Int)=64:=by omega
 clear hl
 rcases hi with hi | hi
 all_goals
  go_enter Tryz.func212,Tryz.ntmps212
  go_wp2_with fail
  go_at_call 173
  refine H.out.mono ?_
  rintro e w1 ⟨rfl,hq1⟩
  go_wp2_with fail
  go_ret
  exact ⟨rfl,HQ.out.q hq1⟩
theorem clone_any {lo hi:Nat} {v:Value} {l:List Int} {w:World} (h:Ints .i64 lo hi w v l) (h0:0<l.length) (hl:l.length≤1000000) :
  Calls Tryz.prog 220 #[v] w fun e w'=>∃ v',e=.returned v'∧Own .i64 3 w.heap.size w' v' l∧Only [] w w':=by
 obtain ⟨b,off,cap,rfl,_,_,_⟩:=h.at h0
 have heq:(binOp BinOp.eql 48 (.slice (some ⟨b,off,none⟩) l.length cap) (.slice none 0 0)).run Tryz.prog w=.ok (.bool false) w:=by kernel_rfl
 go_enter Tryz.func220,Tryz.ntmps220
 go_wp2_with (at_builtin;refine wpList_append_ints rfl (.tmp 5) (.tmp 6) _ rfl EI (own_new (l:=[]) rfl (by simp) (by simp) 0 rfl) rfl (h.quiet ((Only.refl _ _).alloc _)) rfl ?c1 ?c2 (fun v1 w1 hown1 ho1=>?_))
 case c1=>simp;omega
 case c2=>simp
 go_ret
 exact ⟨v1,rfl,by simpa using hown1,((Only.refl _ _).alloc _).acc ho1 (From.lit (Nat.le_refl _))⟩
theorem len64_any (n:Int) (hn:n=16∨n=64) (w:World):Calls Tryz.prog 222 #[.int .u64 n] w fun e w'=>e=.returned (.int .i64 (if n=16 then 5 else 7))∧w=w':=by
 rcases hn with rfl | rfl
 ·go_enter Tryz.func222,Tryz.ntmps222
  go_wp2
  exact bodyPost_ret (v:=.int .i64 5) (by kernel_rfl) rfl ⟨rfl,rfl⟩
 ·go_enter Tryz.func222,Tryz.ntmps222
  go_wp2
  exact bodyPost_ret (v:=.int .i64 7) (by kernel_rfl) rfl ⟨rfl,rfl⟩
theorem len_any (n:Int) (hn:n=16∨n=64) (w:World):Calls Tryz.prog 214 #[.int .u64 n] w fun e w'=>e=.returned (.int .i64 (if n=16 then 5 else 7))∧w=w':=by
 have H:=lh (len64_any n hn)
 generalize (if n=16 then (5:Int) else 7)=r at *
 go_enter Tryz.func214,Tryz.ntmps214
 go_wp2_with (first | (go_at_call 222;refine (H.out _).mono ?_;rintro e w1 ⟨rfl,rfl⟩) | fail)
 go_ret
 exact ⟨rfl,rfl⟩
theorem qDBits0 {p:Prop} (h:p:=by
 rw [BitVec.ofInt_natCast,BitVec.toNat_ofNat];exact Nat.mod_eq_of_lt (by omega)):p:=h
theorem bits_and_small (a b:Nat) (ha:a<1000000) (hb:b<1000000):bits .and .i64 (a:Int) (b:Int)=((a &&& b:Nat):Int):=by
 have hx:a &&& b<2 ^ 20:=Nat.and_lt_two_pow _ (by omega)
 have h1:(BitVec.ofInt 64 (a:Int)).toNat=a:=by
  exact qDBits0
 have h2:(BitVec.ofInt 64 (b:Int)).toNat=b:=by
  exact qDBits0
 show IntKind.i64.wrap ((BitVec.ofInt 64 (a:Int) &&& BitVec.ofInt 64 (b:Int)).toNat:Int)=_
 rw [BitVec.toNat_and,h1,h2,IntKind.wrap_i64]
 omega
theorem bits_or_small (a b:Nat) (ha:a<1000000) (hb:b<1000000):bits .or .i64 (a:Int) (b:Int)=((a ||| b:Nat):Int):=by
 have hx:a ||| b<2 ^ 20:=Nat.or_lt_two_pow (by omega) (by omega)
 have h1:(BitVec.ofInt 64 (a:Int)).toNat=a:=by
  exact qDBits0
 have h2:(BitVec.ofInt 64 (b:Int)).toNat=b:=by
  exact qDBits0
 show IntKind.i64.wrap ((BitVec.ofInt 64 (a:Int) ||| BitVec.ofInt 64 (b:Int)).toNat:Int)=_
 rw [BitVec.toNat_or,h1,h2,IntKind.wrap_i64]
 omega
end Go.Proofs.YtmdobcffijnaoaaGreatDoor
