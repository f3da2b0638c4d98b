/- Joined texts: DKMay, DRPl, DRHf. Conditions: each part names its own. -/
import Derived.Test.YtmgbbgffkakcaaaGreatDoorT1
import Derived.Test.YtmgbbgffkakcaaaGreatDoorK2
import Derived.Test.YtmgbbgffkakcaaaGreatDoorC3
import Derived.Test.YtmgbbgffkakcaaaGreatDoorC4
import Derived.Test.YtmgbbgffkakcaaaGreatDoorK5
import Derived.Deep.RegionHeld3
import Derived.BigRegion
namespace Go.Proofs.YtmgbbgffkakcaaaGreatDoor
open Go.RowKit
set_option linter.unusedVariables false
set_option linter.unusedSimpArgs false
set_option maxRecDepth 100000
set_option maxHeartbeats 16000000
theorem qDKMay0 {p:Prop} (h:p:=by
 go_enter Tryz.func97,Tryz.ntmps97
 go_wp2
 all_goals
  go_ret
  exact ⟨ret_bool (by unfold sideB;rw [Bool.eq_iff_iff];simp;try omega),rfl⟩):p:=h
theorem kside_any (n:Int) (w:World) :
  Calls Tryz.prog 97 #[.int .i64 n] w fun e w'=>e=.returned (.bool (sideB n))∧w=w':=by
 by_cases h8:8≤n
 ·by_cases h32:n≤32
  all_goals
   exact qDKMay0
 ·exact qDKMay0
section
theorem kmay_any {lo hi:Nat} {pv:Value} {l:List Int} {w:World} (W H:Int) (h:Ints .i64 lo hi w pv l) :
  Calls Tryz.prog 66 #[.agg #[.int .i64 W,.int .i64 H,pv]] w fun e w'=>e=.returned (.bool (mayF ⟨W,H,l⟩))∧Only [] w w':=by
 obtain ⟨a,cap,rfl,hlc,hmax,_⟩:=h.open
 have hll:(l.length:Int)≤9223372036854775807:=by unfold maxLen at hmax;omega
 have hq1:Only [] w (w.alloc (.cells #[.int .i64 W,.int .i64 H,.slice a l.length cap] 24)):=Only.new w _
 have HQ:=lh hq1
 have Hh:=lh h
 clear h hmax hlc hq1
 cases hW:sideB W with
 | false =>
  have Hr:Hid (mayF ⟨W,H,l⟩=false):=lh (by simp [mayF,hW])
  have HW:=lh hW
  clear hW
  go_enter Tryz.func66,Tryz.ntmps66
  go_wp2_with (first | (go_at_call 97;refine (kside_any _ _).mono ?_;rintro e w' ⟨rfl,rfl⟩;rw [HW.out]) | fail)
  go_ret
  exact ⟨ret_bool (by rw [Hr.out]),HQ.out⟩
 | true =>
  cases hH:sideB H with
  | false =>
   have Hr:Hid (mayF ⟨W,H,l⟩=false):=lh (by simp [mayF,hH])
   have HW:=lh hW
   have HH:=lh hH
   clear hW hH
   go_enter Tryz.func66,Tryz.ntmps66
   go_wp2_with (first | (go_at_call 97;refine (kside_any _ _).mono ?_;rintro e w' ⟨rfl,rfl⟩;(first | rw [HW.out] | rw [HH.out])) | fail)
   go_ret
   exact ⟨ret_bool (by rw [Hr.out]),HQ.out⟩
  | true =>
   have bW:=of_decide_eq_true hW
   have bH:=of_decide_eq_true hH
   have Hr:Hid (mayF ⟨W,H,l⟩=(decide ((l.length:Int)=W*H) && withinB l 0 255)):=lh (by simp [mayF,hW,hH])
   have HW:=lh hW
   have HH:=lh hH
   clear hW hH
   obtain ⟨W',rfl⟩:=Int.eq_ofNat_of_zero_le (by omega:0≤W)
   obtain ⟨H',rfl⟩:=Int.eq_ofNat_of_zero_le (by omega:0≤H)
   have hn:W'*H'≤1024:=Nat.le_trans (Nat.mul_le_mul (by omega:W'≤32) (by omega:H'≤32)) (by decide)
   have hmul:(W':Int)*(H':Int)=((W'*H':Nat):Int):=by rw [Int.natCast_mul]
   have Hmul:=lh hmul
   by_cases he:l.length=W'*H'
   ·have Hs:=lh (fun (wx:World) (o:Only [] w wx)=>within_any 0 255 (Hh.out.quiet o))
    have Hr2:Hid (mayF ⟨(W':Int),(H':Int),l⟩=withinB l 0 255):=lh (by rw [Hr.out,Hmul.out,he];simp)
    rw [he] at HQ Hs ⊢
    generalize W'*H'=n at *
    clear he hll bW bH Hr Hmul
    generalize withinB l 0 255=b at *
    go_enter Tryz.func66,Tryz.ntmps66
    go_wp2_with (first | (go_at_call 97;refine (kside_any _ _).mono ?_;rintro e w' ⟨rfl,rfl⟩;(first | rw [HW.out] | rw [HH.out])) | (go_at_call 26;refine (Hs.out _ HQ.out).mono ?_;rintro e w2 ⟨rfl,rfl⟩) | fail)
    go_ret
    exact ⟨ret_bool (by rw [Hr2.out]),HQ.out⟩
   ·have Hr2:Hid (mayF ⟨(W':Int),(H':Int),l⟩=false):=lh (by rw [Hr.out,Hmul.out];simp;omega)
    have hne:((l.length:Int) == ((W'*H':Nat):Int))=false:=by rw [beq_eq_false_iff_ne];omega
    generalize W'*H'=n at *
    clear he bW bH Hr Hmul
    go_enter Tryz.func66,Tryz.ntmps66
    go_wp2_with (first | (go_at_call 97;refine (kside_any _ _).mono ?_;rintro e w' ⟨rfl,rfl⟩;(first | rw [HW.out] | rw [HH.out])) | fail)
    go_ret
    exact ⟨ret_bool (by rw [Hr2.out]),HQ.out⟩
end
section
theorem qDRPl0 {p:Prop} (h:p:=by
 go_enter Tryz.func124,Tryz.ntmps124
 go_wp2_with fail
 go_ret
 exact ⟨ret_bool (by rw [HR.out,Bool.eq_iff_iff];simp;try omega),HQ.out⟩):p:=h
theorem klies_any (W H x y n:Int) (pv:Value) (w:World) (hW:8≤W∧W≤32) (hH:8≤H∧H≤32) (hn:4≤n∧n≤8) :
  Calls Tryz.prog 124 #[.agg #[.int .i64 W,.int .i64 H,pv],.int .i64 x,.int .i64 y,.int .i64 n] w fun e w'=>e=.returned (.bool (liesD W H x y n))∧Only [] w w':=by
 have hq1:Only [] w (w.alloc (.cells #[.int .i64 W,.int .i64 H,pv] 24)):=Only.new w _
 have HQ:=lh hq1
 clear hq1
 obtain ⟨w1,w2⟩:=hW
 obtain ⟨h1,h2⟩:=hH
 obtain ⟨n1,n2⟩:=hn
 have HR:Hid (liesD W H x y n=decide (0≤x∧0≤y∧x≤W-n∧y≤H-n)):=lh rfl
 generalize liesD W H x y n=b at *
 by_cases hx:0≤x
 ·by_cases hy:0≤y
  ·by_cases hxx:x≤W-n
   ·by_cases hyy:y≤H-n
    all_goals
     exact qDRPl0
   ·exact qDRPl0
  ·exact qDRPl0
 ·exact qDRPl0
theorem leans_any {lo hi:Nat} {pv:Value} {l:List Int} {w:World} (W H w0 h0:Int) (fv:Value) (h:Ints .i64 lo hi w pv l) :
  Calls Tryz.prog 96 #[.agg #[.int .i64 w0,.int .i64 h0,fv],.agg #[.int .i64 W,.int .i64 H,pv]] w fun e w'=>e=.returned (.bool (matesB ⟨W,H,l⟩ w0 h0))∧Only [] w w':=by
 obtain ⟨a,cap,rfl,hlc,hmax,_⟩:=h.open
 have hq1:Only [] w ((w.alloc (.cells #[.int .i64 w0,.int .i64 h0,fv] 24)).alloc (.cells #[.int .i64 W,.int .i64 H,.slice a l.length cap] 24)):=(Only.new w _).alloc _
 have HR:Hid (matesB ⟨W,H,l⟩ w0 h0=(mayF ⟨W,H,l⟩ && decide (W=w0) && decide (H=h0))):=lh rfl
 have HM:=lh (kmay_any W H (h.quiet hq1))
 have f0:=frame_cells ((Only.new (w.alloc _) (.cells #[.int .i64 W,.int .i64 H,.slice a l.length cap] 24)).row (heap_alloc_new w (.cells #[.int .i64 w0,.int .i64 h0,fv] 24)))
 have f:=frame_cells (heap_alloc_new (w.alloc (.cells #[.int .i64 w0,.int .i64 h0,fv] 24)) (.cells #[.int .i64 W,.int .i64 H,.slice a l.length cap] 24))
 simp only [World.size_alloc] at f
 have HF:=lh f
 have HF0:=lh f0
 have HQ:=lh hq1
 clear h hmax hlc hq1 f f0
 generalize mayF ⟨W,H,l⟩=b at *
 generalize l.length=n at *
 go_enter Tryz.func96,Tryz.ntmps96
 go_wp2_with fail
 go_at_call 66
 refine HM.out.mono ?_
 rintro e w2 ⟨rfl,hq2⟩
 have c0:=hq2.cell HF.out.1 (by simp)
 have c1:=hq2.cell HF.out.2.1 (by simp)
 have d0:=hq2.cell HF0.out.1 (by simp)
 have d1:=hq2.cell HF0.out.2.1 (by simp)
 have HQ2:=lh hq2
 clear hq2
 cases b with
 | false =>
  go_wp2_with fail
  go_ret
  exact ⟨ret_bool (by rw [HR.out];rfl),HQ.out.q HQ2.out⟩
 | true =>
  by_cases hW:W=w0
  ·subst hW
   go_wp2_with fail
   all_goals
    go_ret
    exact ⟨ret_bool (by rw [HR.out,Bool.eq_iff_iff];simp),HQ.out.q HQ2.out⟩
  ·have hb:(W == w0)=false:=by rw [beq_eq_false_iff_ne];exact hW
   have Hn:=lh hW
   clear hW
   go_wp2_with fail
   go_ret
   exact ⟨ret_bool (by rw [HR.out];simp [Hn.out]),HQ.out.q HQ2.out⟩
theorem kclip_any (v:Int) (w:World):Calls Tryz.prog 157 #[.int .i64 v] w fun e w'=>e=.returned (.int .i64 (clipD v))∧w=w':=by
 go_enter Tryz.func157,Tryz.ntmps157
 go_wp2
 all_goals
  go_ret
  exact ⟨ret_int (by unfold clipD;first | rfl | omega | (split <;> omega)),rfl⟩
theorem copyi_any {lo hi:Nat} {v:Value} {l:List Int} {w:World} (h:Ints .i64 lo hi w v l) (hl:l.length≤1000000000) :
  Calls Tryz.prog 36 #[v] w fun e w'=>∃ v',e=.returned v'∧Own .i64 3 w.heap.size w' v' l∧Only [] w w':=by
 go_enter Tryz.func36,Tryz.ntmps36
 go_wp2_with (at_builtin;refine wpList_append_ints rfl (.tmp 3) (.tmp 4) _ rfl EI (own_new (l:=[]) rfl (by simp) (by simp) 0 rfl) rfl (h.quiet ((Only.refl _ _).alloc _)) rfl ?c1 ?c2 (fun v1 w1 hown1 ho1=>?_))
 case c1=>simp;omega
 case c2=>simp
 go_ret
 exact ⟨v1,rfl,by simpa using hown1,((Only.refl _ _).alloc _).acc ho1 (From.lit (Nat.le_refl _))⟩
theorem place_any (W H x y:Int) (pv:Value) (w:World) (hW:8≤W∧W≤32) (hH:8≤H∧H≤32) :
  Calls Tryz.prog 67 #[.agg #[.int .i64 W,.int .i64 H,pv],.int .i64 x,.int .i64 y] w fun e w'=>e=.returned (.bool (decide (x.tmod 8=0) && decide (y.tmod 8=0) && liesD W H x y 8))∧Only [] w w':=by
 have hq1:Only [] w (w.alloc (.cells #[.int .i64 W,.int .i64 H,pv] 24)):=Only.new w _
 have hr:=frame_cells (heap_alloc_new w (.cells #[.int .i64 W,.int .i64 H,pv] 24))
 obtain ⟨r0,r1,r2⟩:=hr
 have HL:=lh (klies_any W H x y 8 pv (w.alloc (.cells #[.int .i64 W,.int .i64 H,pv] 24)) hW hH ⟨by omega,by omega⟩)
 have HQ:=lh hq1
 clear hq1 hW hH
 generalize liesD W H x y 8=b at *
 by_cases hx:x.tmod 8=0
 ·by_cases hy:y.tmod 8=0
  ·have Hx:=lh (And.intro hx hy)
   go_enter Tryz.func67,Tryz.ntmps67
   go_wp2_with fail
   go_at_call 124
   refine HL.out.mono ?_
   rintro e w2 ⟨rfl,hq2⟩
   have HQ2:=lh hq2
   clear hq2 r0 r1 r2
   go_wp2_with fail
   go_ret
   exact ⟨ret_bool (by simp [Hx.out.1,Hx.out.2]),HQ.out.q HQ2.out⟩
  ·have hb:(y.tmod 8 == 0)=false:=by rw [beq_eq_false_iff_ne];exact hy
   have Hy:=lh hy
   go_enter Tryz.func67,Tryz.ntmps67
   go_wp2_with fail
   go_ret
   exact ⟨ret_bool (by simp [Hy.out]),HQ.out⟩
 ·have hb:(x.tmod 8 == 0)=false:=by rw [beq_eq_false_iff_ne];exact hx
  have Hx:=lh hx
  go_enter Tryz.func67,Tryz.ntmps67
  go_wp2_with fail
  go_ret
  exact ⟨ret_bool (by simp [Hx.out]),HQ.out⟩
end
section
theorem down_any (a:Int) (h:-1000≤a∧a≤1000) (w:World):Calls Tryz.prog 201 #[.int .i64 a] w fun e w'=>e=.returned (.int .i64 (a / 2))∧w=w':=by
 have ax:=bits_and_one a
 have Hr:Hid ((a-a % 2).tdiv 2=a / 2):=lh (by rw [Int.tdiv_eq_ediv];omega)
 have hm:0≤a % 2∧a % 2≤1:=by omega
 obtain ⟨h0,h1⟩:=h
 obtain ⟨m0,m1⟩:=hm
 generalize a % 2=m at *
 generalize a / 2=r at *
 go_enter Tryz.func201,Tryz.ntmps201
 go_wp2_with fail
 go_ret
 exact ⟨ret_int Hr.out,rfl⟩
theorem qDRHf3 {p:Prop} (h:p:=by
 clear em ex hlen i2 i3 i4
 go_enter Tryz.func202,Tryz.ntmps202
 go_wp2_with fail
 go_ret
 exact ⟨ret_int HR.out.symm,HQ.out⟩):p:=h
theorem qDRHf0 {p:Prop} (h:p:=by
 rw [← hMe] at i1 i2 hc
 clear hMe
 rcases (by omega:x<0∨(0≤x∧x≤W-1)∨(0≤x∧W-1<x)) with hx | ⟨hx,hx1⟩ | ⟨hx,hx1⟩
 ·have ex:min (max x 0) (W-1)=0:=by omega
  rw [ex] at i2 hc
  rw [Int.add_zero] at i2 hc
  have t0:0≤M:=by omega
  have t1:M<(N:Int):=by omega
  have hS:wrap64 (M)=M:=by unfold wrap64;omega
  exact qDRHf3
 ·have ex:min (max x 0) (W-1)=x:=by omega
  rw [ex] at i2 hc
  have t0:0≤M+x:=by omega
  have t1:M+x<(N:Int):=by omega
  have hS:wrap64 (M+x)=M+x:=by unfold wrap64;omega
  exact qDRHf3
 ·have ex:min (max x 0) (W-1)=(W-1):=by omega
  rw [ex] at i2 hc
  have t0:0≤M+(W-1):=by omega
  have t1:M+(W-1)<(N:Int):=by omega
  have hS:wrap64 (M+(W-1))=M+(W-1):=by unfold wrap64;omega
  exact qDRHf3):p:=h
theorem qDRHf1 {p:Prop} (h:p:=by
 exact qDRHf3):p:=h
theorem kat_any {lo hi:Nat} {pv:Value} {w:World} {f:FrameD} (hok:FrOk f) (h:Ints .i64 lo hi w pv f.pix) (x y:Int) :
  Calls Tryz.prog 202 #[.agg #[.int .i64 f.W,.int .i64 f.H,pv],.int .i64 x,.int .i64 y] w fun e w'=>e=.returned (.int .i64 (atD f x y))∧Only [] w w':=by
 obtain ⟨a,cap,rfl,-⟩:=h.open
 have hq:=Only.new w (.cells #[.int .i64 f.W,.int .i64 f.H,.slice a f.pix.length cap] 24)
 have hI:=h.quiet hq
 have HQ:=lh hq
 have hW:8≤f.W∧f.W≤32:=⟨hok.w0,hok.w1⟩
 have hH:8≤f.H∧f.H≤32:=⟨hok.h0,hok.h1⟩
 obtain ⟨i1,i2,i3,i4⟩:=atD_idx hW hH x y
 have hlen:=hok.len
 obtain ⟨b,off,cap',hv,-,-,hc⟩:=hI.at (i:=(min (max y 0) (f.H-1)*f.W+min (max x 0) (f.W-1)).toNat) (by omega)
 injection hv with e1 e2 e3
 subst e1;subst e3
 have HR:Hid (atD f x y=f.pix.getD (min (max y 0) (f.H-1)*f.W+min (max x 0) (f.W-1)).toNat 0):=lh rfl
 generalize f.pix.getD (min (max y 0) (f.H-1)*f.W+min (max x 0) (f.W-1)).toNat 0=v at *
 generalize f.pix.length=N at *
 generalize f.W=W at *
 generalize f.H=H at *
 clear hI hok h hq
 have hH0:0≤H-1:=by omega
 have hW0:0≤W-1:=by omega
 have hw0:wrap64 0=0:=by unfold wrap64;omega
 obtain ⟨hW1,hW2⟩:=hW
 obtain ⟨hH1,hH2⟩:=hH
 rcases (by omega:y<0∨(0≤y∧y≤H-1)∨(0≤y∧H-1<y)) with hy | ⟨hy,hy1⟩ | ⟨hy,hy1⟩
 ·have em:min (max y 0) (H-1)=0:=by omega
  rw [em] at i1 i2 hc
  rw [Int.zero_mul] at i1 i2 hc
  simp only [Int.zero_add] at i2 hc
  rcases (by omega:x<0∨(0≤x∧x≤W-1)∨(0≤x∧W-1<x)) with hx | ⟨hx,hx1⟩ | ⟨hx,hx1⟩
  ·have ex:min (max x 0) (W-1)=0:=by omega
   rw [ex] at i2 hc
   rw [Int.toNat_zero,Nat.add_zero] at hc
   have t0:0≤0:=by omega
   have t1:0<(N:Int):=by omega
   exact qDRHf1
  ·have ex:min (max x 0) (W-1)=x:=by omega
   rw [ex] at i2 hc
   have t0:0≤x:=by omega
   have t1:x<(N:Int):=by omega
   exact qDRHf1
  ·have ex:min (max x 0) (W-1)=(W-1):=by omega
   rw [ex] at i2 hc
   rw [show (W-1).toNat=W.toNat-1 by omega] at hc
   have t0:0≤(W-1):=by omega
   have t1:(W-1)<(N:Int):=by omega
   exact qDRHf1
 ·have em:min (max y 0) (H-1)=y:=by omega
  rw [em] at i1 i2 hc
  obtain ⟨M,hMe⟩:∃ M,M=y*W:=⟨_,rfl⟩
  have hM:wrap64 (y*W)=M:=by rw [← hMe] at i1 i2 ⊢;unfold wrap64;omega
  exact qDRHf0
 ·have em:min (max y 0) (H-1)=(H-1):=by omega
  rw [em] at i1 i2 hc
  obtain ⟨M,hMe⟩:∃ M,M=(H-1)*W:=⟨_,rfl⟩
  have hM:wrap64 ((H-1)*W)=M:=by rw [← hMe] at i1 i2 ⊢;unfold wrap64;omega
  exact qDRHf0
theorem qDRHf2 {p:Prop} (h:p:=by
 rintro e w2 ⟨rfl,hq2⟩
 have HQ2:=lh (HQ1.out.q hq2)
 clear hq2
 go_wp2_with fail
 refine HPost.out _ _ ⟨ret_int (by rw [HR.out];simp;try omega),HQ2.out⟩):p:=h
theorem khalf_any {lo hi:Nat} {pv:Value} {w:World} {f:FrameD} (hok:FrOk f) (h:Ints .i64 lo hi w pv f.pix) (hx hy:Int) (hx0:-1000≤hx∧hx≤1000) (hy0:-1000≤hy∧hy≤1000) :
  Calls Tryz.prog 154 #[.agg #[.int .i64 f.W,.int .i64 f.H,pv],.int .i64 hx,.int .i64 hy] w fun e w'=>e=.returned (.int .i64 (halfD f hx hy))∧Only [] w w':=by
 refine hidQ fun Q HPost=>?_
 obtain ⟨a,cap,rfl,-⟩:=h.open
 have hq:=Only.new w (.cells #[.int .i64 f.W,.int .i64 f.H,.slice a f.pix.length cap] 24)
 have HRw:Hid ((w.alloc (.cells #[.int .i64 f.W,.int .i64 f.H,.slice a f.pix.length cap] 24)).heap[w.heap.size]?=some (.cells #[.int .i64 f.W,.int .i64 f.H,.slice a f.pix.length cap] 24 (0,0))):=lh (heap_alloc_new w _)
 have HQ:=lh hq
 have H1:=lh (fun x y (wx:World) (o:Only [] w wx)=>kat_any hok (h.quiet o) x y)
 have HD1:=lh (down_any hx hx0)
 have HD2:=lh (down_any hy hy0)
 obtain ⟨X,hX⟩:∃ X,X=hx / 2:=⟨_,rfl⟩
 obtain ⟨Y,hY⟩:∃ Y,Y=hy / 2:=⟨_,rfl⟩
 have eX:hx / 2=X:=hX.symm
 have eY:hy / 2=Y:=hY.symm
 have HR:Hid (halfD f hx hy=if hx % 2=0∧hy % 2=0 then atD f X Y
  else if hy % 2=0 then (atD f X Y+atD f (X+1) Y+1) / 2
  else if hx % 2=0 then (atD f X Y+atD f X (Y+1)+1) / 2
  else (atD f X Y+atD f (X+1) Y+atD f X (Y+1)+atD f (X+1) (Y+1)+2) / 4):=lh (by rw [hX,hY];rfl)
 have i00:=atD_in hok.sam X Y
 have i10:=atD_in hok.sam (X+1) Y
 have i01:=atD_in hok.sam X (Y+1)
 have i11:=atD_in hok.sam (X+1) (Y+1)
 have c00:=lh (H1.out X Y)
 have c10:=lh (H1.out (X+1) Y)
 have c01:=lh (H1.out X (Y+1))
 have c11:=lh (H1.out (X+1) (Y+1))
 have bX:-500≤X∧X≤500:=by omega
 have bY:-500≤Y∧Y≤500:=by omega
 generalize atD f X Y=v00 at *
 generalize atD f (X+1) Y=v10 at *
 generalize atD f X (Y+1)=v01 at *
 generalize atD f (X+1) (Y+1)=v11 at *
 obtain ⟨a00,b00⟩:=i00
 obtain ⟨a10,b10⟩:=i10
 obtain ⟨a01,b01⟩:=i01
 obtain ⟨a11,b11⟩:=i11
 obtain ⟨bX0,bX1⟩:=bX
 obtain ⟨bY0,bY1⟩:=bY
 have ax:=bits_and_one hx
 have ay:=bits_and_one hy
 have hx2:hx % 2=0∨hx % 2=1:=by omega
 have hy2:hy % 2=0∨hy % 2=1:=by omega
 rw [eX] at HD1
 rw [eY] at HD2
 clear h hq hX hY H1 hx0 hy0 eX eY
 rcases hx2 with ex | ex <;> rcases hy2 with ey | ey
 ·rw [ex,ey] at HR
  rw [ex] at ax
  rw [ey] at ay
  clear ex ey
  go_enter Tryz.func154,Tryz.ntmps154
  go_wp2_with fail
  go_at_call 201
  refine (HD1.out _).mono ?_
  rintro e w1 ⟨rfl,rfl⟩
  go_wp2_with fail
  go_at_call 201
  refine (HD2.out _).mono ?_
  rintro e w1 ⟨rfl,rfl⟩
  go_wp2_with fail
  go_at_call 202
  refine (c00.out _ HQ.out).mono ?_
  rintro e w1 ⟨rfl,hq1⟩
  have HQ1:=lh (HQ.out.q hq1)
  have HR1:=lh (hq1.row HRw.out)
  obtain ⟨r0,r1,r2⟩:=frame_cells HR1.out
  clear hq1
  go_wp2_with fail
  refine HPost.out _ _ ⟨ret_int (by rw [HR.out];simp),HQ1.out⟩
 ·rw [ex,ey] at HR
  rw [ex] at ax
  rw [ey] at ay
  clear ex ey
  go_enter Tryz.func154,Tryz.ntmps154
  go_wp2_with fail
  go_at_call 201
  refine (HD1.out _).mono ?_
  rintro e w1 ⟨rfl,rfl⟩
  go_wp2_with fail
  go_at_call 201
  refine (HD2.out _).mono ?_
  rintro e w1 ⟨rfl,rfl⟩
  go_wp2_with fail
  go_at_call 202
  refine (c00.out _ HQ.out).mono ?_
  rintro e w1 ⟨rfl,hq1⟩
  have HQ1:=lh (HQ.out.q hq1)
  have HR1:=lh (hq1.row HRw.out)
  obtain ⟨r0,r1,r2⟩:=frame_cells HR1.out
  clear hq1
  go_wp2_with fail
  go_at_call 202
  refine (c01.out _ HQ1.out).mono ?_
  exact qDRHf2
 ·rw [ex,ey] at HR
  rw [ex] at ax
  rw [ey] at ay
  clear ex ey
  go_enter Tryz.func154,Tryz.ntmps154
  go_wp2_with fail
  go_at_call 201
  refine (HD1.out _).mono ?_
  rintro e w1 ⟨rfl,rfl⟩
  go_wp2_with fail
  go_at_call 201
  refine (HD2.out _).mono ?_
  rintro e w1 ⟨rfl,rfl⟩
  go_wp2_with fail
  go_at_call 202
  refine (c00.out _ HQ.out).mono ?_
  rintro e w1 ⟨rfl,hq1⟩
  have HQ1:=lh (HQ.out.q hq1)
  have HR1:=lh (hq1.row HRw.out)
  obtain ⟨r0,r1,r2⟩:=frame_cells HR1.out
  clear hq1
  go_wp2_with fail
  go_at_call 202
  refine (c10.out _ HQ1.out).mono ?_
  exact qDRHf2
 ·rw [ex,ey] at HR
  rw [ex] at ax
  rw [ey] at ay
  clear ex ey
  go_enter Tryz.func154,Tryz.ntmps154
  go_wp2_with fail
  go_at_call 201
  refine (HD1.out _).mono ?_
  rintro e w1 ⟨rfl,rfl⟩
  go_wp2_with fail
  go_at_call 201
  refine (HD2.out _).mono ?_
  rintro e w1 ⟨rfl,rfl⟩
  go_wp2_with fail
  go_at_call 202
  refine (c00.out _ HQ.out).mono ?_
  rintro e w1 ⟨rfl,hq1⟩
  have HQ1:=lh (HQ.out.q hq1)
  have HR1:=lh (hq1.row HRw.out)
  obtain ⟨r0,r1,r2⟩:=frame_cells HR1.out
  clear hq1
  have wX:IntKind.i64.wrap (X+1)=X+1:=by rw [IntKind.wrap_i64];omega
  have wY:IntKind.i64.wrap (Y+1)=Y+1:=by rw [IntKind.wrap_i64];omega
  have e1:IntKind.i64.wrap (v00+v10)=v00+v10:=by rw [IntKind.wrap_i64];omega
  have e2:IntKind.i64.wrap (v00+v10+v01)=v00+v10+v01:=by rw [IntKind.wrap_i64];omega
  have e3:IntKind.i64.wrap (v00+v10+v01+v11)=v00+v10+v01+v11:=by rw [IntKind.wrap_i64];omega
  have e4:IntKind.i64.wrap (v00+v10+v01+v11+2)=v00+v10+v01+v11+2:=by rw [IntKind.wrap_i64];omega
  go_wp2_with fail
  have HQa:=lh (Only.refl [] w1)
  refine wp_region_held_drew (S:=(fun w'=>w'.cell? ⟨w.heap.size,0,none⟩=some (.int .i64 f.W)∧w'.cell? ⟨w.heap.size,1,none⟩=some (.int .i64 f.H)∧w'.cell? ⟨w.heap.size,2,none⟩=some (.slice a f.pix.length cap))) (by kernel_rfl) ?_ (fun hHeld=>?_)
  ·exact ⟨r0,r1,r2⟩
  refine tk 0 31 ?_
  refine tk 1 32 ?_
  refine tk 2 33 ?_
  refine tk 3 34 ?_
  refine tk 4 35 ?_
  refine tk 7 38 ?_
  refine tk 8 39 ?_
  refine tk 9 40 ?_
  refine tk 10 41 ?_
  refine tk 13 44 ?_
  refine tk 14 45 ?_
  refine tk 15 46 ?_
  refine tk 16 47 ?_
  refine tk 17 48 ?_
  refine rdy (rdc 5 36 (fun K hK=>?_) .nil)
  go_simp
  try simp only [wX,wY]
  go_at_call 202
  refine (c10.out _ HQ1.out.drew).mono ?_
  rintro e w2 ⟨rfl,hq2⟩
  have HQ2:=lh ((HQ1.out.drew).q hq2)
  have hr2:=(HQa.out.drew.q hq2).row HR1.out
  have hqp2:=HQa.out.drew.q hq2
  clear hq2
  refine hK.out _ _ ?_ (fun hHeld=>?_)
  ·exact frame_cells hr2
  clear hK K
  try simp only [Act.put,List.setIfInBounds_toArray,List.set_cons_zero,List.set_cons_succ]
  refine tk 6 37 ?_
  refine rdy (rdc 11 42 (fun K hK=>?_) .nil)
  go_simp
  try simp only [wX,wY]
  go_at_call 202
  refine (c01.out _ HQ2.out).mono ?_
  rintro e w3 ⟨rfl,hq3⟩
  have HQ3:=lh ((HQ2.out).q hq3)
  have hr3:=(hqp2.q hq3).row HR1.out
  have hqp3:=hqp2.q hq3
  clear hq3
  refine hK.out _ _ ?_ (fun hHeld=>?_)
  ·exact frame_cells hr3
  clear hK K
  try simp only [Act.put,List.setIfInBounds_toArray,List.set_cons_zero,List.set_cons_succ]
  refine tk 12 43 ?_
  refine rdy (rdc 18 49 (fun K hK=>?_) .nil)
  go_simp
  try simp only [wX,wY]
  go_at_call 202
  refine (c11.out _ HQ3.out).mono ?_
  rintro e w4 ⟨rfl,hq4⟩
  have HQ4:=lh ((HQ3.out).q hq4)
  have hr4:=(hqp3.q hq4).row HR1.out
  have hqp4:=hqp3.q hq4
  clear hq4
  refine hK.out _ _ ?_ (fun hHeld=>?_)
  ·exact frame_cells hr4
  clear hK K
  try simp only [Act.put,List.setIfInBounds_toArray,List.set_cons_zero,List.set_cons_succ]
  refine tk 19 50 ?_
  refine tk 20 51 ?_
  refine tk 21 52 ?_
  refine tk 22 6 ?_
  refine wpAnyH_done (by kernel_rfl) ?_ _
  clear hqp2 hqp3 hqp4 hr2 hr3 hr4
  try simp only [e1,e2,e3,e4]
  go_wp2_with fail
  refine HPost.out _ _ ⟨ret_int (by rw [HR.out];simp;rw [Int.tdiv_eq_ediv_of_nonneg (by omega),IntKind.wrap_i64];omega),HQ4.out⟩
end
end Go.Proofs.YtmgbbgffkakcaaaGreatDoor
