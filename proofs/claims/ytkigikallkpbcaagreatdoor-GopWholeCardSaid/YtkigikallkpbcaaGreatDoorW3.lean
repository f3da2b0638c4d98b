/- plane.Peak of two good frames that are near each other; quant.Bound of a good quantiser. Conditions: the frames read. -/
import Derived.Test.YtkigikallkpbcaaGreatDoorT1
import Derived.Test.YtkigikallkpbcaaGreatDoorL6
import Derived.Test.YtkigikallkpbcaaGreatDoorC1
namespace Go.Proofs.YtkigikallkpbcaaGreatDoor
open Go.RowKit
set_option linter.unusedVariables false
set_option linter.unusedSimpArgs false
set_option maxRecDepth 100000
set_option maxHeartbeats 16000000
section
theorem psize_any (v:Int) (h:NearI 255 v 0) (w:World):Calls Tryz.prog 66 #[.int .i64 v] w fun e w'=>(∃ p,e=.returned (.int .i64 p)∧0≤p∧(p=v∨p=-v))∧w=w':=by
 unfold NearI at h
 have e1:IntKind.i64.wrap (-v)=-v:=by rw [IntKind.wrap_i64];omega
 go_enter Tryz.func66,Tryz.ntmps66
 go_wp2
 all_goals
  go_ret
  exact ⟨⟨_,rfl,by omega,by omega⟩,rfl⟩
theorem pboth_ok {lo hi lo' hi':Nat} {av bv:Value} {a b:FrameD} {w:World} (ha:FrOk a) (hb:FrOk b) (hW:a.W=b.W) (hH:a.H=b.H) (h:Ints .i64 lo hi w av a.pix) (g:Ints .i64 lo' hi' w bv b.pix) :
  Calls Tryz.prog 65 #[.agg #[.int .i64 a.W,.int .i64 a.H,av],.agg #[.int .i64 b.W,.int .i64 b.H,bv]] w fun e w'=>e=.returned .nilIface∧Only [] w w':=by
 refine hidQ fun Q HPost=>?_
 have HMa:=lh (fun (W:World) (o:Only [] w W)=>pmay_any a.W a.H (h.quiet o))
 have HMb:=lh (fun (W:World) (o:Only [] w W)=>pmay_any b.W b.H (g.quiet o))
 rw [show (⟨a.W,a.H,a.pix⟩:FrameD)=a from rfl,mayF_iff.2 ha] at HMa
 rw [show (⟨b.W,b.H,b.pix⟩:FrameD)=b from rfl,mayF_iff.2 hb] at HMb
 obtain ⟨aa,ac,rfl,-⟩:=h.open
 obtain ⟨ba,bc,rfl,-⟩:=g.open
 rw [← hW,← hH] at HMb ⊢
 obtain ⟨hb1,HRa,HRb,-⟩:=boxes2 w (.cells #[.int .i64 a.W,.int .i64 a.H,.slice aa a.pix.length ac] 73) (.cells #[.int .i64 a.W,.int .i64 a.H,.slice ba b.pix.length bc] 73)
 have HQ1:=lh hb1
 clear h g ha hb hW hH hb1
 go_enter Tryz.func65,Tryz.ntmps65
 go_wp2_with fail
 go_at_call 79
 refine (HMa.out _ HQ1.out).mono ?_
 rintro e w2 ⟨rfl,hq2⟩
 have HQ2:=lh (HQ1.out.q hq2)
 have HRa2:=lh (hq2.row HRa.out)
 obtain ⟨p0,p1,p2⟩:=frame_cells (hq2.row HRb.out)
 have HRb2:=lh (hq2.row HRb.out)
 clear hq2 HRa HRb
 go_wp2_with fail
 clear p0 p1 p2
 go_at_call 79
 refine (HMb.out _ HQ2.out).mono ?_
 rintro e w3 ⟨rfl,hq3⟩
 have HQ3:=lh (HQ2.out.q hq3)
 obtain ⟨a0,a1,a2⟩:=frame_cells (hq3.row HRa2.out)
 obtain ⟨p0,p1,p2⟩:=frame_cells (hq3.row HRb2.out)
 clear hq3
 go_wp2_with fail
 exact HPost.out _ _ ⟨rfl,HQ3.out⟩
theorem peak_any {lo hi lo' hi':Nat} {av bv:Value} {a b:FrameD} {w:World} (n:Int) (hn:0≤n∧n≤255) (ha:FrOk a) (hb:FrOk b) (hW:a.W=b.W) (hH:a.H=b.H) (h:Ints .i64 lo hi w av a.pix) (g:Ints .i64 lo' hi' w bv b.pix) (hnr:∀ i,i<a.pix.length→NearI n (b.pix.getD i 0) (a.pix.getD i 0)) :
  Calls Tryz.prog 33 #[.agg #[.int .i64 a.W,.int .i64 a.H,av],.agg #[.int .i64 b.W,.int .i64 b.H,bv]] w fun e w'=>(∃ p,e=.returned (.tuple #[.int .i64 p,.nilIface])∧0≤p∧p≤n)∧Only [] w w':=by
 refine hidQ fun Q HPost=>?_
 have HBo:=lh (fun (W:World) (o:Only [] w W)=>pboth_ok ha hb hW hH (h.quiet o) (g.quiet o))
 have hab:a.pix.length=b.pix.length:=by
  have e1:=ha.len;have e2:=hb.len
  rw [hW,hH] at e1
  omega
 have Hnr:Hid (∀ i,i<a.pix.length→NearI n (b.pix.getD i 0) (a.pix.getD i 0)∧(0≤a.pix.getD i 0∧a.pix.getD i 0≤255)∧(0≤b.pix.getD i 0∧b.pix.getD i 0≤255)):=lh (fun i hi=>⟨hnr i hi,ha.sam.at i,hb.sam.at i⟩)
 have hll:(a.pix.length:Int)≤9223372036854775807:=by have:=h.1.len_le;unfold maxLen at this;omega
 obtain ⟨aa,ac,rfl,-,-,hat,hcell⟩:=h.open
 obtain ⟨ba,bc,rfl,-,-,hat',hcell'⟩:=g.open
 have HatA:=lh hat
 have HcA:=lh hcell
 have HatB:=lh hat'
 have HcB:=lh hcell'
 have Hab:=lh hab
 obtain ⟨hb1,HRa,HRb,-⟩:=boxes2 w (.cells #[.int .i64 a.W,.int .i64 a.H,.slice aa a.pix.length ac] 73) (.cells #[.int .i64 b.W,.int .i64 b.H,.slice ba b.pix.length bc] 73)
 have HQ1:=lh hb1
 have HN:=lh hn
 clear h g ha hb hW hH hb1 hat hat' hcell hcell' hab hnr hn
 obtain ⟨a0,a1,a2⟩:=frame_cells HRa.out
 obtain ⟨b0,b1,b2⟩:=frame_cells HRb.out
 go_enter Tryz.func33,Tryz.ntmps33
 go_wp2_with fail
 go_at_call 65
 refine (HBo.out _ HQ1.out).mono ?_
 rintro e w2 ⟨rfl,hq2⟩
 have HQ2:=lh (HQ1.out.q hq2)
 have HRb2:=lh (hq2.row HRb.out)
 clear a0 a1 a2 b0 b1 b2
 obtain ⟨a0,a1,a2⟩:=frame_cells (hq2.row HRa.out)
 clear hq2
 go_wp2_with fail
 clear a0 a1 a2
 go_loopw [7,19] (fun m i wr=>∃ (k:Nat) (x:Int),k≤a.pix.length∧i=.int .i64 k∧m=.int .i64 x∧Hid (0≤x∧x≤n)∧wr=w2) (fun _ i _=>a.pix.length-(intOf i).toNat)
 case atStart=>exact ⟨0,0,by omega,rfl,rfl,lh ⟨by omega,HN.out.1⟩,rfl⟩
 case round =>
  obtain ⟨k,x,hk,rfl,rfl,HX,rfl⟩:=hrel
  by_cases hlt:k<a.pix.length
  ·have hki:(k:Int)<(a.pix.length:Int):=by omega
   have hk0:(0:Int)≤(k:Int):=by omega
   have hkb:(k:Int)<(b.pix.length:Int):=by have:=Hab.out;omega
   obtain ⟨ga,oa,rfl,-,-⟩:=HatA.out k hlt
   obtain ⟨gb,ob,rfl,-,-⟩:=HatB.out k (by have:=Hab.out;omega)
   have hca:=HQ2.out.cell (HcA.out ga oa rfl k hlt) (by simp)
   have hcb:=HQ2.out.cell (HcB.out gb ob rfl k (by have:=Hab.out;omega)) (by simp)
   obtain ⟨b0,b1,b2⟩:=frame_cells HRb2.out
   obtain ⟨h1,h2,h3⟩:=Hnr.out k hlt
   generalize a.pix.getD k 0=u at *
   generalize b.pix.getD k 0=v at *
   unfold NearI at h1
   have e1:IntKind.i64.wrap (u-v)=u-v:=by rw [IntKind.wrap_i64];omega
   have HSz:=lh (psize_any (u-v) (by unfold NearI;omega))
   have H1:=lh h1
   have HK:=lh (And.intro hlt hk)
   clear h1 h2 h3
   go_wp2_with fail
   go_at_call 66
   refine (HSz.out _).mono ?_
   rintro e w3 ⟨⟨p,rfl,hp⟩,rfl⟩
   have HP:=lh hp
   clear hp
   go_wp2_with fail
   go_round
   case rel=>exact ⟨k+1,_,by have:=HK.out;omega,by go_num,rfl,lh (by have:=HX.out;have:=HP.out;have:=H1.out;first | omega | (split <;> omega)),by first | rfl | trivial⟩
   case measure=>simp [intOf];have:=HK.out;omega
  ·obtain rfl:k=a.pix.length:=by omega
   have hx:¬ (a.pix.length:Int)<(a.pix.length:Int):=by omega
   go_wp2_with fail
   exact HPost.out _ _ ⟨⟨x,rfl,HX.out⟩,HQ2.out⟩
theorem qbound_any (n:Nat) (hn:n≤15) (w:World):Calls Tryz.prog 34 #[.int .i64 n] w fun e w'=>e=.returned (.tuple #[.int .i64 (stepD n / 2),.nilIface])∧Only [] w w':=by
 refine hidQ fun Q HPost=>?_
 have hs:=stepD_in hn
 have HS:=lh (step_any n hn w)
 generalize stepD n=st at *
 have e1:st.tdiv 2=st / 2:=Int.tdiv_eq_ediv_of_nonneg hs.1
 have e2:IntKind.i64.wrap (st / 2)=st / 2:=by rw [IntKind.wrap_i64];omega
 clear hs
 go_enter Tryz.func34,Tryz.ntmps34
 go_wp2_with fail
 go_at_call 67
 refine HS.out.mono ?_
 rintro e w1 ⟨rfl,hq⟩
 have HQ:=lh hq
 clear hq
 go_wp2_with fail
 exact HPost.out _ _ ⟨rfl,HQ.out⟩
end
end Go.Proofs.YtkigikallkpbcaaGreatDoor
