/- A grey frame as a key frame: one byte. Conditions: the quantiser is one. -/
import Derived.Test.YtmgbbgffkakcaaaGreatDoorW2
namespace Go.Proofs.YtmgbbgffkakcaaaGreatDoor
open Go.RowKit
set_option linter.unusedVariables false
set_option linter.unusedSimpArgs false
set_option maxRecDepth 100000
set_option maxHeartbeats 16000000
def greyF:FrameD:=⟨8,8,List.replicate 64 128⟩
def greyT (q:Nat):Bool:=decide ((encF greyF frame0 true q 0).2.lo=0) && decide ((encF greyF frame0 true q 0).1.pix=List.replicate 64 128) && decide ((encF greyF frame0 true q 0).1.W=8) && decide ((encF greyF frame0 true q 0).1.H=8)
theorem grey_all:(List.range 16).all greyT=true:=by kernel_rfl
theorem greyF_ok:FrOk greyF:=⟨by decide,by decide,by decide,by decide,by decide,by decide,by decide,fun x hx=>by have:=(List.mem_replicate.1 hx).2;omega⟩
theorem choose_key (src p:FrameD) (q:Int) (reach reach':Nat):chooseE src p true q reach=chooseE src p true q reach':=by
 funext c x y
 unfold chooseE
 rw [if_pos rfl,if_pos rfl]
/-- a grey frame, as a key frame: one byte; it is built as it is -/
theorem grey_enc {prev:FrameD} {q reach:Nat} (hq:q≤15) (hr:reach≤7):codedE greyF prev true q reach=⟨1,[(q:Int)]⟩∧(encF greyF prev true q reach).1=greyF:=by
 have e:encF greyF prev true q reach=encF greyF frame0 true q 0:=by
  rw [enc_keys (p':=frame0) greyF_ok hq hr]
  unfold encF
  rw [choose_key greyF frame0 q reach 0]
 have h:=List.all_eq_true.1 grey_all q (List.mem_range.2 (by omega))
 unfold greyT at h
 simp only [Bool.and_eq_true,decide_eq_true_eq] at h
 obtain ⟨⟨⟨h1,h2⟩,h3⟩,h4⟩:=h
 unfold codedE
 rw [e,endW_none h1]
 refine ⟨rfl,?_⟩
 generalize encF greyF frame0 true q 0=r at *
 obtain ⟨⟨w,hh,p⟩,m⟩:=r
 simp only at h2 h3 h4
 simp only [h2,h3,h4]
 rfl
end Go.Proofs.YtmgbbgffkakcaaaGreatDoor
