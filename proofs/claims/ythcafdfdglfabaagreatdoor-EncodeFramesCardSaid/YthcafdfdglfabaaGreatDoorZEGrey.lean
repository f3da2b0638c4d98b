/- A grey frame as a key frame: one byte. Conditions: the quantiser is one. -/
import Derived.Test.YthcafdfdglfabaaGreatDoorW2
namespace Go.Proofs.YthcafdfdglfabaaGreatDoor
open Go.RowKit
set_option linter.unusedVariables false
set_option linter.unusedSimpArgs false
set_option maxRecDepth 100000
set_option maxHeartbeats 16000000
def kw:ai:=⟨8,8,List.replicate 64 128⟩
def JJ (q:Nat):Bool:=decide ((cG kw dQ true q 0).2.lo=0) && decide ((cG kw dQ true q 0).1.pix=List.replicate 64 128) && decide ((cG kw dQ true q 0).1.W=8) && decide ((cG kw dQ true q 0).1.H=8)
theorem Fl:(List.range 16).all JJ=true:=Mh
theorem Fj:FrOk kw:=⟨Mn,Mn,Mn,Mn,Mn,Mn,Mn,fun x hx=>by have:=(List.mem_replicate.1 hx).2;omega⟩
theorem zl (src p:ai) (q:Int) (reach JkS:Nat):aI src p true q reach=aI src p true q JkS:=by
 funext c x y
 unfold aI;rw [if_pos rfl,if_pos rfl]
theorem Fm {prev:ai} {q reach:Nat} (hq:q<=15) (hr:reach<=7):bT kw prev true q reach=⟨1,[(q:Int)]⟩/\(cG kw prev true q reach).1=kw:=by
 have e:cG kw prev true q reach=cG kw dQ true q 0:=by
  rw [EH (p':=dQ) Fj hq hr];unfold cG;rw [zl kw dQ q reach 0]
 have h:=List.all_eq_true.1 Fl q (List.mem_range.2 Mf);unfold JJ at h;simp only [Bool.and_eq_true,decide_eq_true_eq] at h;obtain ⟨⟨⟨h1,h2⟩,h3⟩,h4⟩:=h;unfold bT;rw [e,De h1];refine ⟨rfl,?_⟩;generalize cG kw dQ true q 0=r at *
 obtain ⟨⟨w,hh,p⟩,m⟩:=r;simp only at h2 h3 h4;simp only [h2,h3,h4]
 rfl
end Go.Proofs.YthcafdfdglfabaaGreatDoor
