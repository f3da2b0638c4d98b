/- Joined texts: DSqr, DPartsD, DCode. Conditions: each part names its own. -/
import Derived.Test.YthcafdfdglfabaaGreatDoorWC
import Derived.Test.YthcafdfdglfabaaGreatDoorWE
import Derived.Conc.MuLone
namespace Go.Proofs.YthcafdfdglfabaaGreatDoor
open Go.RowKit
set_option linter.unusedVariables false
set_option linter.unusedSimpArgs false
set_option maxRecDepth 100000
set_option maxHeartbeats 16000000
abbrev aj:Value:=.slice none 0 0
def sqL (k mo:Int) (ms:List Int) (vx vy:Int) (lv:Value) (vs:List Value):List Value :=
 [.int .i64 k,.int .i64 mo] ++ ms.map (.int .i64 ·) ++ [.int .i64 vx,.int .i64 vy,lv] ++ vs
theorem gH {α:Type} {l:List α} (h:l.length=4):∃ a b c d,l=[a,b,c,d]:=by
 match l,h with
 | [a,b,c,d],_=>exact ⟨a,b,c,d,rfl⟩
section
variable {k mo:Int} {ms:List Int} {vx vy:Int} {lv:Value} {vs:List Value}
theorem jM (hm:ms.length=4) (hv:vs.length=4):(sqL k mo ms vx vy lv vs).length=13:=by simp [sqL,hm,hv]
theorem ib:(sqL k mo ms vx vy lv vs).toArray[0]?=some (.int .i64 k):=rfl
theorem gw (hm:ms.length=4) {i:Nat} (hi:i<4):(sqL k mo ms vx vy lv vs).toArray[2+i]?=some (.int .i64 (ms.getD i 0)):=by
 obtain ⟨a,b,c,d,rfl⟩:=gH hm
 match i,hi with
 | 0,_=>rfl
 | 1,_=>rfl
 | 2,_=>rfl
 | 3,_=>rfl
theorem dy (hm:ms.length=4) (hv:vs.length=4) {i:Nat} (hi:i<4):(sqL k mo ms vx vy lv vs).toArray[9+i]?=some (vs.getD i aj):=by
 obtain ⟨a,b,c,d,rfl⟩:=gH hm;obtain ⟨e,f,g,h,rfl⟩:=gH hv
 match i,hi with
 | 0,_=>rfl
 | 1,_=>rfl
 | 2,_=>rfl
 | 3,_=>rfl
theorem jL (hm:ms.length=4):(sqL k mo ms vx vy lv vs).toArray[8]?=some lv:=by
 obtain ⟨a,b,c,d,rfl⟩:=gH hm
 rfl
theorem pV (hm:ms.length=4) {i:Nat} (hi:i<4) (x:Int):(sqL k mo ms vx vy lv vs).toArray.setIfInBounds (2+i) (.int .i64 x)=(sqL k mo (ms.set i x) vx vy lv vs).toArray:=by
 obtain ⟨a,b,c,d,rfl⟩:=gH hm
 match i,hi with
 | 0,_=>simp [sqL]
 | 1,_=>simp [sqL]
 | 2,_=>simp [sqL]
 | 3,_=>simp [sqL]
theorem oH (hm:ms.length=4) (hv:vs.length=4) {i:Nat} (hi:i<4) (x:Value):(sqL k mo ms vx vy lv vs).toArray.setIfInBounds (9+i) x=(sqL k mo ms vx vy lv (vs.set i x)).toArray:=by
 obtain ⟨a,b,c,d,rfl⟩:=gH hm;obtain ⟨e,f,g,h,rfl⟩:=gH hv
 match i,hi with
 | 0,_=>simp [sqL]
 | 1,_=>simp [sqL]
 | 2,_=>simp [sqL]
 | 3,_=>simp [sqL]
theorem sg (x:Int):(sqL k mo ms vx vy lv vs).toArray.setIfInBounds 0 (.int .i64 x)=(sqL x mo ms vx vy lv vs).toArray:=by
 simp [sqL]
end
abbrev bI (O:Nat) (w:World) (k mo:Int) (ms:List Int) (vx vy:Int) (lv:Value) (vs:List Value):Prop :=
 w.heap[O]?=some (.cells (sqL k mo ms vx vy lv vs).toArray 76 (0,0))
structure dU (lo hi:Nat) (w:World) (lv:Value) (vs:List Value) (L:List Int) (S:List (List Int)):Prop where
 large:ah .i64 lo hi w lv L
 len:vs.length=4
 small:∀ i,i<4->ah .i64 lo hi w (vs.getD i aj) (S.getD i [])
theorem dU.only {lo hi:Nat} {w w':World} {lv:Value} {vs:List Value} {L:List Int} {S:List (List Int)} {T:List Nat} (h:dU lo hi w lv vs L S) (o:ae T w w') (hT:∀ g∈T,g<lo\/hi<=g):dU lo hi w' lv vs L S :=
 ⟨h.large.only o hT,h.len,fun i hi=>(h.small i hi).only o hT⟩
section
variable {O:Nat} {w:World} {k mo:Int} {ms:List Int} {vx vy:Int} {lv:Value} {vs:List Value}
theorem bI.set (h:bI O w k mo ms vx vy lv vs) {i:Nat} {x:Value} {k' mo':Int} {ms':List Int} {vx' vy':Int} {lv':Value} {vs':List Value} (e:(sqL k mo ms vx vy lv vs).toArray.setIfInBounds i x=(sqL k' mo' ms' vx' vy' lv' vs').toArray) :
  bI O (w.setCell ⟨O,i,none⟩ x) k' mo' ms' vx' vy' lv' vs'/\ae [O] w (w.setCell ⟨O,i,none⟩ x):=by
 have hr:=heap_setCell_same w O i _ _ x h;rw [e] at hr;exact ⟨hr,(ae.refl _ _).setCell Mg _⟩
theorem bI.cell (h:bI O w k mo ms vx vy lv vs) {i:Nat} {x:Value} (e:(sqL k mo ms vx vy lv vs).toArray[i]?=some x):w.cell? ⟨O,i,none⟩=some x:=by
 rw [cell_of_row _ _ _ _ _ _ h,e]
end
theorem uB {ms:List Int} (h:ms.length=4) {k:Nat} (hk:k<4) (x:Int):(ms.set k x).take (k+1)=ms.take k ++ [x]:=by
 obtain ⟨a,b,c,d,rfl⟩:=gH h
 match k,hk with
 | 0,_=>rfl
 | 1,_=>rfl
 | 2,_=>rfl
 | 3,_=>rfl
section
variable {lo hi R D O lo' hi':Nat} {bv v lv:Value} {vs:List Value} {w:World} {m:Mod}
end
section
variable {P:Program}
end
theorem dO {k mo:Int} {ms:List Int} {vx vy:Int} {lv:Value} {vs:List Value} (hl:lv.oneCell'=true) (hv:∀ v∈vs,v.oneCell'=true):(sqL k mo ms vx vy lv vs).toArray.all (·.oneCell')=true:=by
 rw [Array.all_eq_true_iff_forall_mem];intro v h;simp only [sqL,List.mem_toArray,List.mem_append,Lh,List.mem_map,Li,or_false] at h;rcases h with (((rfl | rfl) | ⟨x,_,rfl⟩) | (rfl | rfl | rfl)) | h
 ·rfl
 ·rfl
 ·rfl
 ·rfl
 ·rfl
 ·exact hl
 ·exact hv v h
theorem iP:∀ v∈[aj,aj,aj,aj],v.oneCell'=true:=by
 intro v h;simp only [Lh,Li,or_false,or_self] at h;rw [h];rfl
theorem ia {k mo:Int} {ms:List Int} {vx vy:Int} {lv:Value} {vs:List Value} (hm:ms.length=4) (hv:vs.length=4):(Tryz.prog.info? 76).map (·.size)=some (sqL k mo ms vx vy lv vs).toArray.size:=by
 rw [List.size_toArray,jM hm hv];kernel_rfl
theorem dh {k mo:Int} {ms:List Int} {vx vy:Int} {lv:Value} {vs:List Value} {k' mo':Int} {ms':List Int} {vx' vy':Int} {lv':Value} {vs':List Value} (hm:ms.length=4) (hv:vs.length=4) (hm':ms'.length=4) (hv':vs'.length=4):(sqL k mo ms vx vy lv vs).toArray.size=(sqL k' mo' ms' vx' vy' lv' vs').toArray.size:=by
 rw [List.size_toArray,List.size_toArray,jM hm hv,jM hm' hv']
theorem dM {P:Program} {fn:Func} {p q:Tmp} {ty:TypeId} (h:fn.results=#[.cell p ty,.tmp q]) (Oe:Array Value) (w:World) (g:Nat) (t:TypeId) (cs:Array Value) (fr:Nat×Nat) (d:TypeDesc) (v:Value)
  (hp:Oe.getD p undef=.pointer (some ⟨g,0,none⟩)) (hq:Oe.getD q undef=v) (hg:w.heap[g]?=some (.cells cs t fr))
  (hu:P.underlying ty=some d) (hd:(match d with | .struct _ | .array _ _=>true | _=>false)=true) (hi:(P.info? ty).map (·.size)=some cs.size) :
  (results fn Oe).run P w=.ok (.tuple #[.agg cs,v]) w:=by
 have hp':Oe[p]?.getD undef=.pointer (some ⟨g,0,none⟩):=MD;have hq':Oe[q]?.getD undef=v:=ME;simp [results,h,hp',hq',asAddr,run_loadVar_row w g t ty cs fr d hg hu hd hi]
theorem dU.one {lo hi:Nat} {w:World} {lv:Value} {vs:List Value} {L:List Int} {S:List (List Int)} (h:dU lo hi w lv vs L S):lv.oneCell'=true/\∀ v∈vs,v.oneCell'=true:=by
 refine ⟨by obtain ⟨a,c,e,-⟩:=h.large.open;rw [e];rfl,fun v hv=>?_⟩;obtain ⟨i,hi,rfl⟩:=List.mem_iff_getElem.1 hv;obtain ⟨a,c,e,-⟩:=(h.small i (by have:=h.len;omega)).open;rw [Le,Lf hi] at e;simp only [Option.getD_some] at e;rw [e];rfl
end Go.Proofs.YthcafdfdglfabaaGreatDoor
