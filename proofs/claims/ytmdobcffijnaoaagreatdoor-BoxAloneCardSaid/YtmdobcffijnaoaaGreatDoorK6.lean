/- Joined texts: DSqr, DPartsA, DPartsB, DPartsC, DPartsD, DCode. Conditions: each part names its own. -/
import Derived.Test.YtmdobcffijnaoaaGreatDoorT1
import Derived.Test.YtmdobcffijnaoaaGreatDoorZERd48
import Derived.Test.YtmdobcffijnaoaaGreatDoorS2
namespace Go.Proofs.YtmdobcffijnaoaaGreatDoor
open Go.RowKit
set_option linter.unusedVariables false
set_option linter.unusedSimpArgs false
set_option maxRecDepth 100000
set_option maxHeartbeats 16000000
abbrev nilS:Value:=.slice none 0 0
/-- the cells of a square -/
def sqL (k mo:Int) (ms:List Int) (vx vy:Int) (lv:Value) (vs:List Value):List Value :=
 [.int .i64 k,.int .i64 mo] ++ ms.map (.int .i64 ·) ++ [.int .i64 vx,.int .i64 vy,lv] ++ vs
theorem len4 {α:Type} {l:List α} (h:l.length=4):∃ a b c d,l=[a,b,c,d]:=by
 match l,h with
 | [a,b,c,d],_=>exact ⟨a,b,c,d,rfl⟩
section
variable {k mo:Int} {ms:List Int} {vx vy:Int} {lv:Value} {vs:List Value}
theorem sqL_size (hm:ms.length=4) (hv:vs.length=4):(sqL k mo ms vx vy lv vs).length=13:=by simp [sqL,hm,hv]
theorem sqL_kind:(sqL k mo ms vx vy lv vs).toArray[0]?=some (.int .i64 k):=rfl
theorem sqL_mode (hm:ms.length=4) {i:Nat} (hi:i<4):(sqL k mo ms vx vy lv vs).toArray[2+i]?=some (.int .i64 (ms.getD i 0)):=by
 obtain ⟨a,b,c,d,rfl⟩:=len4 hm
 match i,hi with
 | 0,_=>rfl
 | 1,_=>rfl
 | 2,_=>rfl
 | 3,_=>rfl
theorem sqL_small (hm:ms.length=4) (hv:vs.length=4) {i:Nat} (hi:i<4):(sqL k mo ms vx vy lv vs).toArray[9+i]?=some (vs.getD i nilS):=by
 obtain ⟨a,b,c,d,rfl⟩:=len4 hm
 obtain ⟨e,f,g,h,rfl⟩:=len4 hv
 match i,hi with
 | 0,_=>rfl
 | 1,_=>rfl
 | 2,_=>rfl
 | 3,_=>rfl
theorem sqL_setMode (hm:ms.length=4) {i:Nat} (hi:i<4) (x:Int):(sqL k mo ms vx vy lv vs).toArray.setIfInBounds (2+i) (.int .i64 x)=(sqL k mo (ms.set i x) vx vy lv vs).toArray:=by
 obtain ⟨a,b,c,d,rfl⟩:=len4 hm
 match i,hi with
 | 0,_=>simp [sqL]
 | 1,_=>simp [sqL]
 | 2,_=>simp [sqL]
 | 3,_=>simp [sqL]
theorem sqL_setSmall (hm:ms.length=4) (hv:vs.length=4) {i:Nat} (hi:i<4) (x:Value):(sqL k mo ms vx vy lv vs).toArray.setIfInBounds (9+i) x=(sqL k mo ms vx vy lv (vs.set i x)).toArray:=by
 obtain ⟨a,b,c,d,rfl⟩:=len4 hm
 obtain ⟨e,f,g,h,rfl⟩:=len4 hv
 match i,hi with
 | 0,_=>simp [sqL]
 | 1,_=>simp [sqL]
 | 2,_=>simp [sqL]
 | 3,_=>simp [sqL]
theorem sqL_setLarge (hm:ms.length=4) (x:Value):(sqL k mo ms vx vy lv vs).toArray.setIfInBounds 8 x=(sqL k mo ms vx vy x vs).toArray:=by
 obtain ⟨a,b,c,d,rfl⟩:=len4 hm
 simp [sqL]
theorem sqL_setX (hm:ms.length=4) (x:Int):(sqL k mo ms vx vy lv vs).toArray.setIfInBounds 6 (.int .i64 x)=(sqL k mo ms x vy lv vs).toArray:=by
 obtain ⟨a,b,c,d,rfl⟩:=len4 hm
 simp [sqL]
theorem sqL_setY (hm:ms.length=4) (x:Int):(sqL k mo ms vx vy lv vs).toArray.setIfInBounds 7 (.int .i64 x)=(sqL k mo ms vx x lv vs).toArray:=by
 obtain ⟨a,b,c,d,rfl⟩:=len4 hm
 simp [sqL]
theorem sqL_setMo (x:Int):(sqL k mo ms vx vy lv vs).toArray.setIfInBounds 1 (.int .i64 x)=(sqL k x ms vx vy lv vs).toArray:=by
 simp [sqL]
theorem sqL_setK (x:Int):(sqL k mo ms vx vy lv vs).toArray.setIfInBounds 0 (.int .i64 x)=(sqL x mo ms vx vy lv vs).toArray:=by
 simp [sqL]
end
/-- a square in its block -/
abbrev SqRow (O:Nat) (w:World) (k mo:Int) (ms:List Int) (vx vy:Int) (lv:Value) (vs:List Value):Prop :=
 w.heap[O]?=some (.cells (sqL k mo ms vx vy lv vs).toArray 137 (0,0))
/-- the lists that a square's cells name -/
structure SqIn (lo hi:Nat) (w:World) (lv:Value) (vs:List Value) (L:List Int) (S:List (List Int)):Prop where
 large:Ints .i64 lo hi w lv L
 len:vs.length=4
 small:∀ i,i<4→Ints .i64 lo hi w (vs.getD i nilS) (S.getD i [])
theorem SqIn.only {lo hi:Nat} {w w':World} {lv:Value} {vs:List Value} {L:List Int} {S:List (List Int)} {T:List Nat} (h:SqIn lo hi w lv vs L S) (o:Only T w w') (hT:∀ g∈T,g<lo∨hi≤g):SqIn lo hi w' lv vs L S :=
 ⟨h.large.only o hT,h.len,fun i hi=>(h.small i hi).only o hT⟩
/-- a square, in its block -/
def SqAt (O base:Nat) (w:World) (s:SqD):Prop :=
 ∃ lv vs,SqRow O w s.kind s.mode s.modes s.vx s.vy lv vs∧s.modes.length=4∧SqIn base w.heap.size w lv vs s.large s.small
/-- the square that is asked: all zero -/
structure AskV (lo hi:Nat) (w:World) (v:Value) (lv:Value) (vs:List Value):Prop where
 eq:v=.agg (sqL 0 0 [0,0,0,0] 0 0 lv vs).toArray
 large:Ints .i64 lo hi w lv (List.replicate 64 0)
 len:vs.length=4
 small:∀ i,i<4→Ints .i64 lo hi w (vs.getD i nilS) (List.replicate 16 0)
/-- what a square's parts are handed back as -/
def PartsP (lo hi R D O:Nat) (bv:Value) (w:World) (k:Int) (r:Except Err SqD×Mod) (e:Ending) (w':World):Prop :=
 Only [R,D,O] w w'∧ModAt lo hi R D bv w' r.2∧match r.1 with
  | .ok s=>e=.returned .nilIface∧SqAt O w.heap.size w' s
  | .error er=>∃ ev,e=.returned ev∧ErrV w.heap.size w'.heap.size w' ev er∧w'.cell? ⟨O,0,none⟩=some (.int .i64 k)
section
variable {O:Nat} {w:World} {k mo:Int} {ms:List Int} {vx vy:Int} {lv:Value} {vs:List Value}
theorem SqRow.set (h:SqRow O w k mo ms vx vy lv vs) {i:Nat} {x:Value} {k' mo':Int} {ms':List Int} {vx' vy':Int} {lv':Value} {vs':List Value} (e:(sqL k mo ms vx vy lv vs).toArray.setIfInBounds i x=(sqL k' mo' ms' vx' vy' lv' vs').toArray) :
  SqRow O (w.setCell ⟨O,i,none⟩ x) k' mo' ms' vx' vy' lv' vs'∧Only [O] w (w.setCell ⟨O,i,none⟩ x):=by
 have hr:=heap_setCell_same w O i _ _ x h
 rw [e] at hr
 exact ⟨hr,(Only.refl _ _).setCell (by simp) _⟩
theorem SqRow.cell (h:SqRow O w k mo ms vx vy lv vs) {i:Nat} {x:Value} (e:(sqL k mo ms vx vy lv vs).toArray[i]?=some x):w.cell? ⟨O,i,none⟩=some x:=by
 rw [cell_of_row _ _ _ _ _ _ h,e]
end
/-- the asked square, opened: its block's cells -/
theorem AskV.open {lo hi:Nat} {w:World} {v lv:Value} {vs:List Value} (h:AskV lo hi w v lv vs) :
  ∃ la lc a0 c0 a1 c1 a2 c2 a3 c3,lv=.slice la 64 lc∧vs=[.slice a0 16 c0,.slice a1 16 c1,.slice a2 16 c2,.slice a3 16 c3]:=by
 obtain ⟨la,lc,h1,-⟩:=h.large.open
 obtain ⟨v0,v1,v2,v3,rfl⟩:=len4 h.len
 obtain ⟨a0,c0,e0,-⟩:=(h.small 0 (by omega)).open
 obtain ⟨a1,c1,e1,-⟩:=(h.small 1 (by omega)).open
 obtain ⟨a2,c2,e2,-⟩:=(h.small 2 (by omega)).open
 obtain ⟨a3,c3,e3,-⟩:=(h.small 3 (by omega)).open
 simp only [List.getD_cons_zero,List.getD_cons_succ,List.length_replicate] at h1 e0 e1 e2 e3
 exact ⟨la,lc,a0,c0,a1,c1,a2,c2,a3,c3,h1,by rw [e0,e1,e2,e3]⟩
/-- the block that the asked square is put into -/
abbrev askObj (lv:Value) (vs:List Value):Obj:=.cells (sqL 0 0 [0,0,0,0] 0 0 lv vs).toArray 137
theorem ask_row (w:World) (lv:Value) (vs:List Value):SqRow w.heap.size (w.alloc (askObj lv vs)) 0 0 [0,0,0,0] 0 0 lv vs:=heap_alloc_new _ _
section
variable {lo hi R D O lo' hi':Nat} {bv v lv:Value} {vs:List Value} {w:World} {m:Mod}
theorem parts_zero (h:ModAt lo hi R D bv w m) (ha:AskV lo' hi' w v lv vs) (ho:SqRow O w 0 0 [0,0,0,0] 0 0 nilS [nilS,nilS,nilS,nilS]) :
  Calls Tryz.prog 99 #[cv R,v,.pointer (some ⟨O,0,none⟩)] w (PartsP lo hi R D O bv w 0 (partsD 0 m)):=by
 refine hidQ fun Q HPost=>?_
 obtain ⟨la,lc,a0,c0,a1,c1,a2,c2,a3,c3,rfl,rfl⟩:=ha.open
 have e:=ha.eq
 simp only [sqL,List.map_cons,List.map_nil,List.cons_append,List.nil_append] at e
 subst e
 have k0:=fun o=>(Only.new w o).cell (ho.cell sqL_kind) (by simp)
 have HQ:=lh (Only.new w)
 have HK:=lh h
 have HO:=lh ho
 clear h ho ha
 go_enter Tryz.func99,Tryz.ntmps99
 go_wp2_with fail
 refine HPost.out _ _ ?_
 exact ⟨(HQ.out _).mono (U:=[R,D,O]) (by simp),HK.out.quiet (HQ.out _),rfl,_,_,(HQ.out _).rowAt HO.out (by simp),rfl,Ints.nil _ _ _ _,rfl,fun i hi=>by
  match i,hi with
  | 0,_=>exact Ints.nil _ _ _ _
  | 1,_=>exact Ints.nil _ _ _ _
  | 2,_=>exact Ints.nil _ _ _ _
  | 3,_=>exact Ints.nil _ _ _ _⟩
end
section
variable {lo hi R D O lo' hi':Nat} {bv v lv:Value} {vs:List Value} {w:World} {m:Mod}
theorem parts_move (h:ModAt lo hi R D bv w m) (ha:AskV lo' hi' w v lv vs) (hR:R<lo'∨hi'≤R) (hD:D<lo'∨hi'≤D) (hw:hi'≤w.heap.size) (hO:hi≤O∧O≠R∧O≠D∧(O<lo'∨hi'≤O)) (ho:SqRow O w 1 0 [0,0,0,0] 0 0 nilS [nilS,nilS,nilS,nilS]) (hp:m.d.pos≤590000000) :
  Calls Tryz.prog 99 #[cv R,v,.pointer (some ⟨O,0,none⟩)] w (PartsP lo hi R D O bv w 1 (partsD 1 m)):=by
 refine hidQ fun Q HPost=>?_
 have Hlarge:=lh ha.large
 obtain ⟨la,lc,a0,c0,a1,c1,a2,c2,a3,c3,rfl,rfl⟩:=ha.open
 have e:=ha.eq
 simp only [sqL,List.map_cons,List.map_nil,List.cons_append,List.nil_append] at e
 subst e
 have hq1:Only [] w (w.alloc (.cells #[.int .i64 0,.int .i64 0,.int .i64 0,.int .i64 0,.int .i64 0,.int .i64 0,.int .i64 0,.int .i64 0,.slice la 64 lc,.slice a0 16 c0,.slice a1 16 c1,.slice a2 16 c2,.slice a3 16 c3] 137)):=Only.new w _
 have k0:=hq1.cell (ho.cell sqL_kind) (by simp)
 have hr:SqRow w.heap.size (w.alloc (.cells #[.int .i64 0,.int .i64 0,.int .i64 0,.int .i64 0,.int .i64 0,.int .i64 0,.int .i64 0,.int .i64 0,.slice la 64 lc,.slice a0 16 c0,.slice a1 16 c1,.slice a2 16 c2,.slice a3 16 c3] 137)) 0 0 [0,0,0,0] 0 0 (.slice la 64 lc) [.slice a0 16 c0,.slice a1 16 c1,.slice a2 16 c2,.slice a3 16 c3]:=ask_row w (.slice la 64 lc) [.slice a0 16 c0,.slice a1 16 c1,.slice a2 16 c2,.slice a3 16 c3]
 have b6:=hr.cell (i:=6) (x:=.int .i64 0) rfl
 have b1:=hr.cell (i:=1) (x:=.int .i64 0) rfl
 have HOw:Hid (SqRow O (w.alloc (.cells #[.int .i64 0,.int .i64 0,.int .i64 0,.int .i64 0,.int .i64 0,.int .i64 0,.int .i64 0,.int .i64 0,.slice la 64 lc,.slice a0 16 c0,.slice a1 16 c1,.slice a2 16 c2,.slice a3 16 c3] 137)) 1 0 [0,0,0,0] 0 0 nilS [nilS,nilS,nilS,nilS]):=lh (hq1.rowAt ho (by simp))
 have HKw:=lh (h.quiet hq1)
 have HLw:=lh (Hlarge.out.quiet hq1)
 have HBw:=lh hr
 have HQ0:=lh hq1
 have hlt:=h.lt
 have hOl:O<w.heap.size:=(Array.getElem?_eq_some_iff.1 ho).1
 have HON:Hid (O∉[R,D]):=lh (by simp only [List.mem_cons,List.not_mem_nil,or_false];omega)
 have HBN:Hid (w.heap.size∉[R,D]):=lh (by simp only [List.mem_cons,List.not_mem_nil,or_false];omega)
 have HBO:Hid (w.heap.size∉[O]):=lh (by simp only [mSg];omega)
 have HOK:Hid (∀ g∈[O],hi≤g∧g≠R∧g≠D):=lh (by simp only [mSg];rintro g rfl;exact ⟨hO.1,hO.2.1,hO.2.2.1⟩)
 have HLT:Hid (∀ g∈[R,D,O],g<lo'∨hi'≤g):=lh (by
  intro g hg
  simp only [List.mem_cons,List.not_mem_nil,or_false] at hg
  rcases hg with hg | hg | hg <;> rw [hg]
  exact hR
  exact hD
  exact hO.2.2.2)
 have hsz:=hq1.size
 have HQw:Hid (Only [R,D,O] (w.alloc (.cells #[.int .i64 0,.int .i64 0,.int .i64 0,.int .i64 0,.int .i64 0,.int .i64 0,.int .i64 0,.int .i64 0,.slice la 64 lc,.slice a0 16 c0,.slice a1 16 c1,.slice a2 16 c2,.slice a3 16 c3] 137)) (w.alloc (.cells #[.int .i64 0,.int .i64 0,.int .i64 0,.int .i64 0,.int .i64 0,.int .i64 0,.int .i64 0,.int .i64 0,.slice la 64 lc,.slice a0 16 c0,.slice a1 16 c1,.slice a2 16 c2,.slice a3 16 c3] 137))):=lh (Only.refl _ _)
 have HN:=lh (And.intro hw (And.intro hR hD))
 have HKok:=lh h.ok
 have HLt:=lh (And.intro hlt.1 (And.intro hlt.2 hOl))
 clear h ho ha hr hq1 hw hO hR hD hlt hOl
 have hpa:=(partD_adv HKok.out).1
 have hpp:=hpa.pos
 have hpb:=(partD_adv hpa.ok).1
 have hpp2:=hpb.pos
 have HF:Hid (partsD 1 m=match (coefD 8 (partD (partD m).2).2).1 with
   | .error e=>(.error e,(coefD 8 (partD (partD m).2).2).2)
   | .ok l=>(.ok ⟨1,0,[0,0,0,0],(partD m).1,(partD (partD m).2).1,l,[[],[],[],[]]⟩,(coefD 8 (partD (partD m).2).2).2)):=lh rfl
 have Hok3:=lh hpb.ok
 clear hpa hpb
 generalize hP1:partD m=P1 at *
 obtain ⟨x,m1⟩:=P1
 simp only at hpp hpp2 HF Hok3
 generalize hP2:partD m1=P2 at *
 obtain ⟨y,m2⟩:=P2
 simp only at hpp2 HF Hok3
 have HL1:=lh (fun (W:World) (hk:ModAt lo hi R D bv W m)=>hP1 ▸ mpart_any hk (by omega))
 have HL2:=lh (fun (W:World) (hk:ModAt lo hi R D bv W m1)=>hP2 ▸ mpart_any hk (by omega))
 clear hP1 hP2
 go_enter Tryz.func99,Tryz.ntmps99
 go_wp2_with fail
 clear b6 b1 k0
 generalize World.alloc w _=W1 at *
 have HOW1:=HOw
 have HBW1:=HBw
 have HKW1:=HKw
 have HQW1:=HQw
 clear HOw HBw HKw HQw
 go_at_call 143
 refine (HL1.out _ HKW1.out).mono ?_
 rintro e w2 ⟨rfl,hk,hq⟩
 have ho:SqRow O w2 1 0 [0,0,0,0] 0 0 nilS [nilS,nilS,nilS,nilS]:=hq.rowAt HOW1.out HON.out
 have hb:SqRow w.heap.size w2 0 0 [0,0,0,0] 0 0 (.slice la 64 lc) [.slice a0 16 c0,.slice a1 16 c1,.slice a2 16 c2,.slice a3 16 c3]:=hq.rowAt HBW1.out HBN.out
 have cx:=ho.cell (i:=6) (x:=.int .i64 0) rfl
 have fx:=frozen_of_row _ _ 6 _ _ ho
 obtain ⟨hs,hso⟩:=ho.set (i:=6) (sqL_setX rfl x)
 have hbs:SqRow w.heap.size _ 0 0 [0,0,0,0] 0 0 (.slice la 64 lc) [.slice a0 16 c0,.slice a1 16 c1,.slice a2 16 c2,.slice a3 16 c3]:=hso.rowAt hb HBO.out
 have b8x:=hbs.cell (i:=8) (x:=.slice la 64 lc) rfl
 have b7x:=hbs.cell (i:=7) (x:=.int .i64 0) rfl
 have HOs:=lh hs
 have HBs:=lh hbs
 have HKs:=lh (hk.only hso HOK.out)
 have HQs:=lh ((HQW1.out.three hq).third hso)
 clear hk hq ho hb hs hso hbs
 go_wp2_with fail
 clear cx fx b8x b7x
 generalize World.setCell w2 _ _=W2 at *
 have HOW2:=HOs
 have HBW2:=HBs
 have HKW2:=HKs
 have HQW2:=HQs
 clear HOs HBs HKs HQs HOW1 HBW1 HKW1 HQW1
 go_at_call 143
 refine (HL2.out _ HKW2.out).mono ?_
 rintro e w2 ⟨rfl,hk,hq⟩
 have ho:SqRow O w2 1 0 [0,0,0,0] x 0 nilS [nilS,nilS,nilS,nilS]:=hq.rowAt HOW2.out HON.out
 have hb:SqRow w.heap.size w2 0 0 [0,0,0,0] 0 0 (.slice la 64 lc) [.slice a0 16 c0,.slice a1 16 c1,.slice a2 16 c2,.slice a3 16 c3]:=hq.rowAt HBW2.out HBN.out
 have cx:=ho.cell (i:=7) (x:=.int .i64 0) rfl
 have fx:=frozen_of_row _ _ 7 _ _ ho
 obtain ⟨hs,hso⟩:=ho.set (i:=7) (sqL_setY rfl y)
 have hbs:SqRow w.heap.size _ 0 0 [0,0,0,0] 0 0 (.slice la 64 lc) [.slice a0 16 c0,.slice a1 16 c1,.slice a2 16 c2,.slice a3 16 c3]:=hso.rowAt hb HBO.out
 have b8x:=hbs.cell (i:=8) (x:=.slice la 64 lc) rfl
 have b7x:=hbs.cell (i:=7) (x:=.int .i64 0) rfl
 have HOs:=lh hs
 have HBs:=lh hbs
 have HKs:=lh (hk.only hso HOK.out)
 have HQs:=lh ((HQW2.out.three hq).third hso)
 clear hk hq ho hb hs hso hbs
 go_wp2_with fail
 clear cx fx b8x b7x
 generalize World.setCell w2 _ _=W3 at *
 have HOW3:=HOs
 have HBW3:=HBs
 have HKW3:=HKs
 have HQW3:=HQs
 clear HOs HBs HKs HQs HOW2 HBW2 HKW2 HQW2
 have HLW3:=lh (HLw.out.only HQW3.out HLT.out)
 have hzW:=HQW3.out.size
 generalize hC8:coefD 8 m2=C8 at *
 obtain ⟨r,m3⟩:=C8
 have HC:=lh (hC8 ▸ code8_any HKW3.out HLW3.out HN.out.2.1 HN.out.2.2 (by have:=HN.out.1;have:=HQ0.out.size;omega) (by omega))
 simp only at HF
 have HC8:=lh hC8
 clear hC8
 go_at_call 142
 refine HC.out.mono ?_
 rintro e w4 ⟨hq4,hk4,hm⟩
 have hz1:=HQ0.out.size
 have hOl:O<w.heap.size:=by have:=HLt.out;exact this.2.2
 cases r with
 | error er =>
  obtain ⟨ev,rfl,hev⟩:=hm
  obtain ⟨t,u,rfl⟩:=hev.held
  have Hev:=lh hev
  clear hev
  have ho:SqRow O w4 1 0 [0,0,0,0] x y nilS [nilS,nilS,nilS,nilS]:=hq4.rowAt HOW3.out HON.out
  have cx:=ho.cell (i:=8) (x:=nilS) rfl
  have fx:=frozen_of_row _ _ 8 _ _ ho
  obtain ⟨hs,hso⟩:=ho.set (i:=8) (sqL_setLarge rfl nilS)
  have HOs:=lh hs
  have HKs:=lh (hk4.only hso HOK.out)
  have HQs:=lh ((HQW3.out.three hq4).third hso)
  have HSs:=lh hso
  clear hk4 ho hs hso
  go_wp2_with fail
  clear cx fx
  generalize World.setCell w4 _ _=W5 at *
  refine HPost.out _ _ ?_
  unfold PartsP
  rw [HF.out]
  refine ⟨(HQ0.out.mono (U:=[R,D,O]) (by simp)).trans HQs.out (fun _ h _=>h) (fun _ h _=>h),HKs.out,?_⟩
  have hz5:=HSs.out.size
  exact ⟨_,rfl,(Hev.out.only HSs.out (by simp only [mSg];rintro g rfl;omega)).mono (by omega) hz5,HOs.out.cell (i:=0) rfl⟩
 | ok l =>
  obtain ⟨v4,rfl,hov⟩:=hm
  have hl64:l.length=64:=((coefD_adv (.inr rfl) Hok3.out).2.1 l (by rw [HC8.out])).1
  obtain ⟨g4,cap4,rfl,hg4,hg4'⟩:=hov.form (by omega)
  rw [hl64] at *
  have Hov:=lh hov
  clear hov
  have ho:SqRow O w4 1 0 [0,0,0,0] x y nilS [nilS,nilS,nilS,nilS]:=hq4.rowAt HOW3.out HON.out
  have cx:=ho.cell (i:=8) (x:=nilS) rfl
  have fx:=frozen_of_row _ _ 8 _ _ ho
  obtain ⟨hs,hso⟩:=ho.set (i:=8) (sqL_setLarge rfl (.slice (some ⟨g4,0,none⟩) 64 cap4))
  have HOs:=lh hs
  have HKs:=lh (hk4.only hso HOK.out)
  have HQs:=lh ((HQW3.out.three hq4).third hso)
  have HSs:=lh hso
  clear hk4 ho hs hso
  go_wp2_with fail
  clear cx fx
  generalize World.setCell w4 _ _=W5 at *
  refine HPost.out _ _ ?_
  unfold PartsP
  rw [HF.out]
  refine ⟨(HQ0.out.mono (U:=[R,D,O]) (by simp)).trans HQs.out (fun _ h _=>h) (fun _ h _=>h),HKs.out,?_⟩
  have hz5:=HSs.out.size
  have hi5:=(Hov.out.ints.only HSs.out (by simp only [mSg];rintro g rfl;omega)).mono (lo':=w.heap.size) (hi':=W5.heap.size) (by omega) hz5
  exact ⟨rfl,_,_,HOs.out,rfl,hi5,rfl,fun i hi=>by
   match i,hi with
   | 0,_=>exact Ints.nil _ _ _ _
   | 1,_=>exact Ints.nil _ _ _ _
   | 2,_=>exact Ints.nil _ _ _ _
   | 3,_=>exact Ints.nil _ _ _ _⟩
end
section
variable {lo hi R D O lo' hi':Nat} {bv v lv:Value} {vs:List Value} {w:World} {m:Mod}
theorem parts_whole (h:ModAt lo hi R D bv w m) (ha:AskV lo' hi' w v lv vs) (hR:R<lo'∨hi'≤R) (hD:D<lo'∨hi'≤D) (hw:hi'≤w.heap.size) (hO:hi≤O∧O≠R∧O≠D∧(O<lo'∨hi'≤O)) (ho:SqRow O w 2 0 [0,0,0,0] 0 0 nilS [nilS,nilS,nilS,nilS]) (hp:m.d.pos≤590000000) :
  Calls Tryz.prog 99 #[cv R,v,.pointer (some ⟨O,0,none⟩)] w (PartsP lo hi R D O bv w 2 (partsD 2 m)):=by
 refine hidQ fun Q HPost=>?_
 have Hlarge:=lh ha.large
 obtain ⟨la,lc,a0,c0,a1,c1,a2,c2,a3,c3,rfl,rfl⟩:=ha.open
 have e:=ha.eq
 simp only [sqL,List.map_cons,List.map_nil,List.cons_append,List.nil_append] at e
 subst e
 have hq1:Only [] w (w.alloc (.cells #[.int .i64 0,.int .i64 0,.int .i64 0,.int .i64 0,.int .i64 0,.int .i64 0,.int .i64 0,.int .i64 0,.slice la 64 lc,.slice a0 16 c0,.slice a1 16 c1,.slice a2 16 c2,.slice a3 16 c3] 137)):=Only.new w _
 have k0:=hq1.cell (ho.cell sqL_kind) (by simp)
 have hr:SqRow w.heap.size (w.alloc (.cells #[.int .i64 0,.int .i64 0,.int .i64 0,.int .i64 0,.int .i64 0,.int .i64 0,.int .i64 0,.int .i64 0,.slice la 64 lc,.slice a0 16 c0,.slice a1 16 c1,.slice a2 16 c2,.slice a3 16 c3] 137)) 0 0 [0,0,0,0] 0 0 (.slice la 64 lc) [.slice a0 16 c0,.slice a1 16 c1,.slice a2 16 c2,.slice a3 16 c3]:=ask_row w (.slice la 64 lc) [.slice a0 16 c0,.slice a1 16 c1,.slice a2 16 c2,.slice a3 16 c3]
 have b6:=hr.cell (i:=6) (x:=.int .i64 0) rfl
 have b1:=hr.cell (i:=1) (x:=.int .i64 0) rfl
 have HOw:Hid (SqRow O (w.alloc (.cells #[.int .i64 0,.int .i64 0,.int .i64 0,.int .i64 0,.int .i64 0,.int .i64 0,.int .i64 0,.int .i64 0,.slice la 64 lc,.slice a0 16 c0,.slice a1 16 c1,.slice a2 16 c2,.slice a3 16 c3] 137)) 2 0 [0,0,0,0] 0 0 nilS [nilS,nilS,nilS,nilS]):=lh (hq1.rowAt ho (by simp))
 have HKw:=lh (h.quiet hq1)
 have HLw:=lh (Hlarge.out.quiet hq1)
 have HBw:=lh hr
 have HQ0:=lh hq1
 have hlt:=h.lt
 have hOl:O<w.heap.size:=(Array.getElem?_eq_some_iff.1 ho).1
 have HON:Hid (O∉[R,D]):=lh (by simp only [List.mem_cons,List.not_mem_nil,or_false];omega)
 have HBN:Hid (w.heap.size∉[R,D]):=lh (by simp only [List.mem_cons,List.not_mem_nil,or_false];omega)
 have HBO:Hid (w.heap.size∉[O]):=lh (by simp only [mSg];omega)
 have HOK:Hid (∀ g∈[O],hi≤g∧g≠R∧g≠D):=lh (by simp only [mSg];rintro g rfl;exact ⟨hO.1,hO.2.1,hO.2.2.1⟩)
 have HLT:Hid (∀ g∈[R,D,O],g<lo'∨hi'≤g):=lh (by
  intro g hg
  simp only [List.mem_cons,List.not_mem_nil,or_false] at hg
  rcases hg with hg | hg | hg <;> rw [hg]
  exact hR
  exact hD
  exact hO.2.2.2)
 have hsz:=hq1.size
 have HQw:Hid (Only [R,D,O] (w.alloc (.cells #[.int .i64 0,.int .i64 0,.int .i64 0,.int .i64 0,.int .i64 0,.int .i64 0,.int .i64 0,.int .i64 0,.slice la 64 lc,.slice a0 16 c0,.slice a1 16 c1,.slice a2 16 c2,.slice a3 16 c3] 137)) (w.alloc (.cells #[.int .i64 0,.int .i64 0,.int .i64 0,.int .i64 0,.int .i64 0,.int .i64 0,.int .i64 0,.int .i64 0,.slice la 64 lc,.slice a0 16 c0,.slice a1 16 c1,.slice a2 16 c2,.slice a3 16 c3] 137))):=lh (Only.refl _ _)
 have HN:=lh (And.intro hw (And.intro hR hD))
 have HKok:=lh h.ok
 have HLt:=lh (And.intro hlt.1 (And.intro hlt.2 hOl))
 clear h ho ha hr hq1 hw hO hR hD hlt hOl
 have hpa:=(modeD_adv HKok.out).1
 have hpp2:=hpa.pos
 have HF:Hid (partsD 2 m=match (coefD 8 (modeD m).2).1 with
   | .error e=>(.error e,(coefD 8 (modeD m).2).2)
   | .ok l=>(.ok ⟨2,(modeD m).1,[0,0,0,0],0,0,l,[[],[],[],[]]⟩,(coefD 8 (modeD m).2).2)):=lh rfl
 have Hok3:=lh hpa.ok
 clear hpa
 generalize hP1:modeD m=P1 at *
 obtain ⟨x,m2⟩:=P1
 simp only at hpp2 HF Hok3
 have HL1:=lh (fun (W:World) (hk:ModAt lo hi R D bv W m)=>hP1 ▸ mmode_any hk 0 (by omega))
 clear hP1
 go_enter Tryz.func99,Tryz.ntmps99
 go_wp2_with fail
 clear b6 b1 k0
 generalize World.alloc w _=W1 at *
 have HOW1:=HOw
 have HBW1:=HBw
 have HKW1:=HKw
 have HQW1:=HQw
 clear HOw HBw HKw HQw
 go_at_call 141
 refine (HL1.out _ HKW1.out).mono ?_
 rintro e w2 ⟨rfl,hk,hq⟩
 have ho:SqRow O w2 2 0 [0,0,0,0] 0 0 nilS [nilS,nilS,nilS,nilS]:=hq.rowAt HOW1.out HON.out
 have hb:SqRow w.heap.size w2 0 0 [0,0,0,0] 0 0 (.slice la 64 lc) [.slice a0 16 c0,.slice a1 16 c1,.slice a2 16 c2,.slice a3 16 c3]:=hq.rowAt HBW1.out HBN.out
 have cx:=ho.cell (i:=1) (x:=.int .i64 0) rfl
 have fx:=frozen_of_row _ _ 1 _ _ ho
 obtain ⟨hs,hso⟩:=ho.set (i:=1) (sqL_setMo x)
 have hbs:SqRow w.heap.size _ 0 0 [0,0,0,0] 0 0 (.slice la 64 lc) [.slice a0 16 c0,.slice a1 16 c1,.slice a2 16 c2,.slice a3 16 c3]:=hso.rowAt hb HBO.out
 have b8x:=hbs.cell (i:=8) (x:=.slice la 64 lc) rfl
 have b7x:=hbs.cell (i:=7) (x:=.int .i64 0) rfl
 have HOs:=lh hs
 have HBs:=lh hbs
 have HKs:=lh (hk.only hso HOK.out)
 have HQs:=lh ((HQW1.out.three hq).third hso)
 clear hk hq ho hb hs hso hbs
 go_wp2_with fail
 clear cx fx b8x b7x
 generalize World.setCell w2 _ _=W3 at *
 have HOW3:=HOs
 have HBW3:=HBs
 have HKW3:=HKs
 have HQW3:=HQs
 clear HOs HBs HKs HQs HOW1 HBW1 HKW1 HQW1
 have HLW3:=lh (HLw.out.only HQW3.out HLT.out)
 have hzW:=HQW3.out.size
 generalize hC8:coefD 8 m2=C8 at *
 obtain ⟨r,m3⟩:=C8
 have HC:=lh (hC8 ▸ code8_any HKW3.out HLW3.out HN.out.2.1 HN.out.2.2 (by have:=HN.out.1;have:=HQ0.out.size;omega) (by omega))
 simp only at HF
 have HC8:=lh hC8
 clear hC8
 go_at_call 142
 refine HC.out.mono ?_
 rintro e w4 ⟨hq4,hk4,hm⟩
 have hz1:=HQ0.out.size
 have hOl:O<w.heap.size:=by have:=HLt.out;exact this.2.2
 cases r with
 | error er =>
  obtain ⟨ev,rfl,hev⟩:=hm
  obtain ⟨t,u,rfl⟩:=hev.held
  have Hev:=lh hev
  clear hev
  have ho:SqRow O w4 2 x [0,0,0,0] 0 0 nilS [nilS,nilS,nilS,nilS]:=hq4.rowAt HOW3.out HON.out
  have cx:=ho.cell (i:=8) (x:=nilS) rfl
  have fx:=frozen_of_row _ _ 8 _ _ ho
  obtain ⟨hs,hso⟩:=ho.set (i:=8) (sqL_setLarge rfl nilS)
  have HOs:=lh hs
  have HKs:=lh (hk4.only hso HOK.out)
  have HQs:=lh ((HQW3.out.three hq4).third hso)
  have HSs:=lh hso
  clear hk4 ho hs hso
  go_wp2_with fail
  clear cx fx
  generalize World.setCell w4 _ _=W5 at *
  refine HPost.out _ _ ?_
  unfold PartsP
  rw [HF.out]
  refine ⟨(HQ0.out.mono (U:=[R,D,O]) (by simp)).trans HQs.out (fun _ h _=>h) (fun _ h _=>h),HKs.out,?_⟩
  have hz5:=HSs.out.size
  exact ⟨_,rfl,(Hev.out.only HSs.out (by simp only [mSg];rintro g rfl;omega)).mono (by omega) hz5,HOs.out.cell (i:=0) rfl⟩
 | ok l =>
  obtain ⟨v4,rfl,hov⟩:=hm
  have hl64:l.length=64:=((coefD_adv (.inr rfl) Hok3.out).2.1 l (by rw [HC8.out])).1
  obtain ⟨g4,cap4,rfl,hg4,hg4'⟩:=hov.form (by omega)
  rw [hl64] at *
  have Hov:=lh hov
  clear hov
  have ho:SqRow O w4 2 x [0,0,0,0] 0 0 nilS [nilS,nilS,nilS,nilS]:=hq4.rowAt HOW3.out HON.out
  have cx:=ho.cell (i:=8) (x:=nilS) rfl
  have fx:=frozen_of_row _ _ 8 _ _ ho
  obtain ⟨hs,hso⟩:=ho.set (i:=8) (sqL_setLarge rfl (.slice (some ⟨g4,0,none⟩) 64 cap4))
  have HOs:=lh hs
  have HKs:=lh (hk4.only hso HOK.out)
  have HQs:=lh ((HQW3.out.three hq4).third hso)
  have HSs:=lh hso
  clear hk4 ho hs hso
  go_wp2_with fail
  clear cx fx
  generalize World.setCell w4 _ _=W5 at *
  refine HPost.out _ _ ?_
  unfold PartsP
  rw [HF.out]
  refine ⟨(HQ0.out.mono (U:=[R,D,O]) (by simp)).trans HQs.out (fun _ h _=>h) (fun _ h _=>h),HKs.out,?_⟩
  have hz5:=HSs.out.size
  have hi5:=(Hov.out.ints.only HSs.out (by simp only [mSg];rintro g rfl;omega)).mono (lo':=w.heap.size) (hi':=W5.heap.size) (by omega) hz5
  exact ⟨rfl,_,_,HOs.out,rfl,hi5,rfl,fun i hi=>by
   match i,hi with
   | 0,_=>exact Ints.nil _ _ _ _
   | 1,_=>exact Ints.nil _ _ _ _
   | 2,_=>exact Ints.nil _ _ _ _
   | 3,_=>exact Ints.nil _ _ _ _⟩
end
theorem smallGo_bad {k:Nat} {ms:List Int} {ls:List (List Int)} {m:Mod} {e:Err} (h:(coefD 4 (modeD m).2).1=.error e):smallGo (k+1) ms ls m=(.error e,(coefD 4 (modeD m).2).2):=by
 rw [smallGo,h]
theorem smallGo_more {k:Nat} {ms:List Int} {ls:List (List Int)} {m:Mod} {l:List Int} (h:(coefD 4 (modeD m).2).1=.ok l):smallGo (k+1) ms ls m=smallGo k (ms ++ [((modeD m).1:Int)]) (ls ++ [l]) (coefD 4 (modeD m).2).2:=by
 rw [smallGo,h]
theorem take_set4 {ms:List Int} (h:ms.length=4) {k:Nat} (hk:k<4) (x:Int):(ms.set k x).take (k+1)=ms.take k ++ [x]:=by
 obtain ⟨a,b,c,d,rfl⟩:=len4 h
 match k,hk with
 | 0,_=>rfl
 | 1,_=>rfl
 | 2,_=>rfl
 | 3,_=>rfl
section
variable {lo hi R D O lo' hi':Nat} {bv v lv:Value} {vs:List Value} {w:World} {m:Mod}
theorem parts_small (h:ModAt lo hi R D bv w m) (ha:AskV lo' hi' w v lv vs) (hR:R<lo'∨hi'≤R) (hD:D<lo'∨hi'≤D) (hw:hi'≤w.heap.size) (hO:hi≤O∧O≠R∧O≠D∧(O<lo'∨hi'≤O)) (ho:SqRow O w 3 0 [0,0,0,0] 0 0 nilS [nilS,nilS,nilS,nilS]) (hp:m.d.pos≤590000000) :
  Calls Tryz.prog 99 #[cv R,v,.pointer (some ⟨O,0,none⟩)] w (PartsP lo hi R D O bv w 3 (partsD 3 m)):=by
 refine hidQ fun Q HPost=>?_
 have Hsm:=lh ha.small
 obtain ⟨la,lc,a0,c0,a1,c1,a2,c2,a3,c3,rfl,rfl⟩:=ha.open
 have e:=ha.eq
 simp only [sqL,List.map_cons,List.map_nil,List.cons_append,List.nil_append] at e
 subst e
 have hq1:Only [] w (w.alloc (.cells #[.int .i64 0,.int .i64 0,.int .i64 0,.int .i64 0,.int .i64 0,.int .i64 0,.int .i64 0,.int .i64 0,.slice la 64 lc,.slice a0 16 c0,.slice a1 16 c1,.slice a2 16 c2,.slice a3 16 c3] 137)):=Only.new w _
 have k0:=hq1.cell (ho.cell sqL_kind) (by simp)
 have HBw:Hid (SqRow w.heap.size (w.alloc (.cells #[.int .i64 0,.int .i64 0,.int .i64 0,.int .i64 0,.int .i64 0,.int .i64 0,.int .i64 0,.int .i64 0,.slice la 64 lc,.slice a0 16 c0,.slice a1 16 c1,.slice a2 16 c2,.slice a3 16 c3] 137)) 0 0 [0,0,0,0] 0 0 (.slice la 64 lc) [.slice a0 16 c0,.slice a1 16 c1,.slice a2 16 c2,.slice a3 16 c3]):=lh (ask_row w (.slice la 64 lc) [.slice a0 16 c0,.slice a1 16 c1,.slice a2 16 c2,.slice a3 16 c3])
 have HOw:Hid (SqRow O (w.alloc (.cells #[.int .i64 0,.int .i64 0,.int .i64 0,.int .i64 0,.int .i64 0,.int .i64 0,.int .i64 0,.int .i64 0,.slice la 64 lc,.slice a0 16 c0,.slice a1 16 c1,.slice a2 16 c2,.slice a3 16 c3] 137)) 3 0 [0,0,0,0] 0 0 nilS [nilS,nilS,nilS,nilS]):=lh (hq1.rowAt ho (by simp))
 have HKw:=lh (h.quiet hq1)
 have HQ0:=lh hq1
 have hlt:=h.lt
 have hOl:O<w.heap.size:=(Array.getElem?_eq_some_iff.1 ho).1
 have HON:Hid (O∉[R,D]):=lh (by simp only [List.mem_cons,List.not_mem_nil,or_false];omega)
 have HBN:Hid (w.heap.size∉[R,D,O]):=lh (by simp only [List.mem_cons,List.not_mem_nil,or_false];omega)
 have HBO:Hid (w.heap.size∉[O]):=lh (by simp only [mSg];omega)
 have HOK:Hid (∀ g∈[O],hi≤g∧g≠R∧g≠D):=lh (by simp only [mSg];rintro g rfl;exact ⟨hO.1,hO.2.1,hO.2.2.1⟩)
 have HLT:Hid (∀ g∈[R,D,O],g<lo'∨hi'≤g):=lh (by
  intro g hg
  simp only [List.mem_cons,List.not_mem_nil,or_false] at hg
  rcases hg with hg | hg | hg <;> rw [hg]
  exact hR
  exact hD
  exact hO.2.2.2)
 have HRDO:Hid (∀ g∈[R,D,O],g<w.heap.size):=lh (by
  intro g hg
  simp only [List.mem_cons,List.not_mem_nil,or_false] at hg
  omega)
 have HN:=lh (And.intro hw (And.intro hR hD))
 have HF:Hid (partsD 3 m=match (smallGo 4 [] [] m).1 with
  | .error e=>(.error e,(smallGo 4 [] [] m).2)
  | .ok x=>(.ok ⟨3,0,x.1,0,0,[],x.2⟩,(smallGo 4 [] [] m).2)):=lh rfl
 have HLt:=lh (And.intro hlt.1 (And.intro hlt.2 hOl))
 clear h ho ha hq1 hw hO hR hD hlt hOl
 go_enter Tryz.func99,Tryz.ntmps99
 go_wp2_with fail
 clear k0
 generalize hW1:World.alloc w _=W1 at *
 have hz1:=HQ0.out.size
 clear hW1
 go_loopw [22] (fun i wr=>∃ (k:Nat) (mc:Mod) (ms:List Int) (vs:List Value) (ls:List (List Int)),k≤4∧i=.int .i64 k∧Hid (ModAt lo hi R D bv wr mc)∧Hid (SqRow O wr 3 0 ms 0 0 nilS vs)∧Hid (ms.length=4)∧Hid (vs.length=4)∧Hid (ls.length=k)∧Hid (∀ j,j<k→Ints .i64 w.heap.size wr.heap.size wr (vs.getD j nilS) (ls.getD j []))∧Hid (smallGo (4-k) (ms.take k) ls mc=smallGo 4 [] [] m)∧mc.d.pos≤m.d.pos+5604*k∧Hid (Only [R,D,O] W1 wr)) (fun i _=>4-(intOf i).toNat)
 case atStart=>exact ⟨0,m,[0,0,0,0],[nilS,nilS,nilS,nilS],[],by omega,rfl,HKw,HOw,lh rfl,lh rfl,lh rfl,lh (fun j hj=>absurd hj (by omega)),lh rfl,by omega,lh (Only.refl _ _)⟩
 case round =>
  obtain ⟨k,mc,ms,vs,ls,hk,rfl,HKc,HOc,Hml,Hvl,Hll,Hins,He,hpos,HQc⟩:=hrel
  by_cases hlt:k<4
  ·have hki:(k:Int)<4:=by omega
   have hk0:(0:Int)≤(k:Int):=by omega
   obtain ⟨ak,ck,hek,-⟩:=(Hsm.out k hlt).open
   rw [List.length_replicate] at hek
   have Hsk:=lh (hek ▸ Hsm.out k hlt)
   have hbr:SqRow w.heap.size wr.drew 0 0 [0,0,0,0] 0 0 (.slice la 64 lc) [.slice a0 16 c0,.slice a1 16 c1,.slice a2 16 c2,.slice a3 16 c3]:=HQc.out.drew.rowAt HBw.out HBN.out
   have b2:=hbr.cell (i:=2+k) (sqL_mode rfl hlt)
   rw [show ([0,0,0,0]:List Int).getD k 0=0 by match k,hlt with | 0,_=>rfl | 1,_=>rfl | 2,_=>rfl | 3,_=>rfl] at b2
   clear hbr
   have hpa:=(modeD_adv HKc.out.ok).1
   have hpp:=hpa.pos
   have hpc:=coefD_adv (side:=4) (.inl rfl) hpa.ok
   have hpp2:=hpc.1.pos
   have HM1:=lh (fun (W:World) (o:Only [] wr W)=>mmode_any (HKc.out.quiet o) 0 (by omega))
   have Hbad:=lh (fun (e:Err) (he:(coefD 4 (modeD mc).2).1=.error e)=>smallGo_bad (k:=3-k) (ms:=ms.take k) (ls:=ls) he)
   have Hmore:=lh (fun (l:List Int) (he:(coefD 4 (modeD mc).2).1=.ok l)=>smallGo_more (k:=3-k) (ms:=ms.take k) (ls:=ls) he)
   have Hlen:=lh hpc.2.1
   rw [show 3-k+1=4-k by omega,He.out] at Hbad Hmore
   clear hpa hpc
   generalize modeD mc=MD at *
   obtain ⟨xn,mc2⟩:=MD
   simp only at hpp hpp2 HM1 Hbad Hmore Hlen
   generalize ((xn:Nat):Int)=x at *
   go_wp2_with fail
   refine wp_region_held_drew (S:=(fun _=>True)) (by kernel_rfl) ?_ (fun hHeld=>?_)
   ·trivial
   refine tk 0 25 ?_
   refine tk 1 26 ?_
   refine tk 2 27 ?_
   refine tk 3 28 ?_
   refine tk 4 29 ?_
   refine tk 5 30 ?_
   refine tk 8 33 ?_
   refine tk 9 34 ?_
   refine rdy (rdc 6 31 (fun K hK=>?_) .nil)
   go_simp
   refine hK.out _ _ ?_ (fun hHeld=>?_)
   ·trivial
   clear hK K
   try simp only [Act.put,List.setIfInBounds_toArray,List.set_cons_zero,List.set_cons_succ]
   refine rdy (rdc 7 32 (fun K hK=>?_) .nil)
   go_simp
   (go_at_call 141;refine (HM1.out _ (Only.refl _ _).drew).mono ?_;rintro e w2 ⟨rfl,hk,hq⟩;have hq':=(HQc.out.drew).three hq;have ho:SqRow O w2 3 0 ms 0 0 nilS vs:=((Only.refl [R,D] wr).drew.both hq).rowAt HOc.out HON.out;have hb:SqRow w.heap.size w2 0 0 [0,0,0,0] 0 0 (.slice la 64 lc) [.slice a0 16 c0,.slice a1 16 c1,.slice a2 16 c2,.slice a3 16 c3]:=hq'.rowAt HBw.out HBN.out;have cx:=ho.cell (i:=2+k) (sqL_mode Hml.out hlt);have fx:=frozen_of_row _ _ (2+k) _ _ ho;obtain ⟨hs,hso⟩:=ho.set (sqL_setMode Hml.out hlt x);have hbs:SqRow w.heap.size _ 0 0 [0,0,0,0] 0 0 (.slice la 64 lc) [.slice a0 16 c0,.slice a1 16 c1,.slice a2 16 c2,.slice a3 16 c3]:=hso.rowAt hb HBO.out;have b9:=hbs.cell (i:=9+k) (sqL_small rfl rfl hlt);rw [hek] at b9;have HOs:=lh hs;have HKs:=lh (hk.only hso HOK.out);have HQs:=lh (hq'.third hso);have HSs:=lh ((((Only.refl [R,D,O] wr).drew).three hq).third hso);clear hk hq hq' ho hb hs hso hbs)
   refine hK.out _ _ ?_ (fun hHeld=>?_)
   ·trivial
   clear hK K
   try simp only [Act.put,List.setIfInBounds_toArray,List.set_cons_zero,List.set_cons_succ]
   refine tk 10 35 ?_
   refine rdy (rdn 11 (fun K hK=>?_) .nil)
   go_simp
   refine hK.out _ _ ?_ (fun hHeld=>?_)
   ·trivial
   clear hK K
   try simp only [Act.put,List.setIfInBounds_toArray,List.set_cons_zero,List.set_cons_succ]
   refine wpAnyH_done (by kernel_rfl) ?_ _
   go_wp2_with fail
   clear cx fx b2 HM1
   generalize World.setCell w2 _ _=W3 at *
   have HO3:=HOs
   have HK3:=HKs
   have HQ3:=HQs
   have HT3:=HSs
   have Hml3:Hid ((ms.set k x).length=4):=lh (by rw [List.length_set];exact Hml.out)
   have b9d:W3.drew.cell? ⟨w.heap.size,9+k,none⟩=some (.slice ak 16 ck):=b9
   clear HOs HKs HQs HSs HKc HOc b9
   have HL3:Hid (Ints .i64 lo' hi' W3 (.slice ak 16 ck) (List.replicate 16 0)):=lh ((Hsk.out.quiet HQ0.out).only HQ3.out HLT.out)
   have hz3:=HQ3.out.size
   have HC4:=lh (fun (W:World) (o:Only [] W3 W)=>code4_any (HK3.out.quiet o) (HL3.out.quiet o) HN.out.2.1 HN.out.2.2 (by have:=HN.out.1;have:=o.size;omega) (by omega))
   generalize coefD 4 mc2=CD at *
   obtain ⟨r,mc3⟩:=CD
   simp only at hpp2 HC4 Hbad Hmore Hlen
   cases r with
   | error er =>
    have Hend:=lh (Hbad.out er rfl)
    clear Hbad Hmore Hlen
    refine wp_region_held_drew (S:=(fun _=>True)) (by kernel_rfl) ?_ (fun hHeld=>?_)
    ·trivial
    refine tk 0 37 ?_
    refine tk 1 38 ?_
    refine tk 2 39 ?_
    refine tk 3 40 ?_
    refine tk 4 41 ?_
    refine tk 5 42 ?_
    refine tk 11 47 ?_
    refine tk 12 48 ?_
    refine rdy (rdc 6 43 (fun K hK=>?_) .nil)
    go_simp
    refine hK.out _ _ ?_ (fun hHeld=>?_)
    ·trivial
    clear hK K
    try simp only [Act.put,List.setIfInBounds_toArray,List.set_cons_zero,List.set_cons_succ]
    refine rdy (rdc 7 44 (fun K hK=>?_) .nil)
    go_simp
    (go_at_call 142;refine (HC4.out _ (Only.refl _ _).drew).mono ?_;rintro e w4 ⟨hq4,hk4,hm⟩;have hq4':=((Only.refl [R,D] W3).drew).both hq4;have ho:SqRow O w4 3 0 (ms.set k x) 0 0 nilS vs:=hq4'.rowAt HO3.out HON.out;have cx:=ho.cell (i:=9+k) (sqL_small Hml3.out Hvl.out hlt);have fx:=frozen_of_row _ _ (9+k) _ _ ho;obtain ⟨ev,rfl,hev⟩:=hm;obtain ⟨t,u,rfl⟩:=hev.held;have Hev:=lh hev;clear hev;obtain ⟨hs,hso⟩:=ho.set (sqL_setSmall Hml3.out Hvl.out hlt nilS);have HOs:=lh hs;have HKs:=lh (hk4.only hso HOK.out);have HQs:=lh ((HQ3.out.three hq4').third hso);have HSs:=lh hso;have HT:=lh ((((Only.refl [R,D,O] W3)).three hq4').third hso);clear hk4 ho hs hso hq4 hq4')
    refine hK.out _ _ ?_ (fun hHeld=>?_)
    ·trivial
    clear hK K
    try simp only [Act.put,List.setIfInBounds_toArray,List.set_cons_zero,List.set_cons_succ]
    refine tk 8 36 ?_
    refine tk 9 45 ?_
    refine tk 10 46 ?_
    refine tk 13 49 ?_
    refine rdy (rdn 14 (fun K hK=>?_) .nil)
    go_simp
    refine hK.out _ _ ?_ (fun hHeld=>?_)
    ·trivial
    clear hK K
    try simp only [Act.put,List.setIfInBounds_toArray,List.set_cons_zero,List.set_cons_succ]
    refine tk 15 7 ?_
    refine wpAnyH_done (by kernel_rfl) ?_ _
    go_wp2_with fail
    clear cx fx b9d
    generalize World.setCell w4 _ _=W5 at *
    have hz4:=HT.out.size
    have hz5:=HSs.out.size
    have hzd:W3.drew.heap.size=W3.heap.size:=rfl
    have hOl:=HLt.out.2.2
    have hzt:=HT.out.size
    refine HPost.out _ _ ?_
    unfold PartsP
    rw [HF.out,Hend.out]
    refine ⟨(HQ0.out.mono (U:=[R,D,O]) (by simp)).trans HQs.out (fun _ h _=>h) (fun _ h _=>h),HKs.out,?_⟩
    exact ⟨_,rfl,(Hev.out.only HSs.out (by simp only [mSg];rintro g rfl;have:=HLt.out.2.2;omega)).mono (by omega) hz5,HOs.out.cell (i:=0) rfl⟩
   | ok l =>
    have Hend:=lh (Hmore.out l rfl)
    have Hl16:Hid (l.length=16):=lh (Hlen.out l rfl).1
    clear Hbad Hmore Hlen
    refine wp_region_held_drew (S:=(fun _=>True)) (by kernel_rfl) ?_ (fun hHeld=>?_)
    ·trivial
    refine tk 0 37 ?_
    refine tk 1 38 ?_
    refine tk 2 39 ?_
    refine tk 3 40 ?_
    refine tk 4 41 ?_
    refine tk 5 42 ?_
    refine tk 11 47 ?_
    refine tk 12 48 ?_
    refine rdy (rdc 6 43 (fun K hK=>?_) .nil)
    go_simp
    refine hK.out _ _ ?_ (fun hHeld=>?_)
    ·trivial
    clear hK K
    try simp only [Act.put,List.setIfInBounds_toArray,List.set_cons_zero,List.set_cons_succ]
    refine rdy (rdc 7 44 (fun K hK=>?_) .nil)
    go_simp
    (go_at_call 142;refine (HC4.out _ (Only.refl _ _).drew).mono ?_;rintro e w4 ⟨hq4,hk4,hm⟩;have hq4':=((Only.refl [R,D] W3).drew).both hq4;have ho:SqRow O w4 3 0 (ms.set k x) 0 0 nilS vs:=hq4'.rowAt HO3.out HON.out;have cx:=ho.cell (i:=9+k) (sqL_small Hml3.out Hvl.out hlt);have fx:=frozen_of_row _ _ (9+k) _ _ ho;obtain ⟨v4,rfl,hov⟩:=hm;obtain ⟨g4,cap4,rfl,hg4,hg4'⟩:=hov.form (by have:=Hl16.out;omega);rw [Hl16.out] at hov ⊢;have Hov:=lh hov;have Hg4:=lh (And.intro hg4 hg4');clear hov hg4 hg4';obtain ⟨hs,hso⟩:=ho.set (sqL_setSmall Hml3.out Hvl.out hlt (.slice (some ⟨g4,0,none⟩) 16 cap4));have HOs:=lh hs;have HKs:=lh (hk4.only hso HOK.out);have HQs:=lh ((HQ3.out.three hq4').third hso);have HSs:=lh hso;have HT:=lh ((((Only.refl [R,D,O] W3)).three hq4').third hso);clear hk4 ho hs hso hq4 hq4')
    refine hK.out _ _ ?_ (fun hHeld=>?_)
    ·trivial
    clear hK K
    try simp only [Act.put,List.setIfInBounds_toArray,List.set_cons_zero,List.set_cons_succ]
    refine tk 8 36 ?_
    refine tk 9 45 ?_
    refine tk 10 46 ?_
    refine tk 13 49 ?_
    refine rdy (rdn 14 (fun K hK=>?_) .nil)
    go_simp
    refine hK.out _ _ ?_ (fun hHeld=>?_)
    ·trivial
    clear hK K
    try simp only [Act.put,List.setIfInBounds_toArray,List.set_cons_zero,List.set_cons_succ]
    refine tk 15 7 ?_
    refine wpAnyH_done (by kernel_rfl) ?_ _
    go_wp2_with fail
    clear cx fx b9d
    generalize World.setCell w4 _ _=W5 at *
    have hz4:=HT.out.size
    have hz5:=HSs.out.size
    have hzd:W3.drew.heap.size=W3.heap.size:=rfl
    have hOl:=HLt.out.2.2
    have hzt:=HT.out.size
    exact ⟨⟨k+1,mc3,ms.set k x,vs.set k _,ls ++ [l],by omega,by go_num,HKs,HOs,Hml3,lh (by rw [List.length_set];exact Hvl.out),lh (by rw [List.length_append,Hll.out];rfl),lh (fun j hj=>by
     by_cases hjk:j=k
     ·subst hjk
      have e1:(vs.set j (.slice (some ⟨g4,0,none⟩) 16 cap4)).getD j nilS=.slice (some ⟨g4,0,none⟩) 16 cap4:=by
       rw [List.getD_eq_getElem?_getD,List.getElem?_set_self (by rw [Hvl.out];exact hlt)];rfl
      have e2:(ls ++ [l]).getD j []=l:=by
       rw [List.getD_eq_getElem?_getD,List.getElem?_append_right (by rw [Hll.out];exact Nat.le_refl _),Hll.out,Nat.sub_self];rfl
      rw [e1,e2]
      exact (Hov.out.ints.only HSs.out (by simp only [mSg];rintro g rfl;omega)).mono (by omega) hz5
     ·have hjl:j<k:=by omega
      have e1:(vs.set k (.slice (some ⟨g4,0,none⟩) 16 cap4)).getD j nilS=vs.getD j nilS:=by
       rw [List.getD_eq_getElem?_getD,List.getElem?_set_ne (Ne.symm hjk),← List.getD_eq_getElem?_getD]
      have e2:(ls ++ [l]).getD j []=ls.getD j []:=by
       rw [List.getD_eq_getElem?_getD,List.getElem?_append_left (by rw [Hll.out];exact hjl),← List.getD_eq_getElem?_getD]
      rw [e1,e2]
      exact (((Hins.out j hjl).only HT3.out (fun g hg=>.inl (HRDO.out g hg))).only HT.out (fun g hg=>.inl (HRDO.out g hg))).mono (Nat.le_refl _) (by have:=HT3.out.size;omega)),lh (by
     rw [take_set4 Hml.out hlt,show 4-(k+1)=3-k by omega];exact Hend.out.symm),by omega,HQs⟩,by simp [intOf];omega⟩
  ·obtain rfl:k=4:=by omega
   have hki:¬ ((4:Nat):Int)<4:=by omega
   have hend:smallGo 4 [] [] m=(.ok (ms,ls),mc):=by
    rw [← He.out,List.take_of_length_le (Nat.le_of_eq Hml.out)];rfl
   have Hend:=lh hend
   clear hend
   go_wp2_with fail
   refine HPost.out _ _ ?_
   unfold PartsP
   rw [HF.out,Hend.out]
   refine ⟨(HQ0.out.mono (U:=[R,D,O]) (by simp)).trans HQc.out (fun _ h _=>h) (fun _ h _=>h),HKc.out,rfl,nilS,vs,HOc.out,Hml.out,Ints.nil _ _ _ _,Hvl.out,fun i hi=>Hins.out i hi⟩
end
theorem reader_assert (R:Nat) (w:World):(Instr.typeAssert (cv R) 201 130 true).run Tryz.prog w=.ok (.tuple #[.pointer (some ⟨R,0,none⟩),.bool true]) w:=by kernel_rfl
theorem reads_any (R:Nat) (w:World):Calls Tryz.prog 96 #[cv R] w fun e w'=>e=.returned (.bool true)∧w=w':=by
 have ha:=reader_assert R w
 go_enter Tryz.func96,Tryz.ntmps96
 go_wp2
 go_ret
 exact ⟨rfl,rfl⟩
section
variable {P:Program}
/-- a slice made -/
theorem wpList_make {w w':World} {ops:Array Oper} {rest:List Oper} {o:Oper} {a:Act} {Q:Exit→Act→World→Prop} (hgd:o.guard=none) (t:TypeId) (l c:Operand) (ho:o.op=.makeSlice t l c) {v:Value}
  (hr:(Instr.makeSlice t (a.eval l) (a.eval c)).run P w=.ok v w') (h:wpList P ops Q rest (a.put o.dst v) w'):wpList P ops Q (o :: rest) a w :=
 wpList_plain hgd fun _ hK=>by
  unfold Oper.wp execOp
  simp only [ho,Sem.run_bind,Sem.run_pure,Result.andThen_ok,hr]
  exact hK _ _ h
end
theorem parts_any {lo hi R D O lo' hi':Nat} {bv v lv:Value} {vs:List Value} {w:World} {m:Mod} {k:Nat} (hk:k≤3) (h:ModAt lo hi R D bv w m) (ha:AskV lo' hi' w v lv vs) (hR:R<lo'∨hi'≤R) (hD:D<lo'∨hi'≤D) (hw:hi'≤w.heap.size) (hO:hi≤O∧O≠R∧O≠D∧(O<lo'∨hi'≤O)) (ho:SqRow O w k 0 [0,0,0,0] 0 0 nilS [nilS,nilS,nilS,nilS]) (hp:m.d.pos≤590000000) :
  Calls Tryz.prog 99 #[cv R,v,.pointer (some ⟨O,0,none⟩)] w (PartsP lo hi R D O bv w k (partsD k m)):=by
 match k,hk with
 | 0,_=>exact parts_zero h ha ho
 | 1,_=>exact parts_move h ha hR hD hw hO ho hp
 | 2,_=>exact parts_whole h ha hR hD hw hO ho hp
 | 3,_=>exact parts_small h ha hR hD hw hO ho hp
theorem sqL_one {k mo:Int} {ms:List Int} {vx vy:Int} {lv:Value} {vs:List Value} (hl:lv.oneCell'=true) (hv:∀ v∈vs,v.oneCell'=true):(sqL k mo ms vx vy lv vs).toArray.all (·.oneCell')=true:=by
 rw [Array.all_eq_true_iff_forall_mem]
 intro v h
 simp only [sqL,List.mem_toArray,List.mem_append,List.mem_cons,List.mem_map,List.not_mem_nil,or_false] at h
 rcases h with (((rfl | rfl) | ⟨x,_,rfl⟩) | (rfl | rfl | rfl)) | h
 ·rfl
 ·rfl
 ·rfl
 ·rfl
 ·rfl
 ·exact hl
 ·exact hv v h
theorem nils_one:∀ v∈[nilS,nilS,nilS,nilS],v.oneCell'=true:=by
 intro v h
 simp only [List.mem_cons,List.not_mem_nil,or_false,or_self] at h
 rw [h];rfl
theorem sqL_info {k mo:Int} {ms:List Int} {vx vy:Int} {lv:Value} {vs:List Value} (hm:ms.length=4) (hv:vs.length=4):(Tryz.prog.info? 137).map (·.size)=some (sqL k mo ms vx vy lv vs).toArray.size:=by
 rw [List.size_toArray,sqL_size hm hv];kernel_rfl
theorem sqL_sizes {k mo:Int} {ms:List Int} {vx vy:Int} {lv:Value} {vs:List Value} {k' mo':Int} {ms':List Int} {vx' vy':Int} {lv':Value} {vs':List Value} (hm:ms.length=4) (hv:vs.length=4) (hm':ms'.length=4) (hv':vs'.length=4):(sqL k mo ms vx vy lv vs).toArray.size=(sqL k' mo' ms' vx' vy' lv' vs').toArray.size:=by
 rw [List.size_toArray,List.size_toArray,sqL_size hm hv,sqL_size hm' hv']
theorem results_cell_row2 {P:Program} {fn:Func} {p q:Tmp} {ty:TypeId} (h:fn.results=#[.cell p ty,.tmp q]) (tmps:Array Value) (w:World) (g:Nat) (t:TypeId) (cs:Array Value) (fr:Nat×Nat) (d:TypeDesc) (v:Value)
  (hp:tmps.getD p undef=.pointer (some ⟨g,0,none⟩)) (hq:tmps.getD q undef=v) (hg:w.heap[g]?=some (.cells cs t fr))
  (hu:P.underlying ty=some d) (hd:(match d with | .struct _ | .array _ _=>true | _=>false)=true) (hi:(P.info? ty).map (·.size)=some cs.size) :
  (results fn tmps).run P w=.ok (.tuple #[.agg cs,v]) w:=by
 have hp':tmps[p]?.getD undef=.pointer (some ⟨g,0,none⟩):=by simpa using hp
 have hq':tmps[q]?.getD undef=v:=by simpa using hq
 simp [results,h,hp',hq',asAddr,run_loadVar_row w g t ty cs fr d hg hu hd hi]
theorem SqIn.one {lo hi:Nat} {w:World} {lv:Value} {vs:List Value} {L:List Int} {S:List (List Int)} (h:SqIn lo hi w lv vs L S):lv.oneCell'=true∧∀ v∈vs,v.oneCell'=true:=by
 refine ⟨by obtain ⟨a,c,e,-⟩:=h.large.open;rw [e];rfl,fun v hv=>?_⟩
 obtain ⟨i,hi,rfl⟩:=List.mem_iff_getElem.1 hv
 obtain ⟨a,c,e,-⟩:=(h.small i (by have:=h.len;omega)).open
 rw [List.getD_eq_getElem?_getD,List.getElem?_eq_getElem hi] at e
 simp only [Option.getD_some] at e
 rw [e];rfl
/-- what a square is handed back as -/
def SquareP (lo hi R D:Nat) (bv:Value) (w:World) (r:Except Err SqD×Mod) (e:Ending) (w':World):Prop :=
 Only [R,D] w w'∧ModAt lo hi R D bv w' r.2∧match r.1 with
  | .ok s=>∃ lv vs,e=.returned (.tuple #[.agg (sqL s.kind s.mode s.modes s.vx s.vy lv vs).toArray,.nilIface])∧s.modes.length=4∧SqIn w.heap.size w'.heap.size w' lv vs s.large s.small
  | .error er=>∃ ev,e=.returned (.tuple #[.agg (sqL 0 0 [0,0,0,0] 0 0 nilS [nilS,nilS,nilS,nilS]).toArray,ev])∧ErrV w.heap.size w'.heap.size w' ev er
theorem qDCode0 {p:Prop} (h:p:=by
 obtain ⟨he,lvq,vsq,hrow,hml,hin⟩:=hm
 subst he
 have H66:=lh h66
 have HRow:=lh hrow
 have HIn:=lh hin
 have HIq:=lh (sqL_info (k:=sq.kind) (mo:=sq.mode) (ms:=sq.modes) (vx:=sq.vx) (vy:=sq.vy) (lv:=lvq) (vs:=vsq) hml hin.len)
 have HOq:=lh (sqL_one (k:=sq.kind) (mo:=sq.mode) (ms:=sq.modes) (vx:=sq.vx) (vy:=sq.vy) (lv:=lvq) (vs:=vsq) hin.one.1 hin.one.2)
 have HSq:=lh (sqL_sizes (k:=0) (mo:=0) (ms:=[0,0,0,0]) (vx:=0) (vy:=0) (lv:=nilS) (vs:=[nilS,nilS,nilS,nilS]) (k':=sq.kind) (mo':=sq.mode) (ms':=sq.modes) (vx':=sq.vx) (vy':=sq.vy) (lv':=lvq) (vs':=vsq) rfl rfl hml hin.len)
 have HMl:=lh hml
 have hfin:SqRow (w.heap.size+1) (w6.setRow (w.heap.size+1) (sqL sq.kind sq.mode sq.modes sq.vx sq.vy lvq vsq).toArray) sq.kind sq.mode sq.modes sq.vx sq.vy lvq vsq:=setRow_heap w6 (w.heap.size+1) _ _ _ _ h66
 have hso:=Only.setRow (S:=[w.heap.size+1]) (Only.refl _ w6) (g:=w.heap.size+1) (fun _=>by simp) (sqL sq.kind sq.mode sq.modes sq.vx sq.vy lvq vsq).toArray
 have HFn:=lh hfin
 have HSo:=lh hso
 clear h66 hrow hin hml hfin hso
 go_wp2_with (first
  | (refine wpList_load_row rfl (.tmp 10) 137 rfl rfl HRow.out HUnd.out rfl HIq.out ?_)
  | (refine wpList_store_row rfl (.tmp 6) (.tmp 57) 137 rfl rfl rfl H66.out HIq.out HSq.out HOq.out ?_)
  | fail)
 refine bodyPost_ret (v:=.tuple #[.agg (sqL sq.kind sq.mode sq.modes sq.vx sq.vy lvq vsq).toArray,.nilIface]) (results_cell_row2 Tryz.results52 _ _ (w.heap.size+1) _ _ _ _ _ rfl rfl HFn.out HUnd.out rfl HIq.out) rfl (HPost.out _ _ ?_)
 unfold SquareP
 rw [HFin.out]
 have hz8:=HSo.out.size
 have hZ5:=HZ3.out
 have hZ6:=HZ6.out
 have hN:=HN.out
 have hLt:=HLt.out
 have hR:=HK.out.hR
 refine ⟨HQ6.out.trans HSo.out (U:=[R,D]) (fun g h _=>h) (fun g h hlt=>by rw [mSg] at h;omega),HK6.out.only HSo.out (by simp only [mSg];rintro g rfl;exact ⟨by omega,by omega,by omega⟩),_,_,rfl,HMl.out,?_⟩
 have hin2:=HIn.out.only HSo.out (by simp only [mSg];rintro g rfl;omega)
 exact ⟨hin2.large.mono (by omega) hz8,hin2.len,fun i hi=>(hin2.small i hi).mono (by omega) hz8⟩):p:=h
theorem qDCode1 {p:Prop} (h:p:=by
 obtain ⟨ev,rfl,hev,hc0⟩:=hm
 obtain ⟨et,eu,rfl⟩:=hev.held
 have HEv:=lh hev
 have H66:=lh h66
 clear hev h66
 go_wp2_with fail
 go_at_call 26
 refine (in_any _ _ HEv.out (Nat.le_refl _) HZ6.out).mono ?_
 rintro e w7 ⟨ev7,rfl,hev7,hq7⟩
 obtain ⟨et7,eu7,rfl⟩:=hev7.held
 have HEv7:=lh hev7
 have H67:=lh (hq7.rowAt H66.out (by simp))
 have HQ7:=lh hq7
 clear hev7 hq7 hc0
 have HIz:=lh (sqL_info (k:=0) (mo:=0) (ms:=[0,0,0,0]) (vx:=0) (vy:=0) (lv:=nilS) (vs:=[nilS,nilS,nilS,nilS]) rfl rfl)
 have HOz:=lh (sqL_one (k:=0) (mo:=0) (ms:=[0,0,0,0]) (vx:=0) (vy:=0) (lv:=nilS) rfl nils_one)
 go_wp2_with (first
  | (refine wpList_store_row rfl (.tmp 6) (.tmp 52) 137 rfl rfl rfl H67.out HIz.out rfl HOz.out ?_)
  | fail)
 have hrow:SqRow (w.heap.size+1) (w7.setRow (w.heap.size+1) (sqL 0 0 [0,0,0,0] 0 0 nilS [nilS,nilS,nilS,nilS]).toArray) 0 0 [0,0,0,0] 0 0 nilS [nilS,nilS,nilS,nilS]:=setRow_heap w7 (w.heap.size+1) _ _ _ _ H67.out
 have hso:=Only.setRow (S:=[w.heap.size+1]) (Only.refl _ w7) (g:=w.heap.size+1) (fun _=>by simp) (sqL 0 0 [0,0,0,0] 0 0 nilS [nilS,nilS,nilS,nilS]).toArray
 refine bodyPost_ret (v:=.tuple #[.agg (sqL 0 0 [0,0,0,0] 0 0 nilS [nilS,nilS,nilS,nilS]).toArray,.iface et7 eu7]) (results_cell_row2 Tryz.results52 _ _ (w.heap.size+1) _ _ _ _ _ rfl rfl hrow HUnd.out rfl HIz.out) rfl (HPost.out _ _ ?_)
 unfold SquareP
 rw [HFin.out]
 have hz7:=HQ7.out.size
 have hz8:=hso.size
 have hZ5:=HZ3.out
 have hN:=HN.out
 have hLt:=HLt.out
 have hR:=HK.out.hR
 refine ⟨(HQ6.out.trans HQ7.out (U:=[R,D]) (fun g h _=>h) (by simp)).trans hso (U:=[R,D]) (fun g h _=>h) (fun g h hlt=>by rw [mSg] at h;omega),(HK6.out.quiet HQ7.out).only hso (by simp only [mSg];rintro g rfl;exact ⟨by omega,by omega,by omega⟩),_,rfl,?_⟩
 exact (HEv7.out.only hso (by simp only [mSg];rintro g rfl;omega)).mono (by omega) hz8):p:=h
theorem square_any {lo hi R D:Nat} {bv:Value} {w:World} {m:Mod} (h:ModAt lo hi R D bv w m) (key:Bool) (hp:m.d.pos≤500000000) :
  Calls Tryz.prog 52 #[cv R,.bool key,.agg (sqL 0 0 [0,0,0,0] 0 0 nilS [nilS,nilS,nilS,nilS]).toArray] w (SquareP lo hi R D bv w (squareD key m)):=by
 refine hidQ fun Q HPost=>?_
 have HK:=lh h
 have hlt:=h.lt
 have HLt:=lh hlt
 clear h hlt
 simp only [sqL,List.map_cons,List.map_nil,List.cons_append,List.nil_append]
 go_enter Tryz.func52,Tryz.ntmps52
 go_wp2_with fail
 go_at_call 96
 refine (reads_any R _).mono ?_
 rintro e w1 ⟨rfl,hw1⟩
 have hq1:Only [] w w1:=by rw [← hw1];exact (Only.new w _).alloc _
 have hz1:w1.heap.size=w.heap.size+1+1:=by rw [← hw1];simp
 have h5:SqRow w.heap.size w1 0 0 [0,0,0,0] 0 0 nilS [nilS,nilS,nilS,nilS]:=by
  rw [← hw1];exact (Only.new (w.alloc _) _).rowAt (heap_alloc_new w _) (by simp)
 have h6:SqRow (w.heap.size+1) w1 0 0 [0,0,0,0] 0 0 nilS [nilS,nilS,nilS,nilS]:=by
  rw [← hw1];exact heap_alloc_new' (by simp)
 clear hw1
 have hq2:=Only.new w1 (.cells (madeCells #[.int .i64 0] 64) 3)
 have h5':SqRow w.heap.size (w1.alloc (.cells (madeCells #[.int .i64 0] 64) 3)) 0 0 [0,0,0,0] 0 0 nilS [nilS,nilS,nilS,nilS]:=hq2.rowAt h5 (by simp)
 have HQ1:=lh (hq1.q hq2)
 have H5:=lh h5'
 have H6:=lh (hq2.rowAt h6 (by simp))
 clear h5 h5' h6 hq1 hq2
 have hmk:(Instr.makeSlice 48 (.int .i64 64) (.int .i64 64)).run Tryz.prog w1=.ok (.slice (some ⟨w1.heap.size,0,none⟩) 64 64) (w1.alloc (.cells (madeCells #[.int .i64 0] 64) 3)):=run_make_row' (P:=Tryz.prog) 48 3 (.int .i64 0) 8 EI.ut (by kernel_rfl) rfl .i64 .i64 64 (by omega) (by omega) w1
 have HMk:=lh hmk
 clear hmk
 have HBd:=lh (show (Instr.build 137 #[(4,.slice (some ⟨w1.heap.size,0,none⟩) 64 64)]).run Tryz.prog (w1.alloc (.cells (madeCells #[.int .i64 0] 64) 3))=.ok (.agg (sqL 0 0 [0,0,0,0] 0 0 (.slice (some ⟨w1.heap.size,0,none⟩) 64 64) [nilS,nilS,nilS,nilS]).toArray) (w1.alloc (.cells (madeCells #[.int .i64 0] 64) 3)) by kernel_rfl)
 have h13:=sqL_one (k:=0) (mo:=0) (ms:=[0,0,0,0]) (vx:=0) (vy:=0) (lv:=.slice (some ⟨w.heap.size+1+1,0,none⟩) 64 64) rfl nils_one
 have hinf:=sqL_info (k:=0) (mo:=0) (ms:=[0,0,0,0]) (vx:=0) (vy:=0) (lv:=.slice (some ⟨w.heap.size+1+1,0,none⟩) 64 64) (vs:=[nilS,nilS,nilS,nilS]) rfl rfl
 have hszs:=sqL_sizes (k:=0) (mo:=0) (ms:=[0,0,0,0]) (vx:=0) (vy:=0) (lv:=nilS) (vs:=[nilS,nilS,nilS,nilS]) (k':=0) (mo':=0) (ms':=[0,0,0,0]) (vx':=0) (vy':=0) (lv':=.slice (some ⟨w.heap.size+1+1,0,none⟩) 64 64) (vs':=[nilS,nilS,nilS,nilS]) rfl rfl rfl rfl
 have HSt:=lh (And.intro hinf (And.intro hszs h13))
 clear h13 hinf hszs
 rw [hz1] at HMk HBd
 go_wp2_with (first
  | (refine wpList_make rfl 48 _ _ rfl HMk.out ?_;refine wpList_build rfl 137 [(4,.tmp 14)] rfl HBd.out ?_)
  | (refine wpList_store_row rfl (.tmp 5) (.tmp 15) 137 rfl rfl rfl H5.out HSt.out.1 HSt.out.2.1 HSt.out.2.2 ?_)
  | fail)
 have hset:=setRow_heap (w1.alloc (.cells (madeCells #[.int .i64 0] 64) 3)) w.heap.size _ (sqL 0 0 [0,0,0,0] 0 0 (.slice (some ⟨w.heap.size+1+1,0,none⟩) 64 64) [nilS,nilS,nilS,nilS]).toArray _ _ H5.out
 have hso:=Only.setRow (S:=[w.heap.size]) (Only.refl _ (w1.alloc (.cells (madeCells #[.int .i64 0] 64) 3))) (g:=w.heap.size) (fun _=>by simp) (sqL 0 0 [0,0,0,0] 0 0 (.slice (some ⟨w.heap.size+1+1,0,none⟩) 64 64) [nilS,nilS,nilS,nilS]).toArray
 have hmade:=(own_made .i64 3 w1 64 (by simp [maxLen]))
 rw [hz1] at hmade
 have HL2:=lh ((hmade.ints.only hso (by simp only [mSg];rintro g rfl;omega)).mono (lo':=w.heap.size+1+1) (hi':=w1.heap.size+1) (Nat.le_refl _) (by simp))
 have HQ2:=lh (HQ1.out.trans hso (U:=[]) (by simp) (fun g hg hlt=>by rw [mSg] at hg;omega))
 have H62:=lh (hso.rowAt H6.out (by simp))
 have H52:=lh hset
 have hz2:=hso.size
 rw [World.size_alloc] at hz2
 clear hset hso hmade HSt HMk HBd H5 H6 HQ1
 generalize World.setRow _ _ _=W2 at *
 go_loopw [16] (fun i wr=>∃ (k:Nat) (vs:List Value),k≤4∧i=.int .i64 k∧Hid (SqRow w.heap.size wr 0 0 [0,0,0,0] 0 0 (.slice (some ⟨w.heap.size+1+1,0,none⟩) 64 64) vs)∧Hid (vs.length=4)∧Hid (∀ j,j<k→Ints .i64 (w.heap.size+1+1) wr.heap.size wr (vs.getD j nilS) (List.replicate 16 0))∧Hid (Only [w.heap.size] W2 wr)) (fun i _=>4-(intOf i).toNat)
 case atStart=>exact ⟨0,_,by omega,rfl,H52,lh rfl,lh (fun j hj=>absurd hj (by omega)),lh (Only.refl _ _)⟩
 case round =>
  obtain ⟨k,vs,hk,rfl,H5r,Hvl,Hins,HQr⟩:=hrel
  by_cases hlt:k<4
  ·have hki:(k:Int)<4:=by omega
   have hk0:(0:Int)≤(k:Int):=by omega
   have hmk:(Instr.makeSlice 48 (.int .i64 16) (.int .i64 16)).run Tryz.prog wr=.ok (.slice (some ⟨wr.heap.size,0,none⟩) 16 16) (wr.alloc (.cells (madeCells #[.int .i64 0] 16) 3)):=run_make_row' (P:=Tryz.prog) 48 3 (.int .i64 0) 8 EI.ut (by kernel_rfl) rfl .i64 .i64 16 (by omega) (by omega) wr
   have hqn:=Only.new wr (.cells (madeCells #[.int .i64 0] 16) 3)
   have h5n:SqRow w.heap.size (wr.alloc (.cells (madeCells #[.int .i64 0] 16) 3)) 0 0 [0,0,0,0] 0 0 (.slice (some ⟨w.heap.size+1+1,0,none⟩) 64 64) vs:=hqn.rowAt H5r.out (by simp)
   have cx:=h5n.cell (i:=9+k) (sqL_small rfl Hvl.out hlt)
   have fx:=frozen_of_row _ _ (9+k) _ _ h5n
   obtain ⟨hs,hso⟩:=h5n.set (sqL_setSmall rfl Hvl.out hlt (.slice (some ⟨wr.heap.size,0,none⟩) 16 16))
   have hown:=own_made .i64 3 wr 16 (by simp [maxLen])
   have hzr:=HQr.out.size
   have HS:=lh hs
   have HOwn:=lh (hown.ints.only hso (by simp only [mSg];rintro g rfl;omega))
   have HQn:=lh (((HQr.out.mono (U:=[w.heap.size]) (fun g h _=>h)).trans hqn (U:=[w.heap.size]) (fun g h _=>h) (by simp)).trans hso (U:=[w.heap.size]) (fun g h _=>h) (fun g h _=>h))
   have HQw:=lh ((hqn.mono (U:=[w.heap.size]) (by simp)).trans hso (U:=[w.heap.size]) (fun g h _=>h) (fun g h _=>h))
   have hz4:=hso.size
   clear hqn h5n hs hso hown
   go_wp2_with fail
   exact ⟨⟨k+1,vs.set k _,by omega,by go_num,HS,lh (by rw [List.length_set];exact Hvl.out),lh (fun j hj=>by
    by_cases hjk:j=k
    ·subst hjk
     rw [List.getD_eq_getElem?_getD,List.getElem?_set_self (by rw [Hvl.out];exact hlt)]
     exact HOwn.out.mono (by omega) (Nat.le_of_eq (by simp))
    ·rw [List.getD_eq_getElem?_getD,List.getElem?_set_ne (Ne.symm hjk),← List.getD_eq_getElem?_getD]
     exact ((Hins.out j (by omega)).only HQw.out (fun g hg=>.inl (by rw [mSg] at hg;omega))).mono (Nat.le_refl _) (by have:=HQw.out.size;omega)),HQn⟩,by simp [intOf];omega⟩
  ·obtain rfl:k=4:=by omega
   have hki:¬ ((4:Nat):Int)<4:=by omega
   have hqn:=Only.new wr (.cells #[.int .i64 0,.int .i64 0,.int .i64 0,.int .i64 0,.int .i64 0,.int .i64 0,.int .i64 0,.int .i64 0,.slice none 0 0,.slice none 0 0,.slice none 0 0,.slice none 0 0,.slice none 0 0] 137)
   have hO3:SqRow wr.heap.size (wr.alloc (.cells #[.int .i64 0,.int .i64 0,.int .i64 0,.int .i64 0,.int .i64 0,.int .i64 0,.int .i64 0,.int .i64 0,.slice none 0 0,.slice none 0 0,.slice none 0 0,.slice none 0 0,.slice none 0 0] 137)) 0 0 [0,0,0,0] 0 0 nilS [nilS,nilS,nilS,nilS]:=heap_alloc_new _ _
   have h53:SqRow w.heap.size (wr.alloc (.cells #[.int .i64 0,.int .i64 0,.int .i64 0,.int .i64 0,.int .i64 0,.int .i64 0,.int .i64 0,.int .i64 0,.slice none 0 0,.slice none 0 0,.slice none 0 0,.slice none 0 0,.slice none 0 0] 137)) 0 0 [0,0,0,0] 0 0 (.slice (some ⟨w.heap.size+1+1,0,none⟩) 64 64) vs:=hqn.rowAt H5r.out (by simp)
   have h63:SqRow (w.heap.size+1) (wr.alloc (.cells #[.int .i64 0,.int .i64 0,.int .i64 0,.int .i64 0,.int .i64 0,.int .i64 0,.int .i64 0,.int .i64 0,.slice none 0 0,.slice none 0 0,.slice none 0 0,.slice none 0 0,.slice none 0 0] 137)) 0 0 [0,0,0,0] 0 0 nilS [nilS,nilS,nilS,nilS]:=hqn.rowAt (HQr.out.rowAt H62.out (by simp)) (by simp)
   have hq3:=((HQ2.out.trans HQr.out (U:=[]) (by simp) (fun g hg hlt=>by rw [mSg] at hg;omega)).q hqn)
   have hzr:=HQr.out.size
   have hlt:=HLt.out
   have HN:Hid (w.heap.size+1+1+1≤wr.heap.size):=lh (by omega)
   have HL3:=lh (((HL2.out.only HQr.out (by simp only [mSg];rintro g rfl;omega)).quiet hqn).mono (lo':=w.heap.size+1+1) (hi':=wr.heap.size) (Nat.le_refl _) (by omega))
   have HI3:=lh (fun i (hi:i<4)=>(Hins.out i hi).quiet hqn)
   have HK3:=lh (HK.out.quiet hq3)
   have H53:=lh h53
   have H63:=lh h63
   have HO3:=lh hO3
   have HQ3:=lh hq3
   have c50:=h53.cell (i:=0) (x:=.int .i64 0) rfl
   have hz3:wr.heap.size<(wr.alloc (.cells #[.int .i64 0,.int .i64 0,.int .i64 0,.int .i64 0,.int .i64 0,.int .i64 0,.int .i64 0,.int .i64 0,.slice none 0 0,.slice none 0 0,.slice none 0 0,.slice none 0 0,.slice none 0 0] 137)).heap.size:=by simp
   have HZ3:=lh hz3
   have mf:=mFlat R
   have HUnd:=lh Tryz.underlying137
   have HInf:=lh (sqL_info (k:=0) (mo:=0) (ms:=[0,0,0,0]) (vx:=0) (vy:=0) (lv:=(.slice (some ⟨w.heap.size+1+1,0,none⟩) 64 64)) (vs:=vs) rfl Hvl.out)
   clear hqn hO3 h53 h63 hq3 hlt hz3 H5r Hins HQr HL2 HQ2 H62 H52
   generalize hO:wr.heap.size=O at *
   clear hzr
   cases key with
   | false =>
    have hka:=kindD_adv HK3.out.ok
    have hkp:=hka.1.pos
    have hk3:=hka.2
    have HFin:Hid (squareD false m=match (partsD (kindD m).1 (kindD m).2).1 with
     | .error e=>(.error (inD sSyntax (kindD m).1 e),(partsD (kindD m).1 (kindD m).2).2)
     | .ok s=>(.ok s,(partsD (kindD m).1 (kindD m).2).2)):=lh rfl
    have HC:=lh (fun (W:World) (hk:ModAt lo hi R D bv W m)=>mkind_any hk 0 (by omega))
    clear hka
    generalize kindD m=KD at *
    obtain ⟨kn,m1⟩:=KD
    simp only at hkp hk3 HFin HC
    go_wp2_with fail
    go_at_call 98
    refine (HC.out _ HK3.out).mono ?_
    rintro e w2 ⟨rfl,hk2,hq2⟩
    have ho:SqRow O w2 0 0 [0,0,0,0] 0 0 nilS [nilS,nilS,nilS,nilS]:=hq2.rowAt HO3.out (by have:=HLt.out;have:=HN.out;simp only [List.mem_cons,List.not_mem_nil,or_false];omega)
    have h5:SqRow w.heap.size w2 0 0 [0,0,0,0] 0 0 (.slice (some ⟨w.heap.size+1+1,0,none⟩) 64 64) vs:=hq2.rowAt H53.out (by have:=HLt.out;simp only [List.mem_cons,List.not_mem_nil,or_false];omega)
    have h6:SqRow (w.heap.size+1) w2 0 0 [0,0,0,0] 0 0 nilS [nilS,nilS,nilS,nilS]:=hq2.rowAt H63.out (by have:=HLt.out;simp only [List.mem_cons,List.not_mem_nil,or_false];omega)
    have cx:=ho.cell (i:=0) (x:=.int .i64 0) rfl
    have fx:=frozen_of_row _ _ 0 _ _ ho
    obtain ⟨hs,hso⟩:=ho.set (i:=0) (sqL_setK (kn:Int))
    have hR0:R∉[O]∧D∉[O]:=by have:=HLt.out;have:=HN.out;simp only [mSg];omega
    have HOp:=lh hs
    have H5p:Hid (SqRow w.heap.size _ 0 0 [0,0,0,0] 0 0 (.slice (some ⟨w.heap.size+1+1,0,none⟩) 64 64) vs):=lh (hso.rowAt h5 (by have:=HN.out;simp only [mSg];omega))
    have H6p:Hid (SqRow (w.heap.size+1) _ 0 0 [0,0,0,0] 0 0 nilS [nilS,nilS,nilS,nilS]):=lh (hso.rowAt h6 (by have:=HN.out;simp only [mSg];omega))
    have HKp:=lh (hk2.only hso (by simp only [mSg];rintro g rfl;have:=HLt.out;have:=HN.out;have:=HK.out.hR;exact ⟨by omega,by omega,by omega⟩))
    have HQp:=lh ((((HQ3.out.mono (U:=[R,D]) (by simp)).trans hq2 (fun g h _=>h) (fun g h _=>h))).trans hso (U:=[R,D]) (fun g h _=>h) (fun g h hlt=>by rw [mSg] at h;have:=HN.out;omega))
    have HLp:=lh ((HL3.out.only hq2 (by have:=HLt.out;intro g hg;simp only [List.mem_cons,List.not_mem_nil,or_false] at hg;omega)).only hso (by intro g hg;rw [mSg] at hg;omega))
    have HIp:=lh (fun i (hi:i<4)=>((HI3.out i hi).only hq2 (by have:=HLt.out;intro g hg;simp only [List.mem_cons,List.not_mem_nil,or_false] at hg;omega)).only hso (by intro g hg;rw [mSg] at hg;omega))
    have hzp:=Nat.le_trans hq2.size hso.size
    clear ho h5 h6 hs hso hk2 hq2
    go_wp2_with (first
     | (refine wpList_load_row rfl (.tmp 5) 137 rfl rfl H5p.out HUnd.out rfl HInf.out ?_)
     | fail)
    clear cx fx c50
    generalize World.setCell w2 _ _=W5 at *
    have HPt:=lh (parts_any (k:=kn) (lo':=w.heap.size+1+1) (hi':=O) (by omega) HKp.out ⟨rfl,HLp.out,Hvl.out,HIp.out⟩ (by have:=HLt.out;omega) (by have:=HLt.out;omega) (by have:=HZ3.out;omega) (by have:=HLt.out;have:=HN.out;have:=HK.out.hR;exact ⟨by omega,by omega,by omega,by omega⟩) HOp.out (by omega))
    have HAdv:=lh (partsD_adv (k:=kn) (by omega) HKp.out.ok)
    generalize partsD kn m1=PD at *
    obtain ⟨r,m2⟩:=PD
    simp only at HFin HPt HAdv
    go_at_call 99
    refine HPt.out.mono ?_
    rintro e w6 ⟨hq6,hk6,hm⟩
    have hON:w.heap.size+1∉[R,D,O]:=by have:=HLt.out;have:=HN.out;simp only [List.mem_cons,List.not_mem_nil,or_false];omega
    have h66:SqRow (w.heap.size+1) w6 0 0 [0,0,0,0] 0 0 nilS [nilS,nilS,nilS,nilS]:=hq6.rowAt H6p.out hON
    have HQ6:=lh (HQp.out.trans hq6 (U:=[R,D]) (fun g h _=>h) (fun g h hlt=>by have:=HN.out;simp only [List.mem_cons,List.not_mem_nil,or_false] at h ⊢;rcases h with h | h | h;exact .inl h;exact .inr h;omega))
    have HK6:=lh hk6
    have HZ6:=lh hq6.size
    clear hk6 hq6 HPt hON
    cases r with
    | error er =>
     exact qDCode1
    | ok sq =>
     exact qDCode0
   | true =>
    have hfa:=flatD_adv HK3.out.ok
    have hkp:=hfa.pos
    have HC:=lh (fun (W:World) (hk:ModAt lo hi R D bv W m) (b:Bool)=>flat_any hk b (by omega))
    clear hfa
    cases hf:(flatD m).1 with
    | true =>
     have HFin:Hid (squareD true m=match (partsD 3 (flatD m).2).1 with
      | .error e=>(.error (inD sSyntax (3:Nat) e),(partsD 3 (flatD m).2).2)
      | .ok s=>(.ok s,(partsD 3 (flatD m).2).2)):=lh (by unfold squareD kindK;rw [hf];rfl)
     rw [hf] at HC
     clear hf
     generalize (flatD m).2=m1 at *
     go_wp2_with fail
     go_at_call 245
     refine (HC.out _ HK3.out _).mono ?_
     rintro e w2 ⟨rfl,hk2,hq2⟩
     have ho:SqRow O w2 0 0 [0,0,0,0] 0 0 nilS [nilS,nilS,nilS,nilS]:=hq2.rowAt HO3.out (by have:=HLt.out;have:=HN.out;simp only [List.mem_cons,List.not_mem_nil,or_false];omega)
     have h5:SqRow w.heap.size w2 0 0 [0,0,0,0] 0 0 (.slice (some ⟨w.heap.size+1+1,0,none⟩) 64 64) vs:=hq2.rowAt H53.out (by have:=HLt.out;simp only [List.mem_cons,List.not_mem_nil,or_false];omega)
     have h6:SqRow (w.heap.size+1) w2 0 0 [0,0,0,0] 0 0 nilS [nilS,nilS,nilS,nilS]:=hq2.rowAt H63.out (by have:=HLt.out;simp only [List.mem_cons,List.not_mem_nil,or_false];omega)
     have cx:=ho.cell (i:=0) (x:=.int .i64 0) rfl
     have fx:=frozen_of_row _ _ 0 _ _ ho
     obtain ⟨hs,hso⟩:=ho.set (i:=0) (sqL_setK 3)
     have hR0:R∉[O]∧D∉[O]:=by have:=HLt.out;have:=HN.out;simp only [mSg];omega
     have HOp:=lh hs
     have H5p:Hid (SqRow w.heap.size _ 0 0 [0,0,0,0] 0 0 (.slice (some ⟨w.heap.size+1+1,0,none⟩) 64 64) vs):=lh (hso.rowAt h5 (by have:=HN.out;simp only [mSg];omega))
     have H6p:Hid (SqRow (w.heap.size+1) _ 0 0 [0,0,0,0] 0 0 nilS [nilS,nilS,nilS,nilS]):=lh (hso.rowAt h6 (by have:=HN.out;simp only [mSg];omega))
     have HKp:=lh (hk2.only hso (by simp only [mSg];rintro g rfl;have:=HLt.out;have:=HN.out;have:=HK.out.hR;exact ⟨by omega,by omega,by omega⟩))
     have HQp:=lh ((((HQ3.out.mono (U:=[R,D]) (by simp)).trans hq2 (fun g h _=>h) (fun g h _=>h))).trans hso (U:=[R,D]) (fun g h _=>h) (fun g h hlt=>by rw [mSg] at h;have:=HN.out;omega))
     have HLp:=lh ((HL3.out.only hq2 (by have:=HLt.out;intro g hg;simp only [List.mem_cons,List.not_mem_nil,or_false] at hg;omega)).only hso (by intro g hg;rw [mSg] at hg;omega))
     have HIp:=lh (fun i (hi:i<4)=>((HI3.out i hi).only hq2 (by have:=HLt.out;intro g hg;simp only [List.mem_cons,List.not_mem_nil,or_false] at hg;omega)).only hso (by intro g hg;rw [mSg] at hg;omega))
     have hzp:=Nat.le_trans hq2.size hso.size
     clear ho h5 h6 hs hso hk2 hq2
     go_wp2_with (first
      | (refine wpList_load_row rfl (.tmp 5) 137 rfl rfl H5p.out HUnd.out rfl HInf.out ?_)
      | fail)
     clear cx fx c50
     generalize World.setCell w2 _ _=W5 at *
     have HPt:=lh (parts_any (k:=3) (lo':=w.heap.size+1+1) (hi':=O) (by omega) HKp.out ⟨rfl,HLp.out,Hvl.out,HIp.out⟩ (by have:=HLt.out;omega) (by have:=HLt.out;omega) (by have:=HZ3.out;omega) (by have:=HLt.out;have:=HN.out;have:=HK.out.hR;exact ⟨by omega,by omega,by omega,by omega⟩) HOp.out (by omega))
     have HAdv:=lh (partsD_adv (k:=3) (by omega) HKp.out.ok)
     generalize partsD 3 m1=PD at *
     obtain ⟨r,m2⟩:=PD
     simp only at HFin HPt HAdv
     go_at_call 99
     refine HPt.out.mono ?_
     rintro e w6 ⟨hq6,hk6,hm⟩
     have hON:w.heap.size+1∉[R,D,O]:=by have:=HLt.out;have:=HN.out;simp only [List.mem_cons,List.not_mem_nil,or_false];omega
     have h66:SqRow (w.heap.size+1) w6 0 0 [0,0,0,0] 0 0 nilS [nilS,nilS,nilS,nilS]:=hq6.rowAt H6p.out hON
     have HQ6:=lh (HQp.out.trans hq6 (U:=[R,D]) (fun g h _=>h) (fun g h hlt=>by have:=HN.out;simp only [List.mem_cons,List.not_mem_nil,or_false] at h ⊢;rcases h with h | h | h;exact .inl h;exact .inr h;omega))
     have HK6:=lh hk6
     have HZ6:=lh hq6.size
     clear hk6 hq6 HPt hON
     cases r with
     | error er =>
      exact qDCode1
     | ok sq =>
      exact qDCode0
    | false =>
     have HFin:Hid (squareD true m=match (partsD 2 (flatD m).2).1 with
      | .error e=>(.error (inD sSyntax (2:Nat) e),(partsD 2 (flatD m).2).2)
      | .ok s=>(.ok s,(partsD 2 (flatD m).2).2)):=lh (by unfold squareD kindK;rw [hf];rfl)
     rw [hf] at HC
     clear hf
     generalize (flatD m).2=m1 at *
     go_wp2_with fail
     go_at_call 245
     refine (HC.out _ HK3.out _).mono ?_
     rintro e w2 ⟨rfl,hk2,hq2⟩
     have ho:SqRow O w2 0 0 [0,0,0,0] 0 0 nilS [nilS,nilS,nilS,nilS]:=hq2.rowAt HO3.out (by have:=HLt.out;have:=HN.out;simp only [List.mem_cons,List.not_mem_nil,or_false];omega)
     have h5:SqRow w.heap.size w2 0 0 [0,0,0,0] 0 0 (.slice (some ⟨w.heap.size+1+1,0,none⟩) 64 64) vs:=hq2.rowAt H53.out (by have:=HLt.out;simp only [List.mem_cons,List.not_mem_nil,or_false];omega)
     have h6:SqRow (w.heap.size+1) w2 0 0 [0,0,0,0] 0 0 nilS [nilS,nilS,nilS,nilS]:=hq2.rowAt H63.out (by have:=HLt.out;simp only [List.mem_cons,List.not_mem_nil,or_false];omega)
     have cx:=ho.cell (i:=0) (x:=.int .i64 0) rfl
     have fx:=frozen_of_row _ _ 0 _ _ ho
     obtain ⟨hs,hso⟩:=ho.set (i:=0) (sqL_setK 2)
     have hR0:R∉[O]∧D∉[O]:=by have:=HLt.out;have:=HN.out;simp only [mSg];omega
     have HOp:=lh hs
     have H5p:Hid (SqRow w.heap.size _ 0 0 [0,0,0,0] 0 0 (.slice (some ⟨w.heap.size+1+1,0,none⟩) 64 64) vs):=lh (hso.rowAt h5 (by have:=HN.out;simp only [mSg];omega))
     have H6p:Hid (SqRow (w.heap.size+1) _ 0 0 [0,0,0,0] 0 0 nilS [nilS,nilS,nilS,nilS]):=lh (hso.rowAt h6 (by have:=HN.out;simp only [mSg];omega))
     have HKp:=lh (hk2.only hso (by simp only [mSg];rintro g rfl;have:=HLt.out;have:=HN.out;have:=HK.out.hR;exact ⟨by omega,by omega,by omega⟩))
     have HQp:=lh ((((HQ3.out.mono (U:=[R,D]) (by simp)).trans hq2 (fun g h _=>h) (fun g h _=>h))).trans hso (U:=[R,D]) (fun g h _=>h) (fun g h hlt=>by rw [mSg] at h;have:=HN.out;omega))
     have HLp:=lh ((HL3.out.only hq2 (by have:=HLt.out;intro g hg;simp only [List.mem_cons,List.not_mem_nil,or_false] at hg;omega)).only hso (by intro g hg;rw [mSg] at hg;omega))
     have HIp:=lh (fun i (hi:i<4)=>((HI3.out i hi).only hq2 (by have:=HLt.out;intro g hg;simp only [List.mem_cons,List.not_mem_nil,or_false] at hg;omega)).only hso (by intro g hg;rw [mSg] at hg;omega))
     have hzp:=Nat.le_trans hq2.size hso.size
     clear ho h5 h6 hs hso hk2 hq2
     go_wp2_with (first
      | (refine wpList_load_row rfl (.tmp 5) 137 rfl rfl H5p.out HUnd.out rfl HInf.out ?_)
      | fail)
     clear cx fx c50
     generalize World.setCell w2 _ _=W5 at *
     have HPt:=lh (parts_any (k:=2) (lo':=w.heap.size+1+1) (hi':=O) (by omega) HKp.out ⟨rfl,HLp.out,Hvl.out,HIp.out⟩ (by have:=HLt.out;omega) (by have:=HLt.out;omega) (by have:=HZ3.out;omega) (by have:=HLt.out;have:=HN.out;have:=HK.out.hR;exact ⟨by omega,by omega,by omega,by omega⟩) HOp.out (by omega))
     have HAdv:=lh (partsD_adv (k:=2) (by omega) HKp.out.ok)
     generalize partsD 2 m1=PD at *
     obtain ⟨r,m2⟩:=PD
     simp only at HFin HPt HAdv
     go_at_call 99
     refine HPt.out.mono ?_
     rintro e w6 ⟨hq6,hk6,hm⟩
     have hON:w.heap.size+1∉[R,D,O]:=by have:=HLt.out;have:=HN.out;simp only [List.mem_cons,List.not_mem_nil,or_false];omega
     have h66:SqRow (w.heap.size+1) w6 0 0 [0,0,0,0] 0 0 nilS [nilS,nilS,nilS,nilS]:=hq6.rowAt H6p.out hON
     have HQ6:=lh (HQp.out.trans hq6 (U:=[R,D]) (fun g h _=>h) (fun g h hlt=>by have:=HN.out;simp only [List.mem_cons,List.not_mem_nil,or_false] at h ⊢;rcases h with h | h | h;exact .inl h;exact .inr h;omega))
     have HK6:=lh hk6
     have HZ6:=lh hq6.size
     clear hk6 hq6 HPt hON
     cases r with
     | error er =>
      exact qDCode1
     | ok sq =>
      exact qDCode0
end Go.Proofs.YtmdobcffijnaoaaGreatDoor
