/- Joined texts: EPart, EChk, ECodW. Conditions: each part names its own. -/
import Derived.Test.YtkigikallkpbcaaGreatDoorT1
import Derived.Test.YtkigikallkpbcaaGreatDoorW4
import Derived.Test.YtkigikallkpbcaaGreatDoorWC
import Derived.Test.YtkigikallkpbcaaGreatDoorZECoef8
import Derived.Test.YtkigikallkpbcaaGreatDoorK6
import Derived.Test.YtkigikallkpbcaaGreatDoorS3
import Derived.Test.YtkigikallkpbcaaGreatDoorW5
import Derived.Deep.CutBlock
namespace Go.Proofs.YtkigikallkpbcaaGreatDoor
open Go.RowKit
set_option linter.unusedVariables false
set_option linter.unusedSimpArgs false
set_option maxRecDepth 100000
set_option maxHeartbeats 16000000
/-- the coder that writes, as a model.Coder -/
abbrev wv (R:Nat):Value:=.iface 184 (.pointer (some ⟨R,0,none⟩))
/-- a square's row, whatever stands in it -/
def RowQ (O:Nat) (w:World):Prop:=∃ C:Array Value,w.heap[O]?=some (.cells C 158 (0,0))∧C.size=13∧∀ (i:Nat) (h:i<C.size),C[i].oneCell'=true
theorem RowQ.quiet {O:Nat} {w w':World} (h:RowQ O w) (o:Only [] w w'):RowQ O w':=by
 obtain ⟨C,h1,h2⟩:=h
 exact ⟨C,o.row h1,h2⟩
theorem RowQ.went {O:Nat} {F F':List Nat} {w w':World} (h:RowQ O w) (o:Went F w F' w') (hO:O∉F):RowQ O w':=by
 obtain ⟨C,h1,h2⟩:=h
 exact ⟨C,o.1.rowAt h1 hO,h2⟩
theorem RowQ.set {O:Nat} {w:World} (h:RowQ O w) {i:Nat} (hi:i<13) {v:Value} (hv:v.oneCell'=true):RowQ O (w.setCell ⟨O,i,none⟩ v)∧Only [O] w (w.setCell ⟨O,i,none⟩ v)∧(∃ u,w.cell? ⟨O,i,none⟩=some u)∧w.frozen? ⟨O,i,none⟩=false:=by
 obtain ⟨C,h1,h2,h3⟩:=h
 refine ⟨⟨_,heap_setCell_same w O i _ _ v h1,by simpa using h2,fun j hj=>?_⟩,(Only.refl _ _).setCell (by simp) _,⟨C[i]'(by omega),by rw [cell_of_row _ _ _ _ _ _ h1,Array.getElem?_eq_getElem (by omega)]⟩,frozen_of_row _ _ _ _ _ h1⟩
 rw [Array.getElem_setIfInBounds]
 split
 ·exact hv
 ·exact h3 j (by simpa using hj)
theorem SqRow.q {O:Nat} {w:World} {k mo:Int} {ms:List Int} {vx vy:Int} {lv:Value} {vs:List Value} (h:SqRow O w k mo ms vx vy lv vs) (hm:ms.length=4) (hv:vs.length=4) (hl:lv.oneCell'=true) (hs:∀ v∈vs,v.oneCell'=true):RowQ O w:=by
 have h1:=sqL_one (k:=k) (mo:=mo) (ms:=ms) (vx:=vx) (vy:=vy) hl hs
 rw [Array.all_eq_true] at h1
 exact ⟨_,h,by rw [List.size_toArray,sqL_size hm hv],h1⟩
section
variable {base R E:Nat} {F:List Nat} {w:World} {m:Wrt} {n:Nat}
/-- coef.Code by the coder that writes -/
theorem wcode_any {side lo' hi':Nat} (hs:side=4∨side=8) {lv:Value} {l:List Int} (h:(pcWrite base R E).At F w m) (hl:Ints .i64 lo' hi' w lv l) (hlen:l.length=side*side) (hlev:LevOk l) (hF:∀ x∈F,x<lo'∨hi'≤x) (hw:hi'≤w.heap.size) (ok:WOk n m) (hn:n≤600000000) :
  Calls Tryz.prog 141 #[wv R,lv] w fun e w'=>∃ g cap F',e=.returned (.tuple #[.slice (some ⟨g,0,none⟩) (side*side) cap,.nilIface])∧(pcWrite base R E).At F' w' (coefG wrC side l m).2∧Went F w F' w':=by
 have hv:=coef_val hs hlen hlev m
 have go:∀ e w',CodeP (pcWrite base R E) F w (coefG wrC side l m) e w'→∃ g cap F',e=.returned (.tuple #[.slice (some ⟨g,0,none⟩) (side*side) cap,.nilIface])∧(pcWrite base R E).At F' w' (coefG wrC side l m).2∧Went F w F' w':=by
  intro e w' h
  unfold CodeP at h
  rw [hv] at h
  obtain ⟨F',h1,h2,v',rfl,h3,-⟩:=h
  obtain ⟨g,cap,rfl,-,-⟩:=h3.form (by rw [hlen];rcases hs with rfl | rfl <;> omega)
  rw [hlen]
  exact ⟨g,cap,F',rfl,h1,h2⟩
 rcases hs with rfl | rfl
 ·exact (pcode4_any (pcWrite base R E) h hl hlen hlev hF hw (fun a ha c m e=>by have e2:decide (l.getD a 0≠0)=false:=e;simpa using e2) ok hn).mono go
 ·exact (pcode8_any (pcWrite base R E) h hl hlen hlev hF hw (fun a ha c m e=>by have e2:decide (l.getD a 0≠0)=false:=e;simpa using e2) ok hn).mono go
/-- the coder gone on, the square's row in block O -/
structure PSt (base R E O:Nat) (F:List Nat) (w0 w:World) (F':List Nat) (m:Wrt):Prop where
 at_:(pcWrite base R E).At F' w m
 row:RowQ O w
 out:O∉F'
 went:Went (O :: F) w0 (O :: F') w
 lt:O<w0.heap.size∧base≤O
theorem Went.cons {O:Nat} {F F':List Nat} {w w':World} (h:Went F w F' w'):Went (O :: F) w (O :: F') w' :=
 ⟨h.1.mono (fun g hg _=>List.mem_cons_of_mem _ hg),fun g hg=>by
  rcases List.mem_cons.1 hg with rfl | hg
  ·exact .inl (List.mem_cons_self ..)
  ·exact (h.2 g hg).imp_left (List.mem_cons_of_mem _)⟩
section
variable {O:Nat} {w0 w':World} {F1 F2:List Nat} {m':Wrt}
theorem PSt.size (h:PSt base R E O F w0 w F1 m):w0.heap.size≤w.heap.size:=h.went.1.size
theorem PSt.call (h:PSt base R E O F w0 w F1 m) (a:(pcWrite base R E).At F2 w' m') (g:Went F1 w F2 w'):PSt base R E O F w0 w' F2 m' :=
 ⟨a,h.row.went g h.out,fun hm=>by
  rcases g.2 O hm with h1 | h1
  ·exact h.out h1
  ·have:=h.size;have:=h.lt.1;omega,h.went.trans g.cons,h.lt⟩
theorem PSt.store (h:PSt base R E O F w0 w F1 m) {i:Nat} (hi:i<13) {v:Value} (hv:v.oneCell'=true):PSt base R E O F w0 (w.setCell ⟨O,i,none⟩ v) F1 m∧(∃ u,w.cell? ⟨O,i,none⟩=some u)∧w.frozen? ⟨O,i,none⟩=false∧Only [O] w (w.setCell ⟨O,i,none⟩ v):=by
 obtain ⟨a,b,c,d⟩:=h.row.set hi hv
 refine ⟨⟨(pcWrite base R E).only h.at_ b (fun g hg=>by rw [mSg] at hg;subst hg;exact ⟨h.lt.2,h.out⟩),a,h.out,h.went.trans ⟨b.mono (fun g hg _=>by rw [mSg] at hg;subst hg;exact List.mem_cons_self ..),fun g hg=>.inl hg⟩,h.lt⟩,c,d,b⟩
theorem PSt.quiet (h:PSt base R E O F w0 w F1 m) (o:Only [] w w'):PSt base R E O F w0 w' F1 m :=
 ⟨(pcWrite base R E).only h.at_ o (by simp),h.row.quiet o,h.out,h.went.q o,h.lt⟩
/-- a block that lies apart -/
theorem PSt.keep (h:PSt base R E O F w0 w F1 m) {g:Nat} {o:Obj} (hg:w0.heap[g]?=some o) (hn:g∉O :: F):w.heap[g]?=some o:=h.went.1.rowAt hg hn
end
theorem parts2_st (q:AskD) (m:Wrt):(partsG wrC q 2 m).2=(coefG wrC 8 q.large (modeG wrC q.mode m).2).2:=by
 unfold partsG
 rw [if_neg (by decide),if_neg (by decide),if_neg (by decide)]
 split <;> rfl
theorem parts1_st (q:AskD) (m:Wrt):(partsG wrC q 1 m).2=(coefG wrC 8 q.large (partG wrC q.vy (partG wrC q.vx m).2).2).2:=by
 unfold partsG
 rw [if_neg (by decide),if_neg (by decide),if_pos rfl]
 split <;> rfl
theorem parts3_st (q:AskD) (m:Wrt):(partsG wrC q 3 m).2=(smallGoG wrC q.modes q.small 4 [] [] m).2:=by
 unfold partsG
 rw [if_pos rfl]
 split <;> rfl
theorem wparts_any {O lo hi:Nat} {key:Bool} {s:SqD} {lv:Value} {vs:List Value} (hA:(pcWrite base R E).At F w m) (hs:SqWr key s) (hin:SqIn lo hi w lv vs s.large s.small) (hml:s.modes.length=4) (hF:∀ x∈F,x<lo∨hi≤x) (hw:hi≤w.heap.size) (ho:SqRow O w s.kind 0 [0,0,0,0] 0 0 nilS [nilS,nilS,nilS,nilS]) (hOb:base≤O) (hOF:O∉F) (hOl:O<lo∨hi≤O) (ok:WOk n m) (hn:n≤100000000) :
  Calls Tryz.prog 115 #[wv R,.agg (sqL s.kind s.mode s.modes s.vx s.vy lv vs).toArray,.pointer (some ⟨O,0,none⟩)] w fun e w'=>(e=.returned .nilIface∧∃ F',(pcWrite base R E).At F' w' (partsG wrC (askOf s) s.kind m).2∧RowQ O w'∧O∉F'∧Went (O :: F) w (O :: F') w'):=by
 refine hidQ fun Q HPost=>?_
 have HF0:=lh (show ∀ x∈F,x<w.heap.size from fun x hx=>(pcWrite base R E).lt hA x hx)
 have hlt:=(Array.getElem?_eq_some_iff.1 ho).1
 have HQ1:=lh (Only.new w (.cells (sqL s.kind s.mode s.modes s.vx s.vy lv vs).toArray 158))
 have HBx:Hid ((w.alloc (.cells (sqL s.kind s.mode s.modes s.vx s.vy lv vs).toArray 158)).heap[w.heap.size]?=some (.cells (sqL s.kind s.mode s.modes s.vx s.vy lv vs).toArray 158 (0,0))):=lh (heap_alloc_new w _)
 have HO1:=lh (HQ1.out.row ho)
 have HA1:=lh ((pcWrite base R E).only hA HQ1.out (by simp))
 have HIn1:=lh (hin.only HQ1.out (by simp))
 have HN:=lh (And.intro hw (And.intro hOb (And.intro hOF (And.intro hOl hlt))))
 have HF:=lh hF
 have HS:=lh hs
 have HMl:=lh hml
 have HOk:=lh ok
 have HZ1:Hid ((w.alloc (.cells (sqL s.kind s.mode s.modes s.vx s.vy lv vs).toArray 158)).heap.size=w.heap.size+1):=lh (by simp)
 have hrq:=SqRow.q HO1.out rfl rfl rfl nils_one
 have HP0:Hid (PSt base R E O F (w.alloc (.cells (sqL s.kind s.mode s.modes s.vx s.vy lv vs).toArray 158)) (w.alloc (.cells (sqL s.kind s.mode s.modes s.vx s.vy lv vs).toArray 158)) F m):=lh ⟨HA1.out,hrq,hOF,Went.refl _ _,by simp;omega,hOb⟩
 have k0:=SqRow.cell HO1.out (i:=0) (x:=.int .i64 s.kind) sqL_kind
 have hk4:s.kind=0∨s.kind=1∨s.kind=2∨s.kind=3:=by have:=hs.kind;omega
 have HFin:Hid (∀ wx F' m',PSt base R E O F (w.alloc (.cells (sqL s.kind s.mode s.modes s.vx s.vy lv vs).toArray 158)) wx F' m'→(partsG wrC (askOf s) s.kind m).2=m'→Q (.returned .nilIface) wx):=lh (fun wx F' m' h e=>HPost.out _ _ ⟨rfl,F',by rw [e];exact h.at_,h.row,h.out,Went.ahead HQ1.out h.went⟩)
 have HNb:Hid (w.heap.size∉O :: F):=lh (fun hm=>by
  rcases List.mem_cons.1 hm with h | h
  ·omega
  ·have:=HF0.out _ h;omega)
 have HLs:Hid (∀ wx F' m',PSt base R E O F (w.alloc (.cells (sqL s.kind s.mode s.modes s.vx s.vy lv vs).toArray 158)) wx F' m'→SqIn lo hi wx lv vs s.large s.small∧(∀ x∈F',x<lo∨hi≤x)∧hi≤wx.heap.size):=lh (fun wx F' m' h=>⟨HIn1.out.only h.went.1 (fun g hg=>by
  rcases List.mem_cons.1 hg with rfl | hg
  ·exact hOl
  ·exact hF g hg),fun x hx=>by
   rcases h.went.2 x (List.mem_cons_of_mem _ hx) with h1 | h1
   ·rcases List.mem_cons.1 h1 with rfl | h1
    ·exact hOl
    ·exact hF x h1
   ·exact .inr (by rw [HZ1.out] at h1;omega),by have:=h.size;rw [HZ1.out] at this;omega⟩)
 clear hA hs hin hml hF hw ho hOb hOF hOl ok hlt hrq HO1 HA1 HIn1 HN HF HF0 HPost HQ1
 obtain ⟨kd,mo,ms,vx,vy,LL,SS⟩:=s
 simp only at HBx HS HMl k0 hk4 HFin HLs HP0 HZ1
 obtain ⟨CA,hCA⟩:∃ z,z=(sqL (kd:Int) (mo:Int) ms vx vy lv vs).toArray:=⟨_,rfl⟩
 rw [← hCA] at HBx k0 HFin HLs HP0 HZ1
 have HBk:Hid (∀ wx:World,wx.heap[w.heap.size]?=some (.cells CA 158 (0,0))→SqRow w.heap.size wx kd mo ms vx vy lv vs):=lh (fun wx h=>by rw [hCA] at h;exact h)
 show Calls Tryz.prog 115 #[wv R,.agg (sqL (kd:Int) (mo:Int) ms vx vy lv vs).toArray,.pointer (some ⟨O,0,none⟩)] w Q
 rw [← hCA]
 clear hCA
 rcases hk4 with rfl | rfl | rfl | rfl
 ·go_enter Tryz.func115,Tryz.ntmps115
  go_wp2_with fail
  exact HFin.out _ F m HP0.out rfl
 ·have HLv:=lh (HS.out.large (.inl rfl))
  obtain ⟨vx0,vx1,vy0,vy1⟩:=HS.out.vec rfl
  simp only at vx0 vx1 vy0 vy1
  have HM:=lh (fun w F (h:(pcWrite base R E).At F w m)=>ppart_any (pcWrite base R E) h (v:=vx) (by omega) HOk.out (by omega))
  have HOk2:=lh (wok_part vx HOk.out)
  have HSt:=lh (parts1_st (askOf ⟨1,mo,ms,vx,vy,LL,SS⟩) m)
  have b6:=SqRow.cell (HBk.out _ HBx.out) (i:=6) (x:=.int .i64 vx) (by obtain ⟨a,b,c,d,rfl⟩:=len4 HMl.out;rfl)
  go_enter Tryz.func115,Tryz.ntmps115
  go_wp2_with fail
  generalize hW1:World.alloc w _=W1 at *
  clear hW1 k0 b6
  go_at_call 142
  refine (HM.out W1 F HP0.out.at_).mono ?_
  rintro e w2 ⟨rfl,F2,ha2,hg2⟩
  have hp2:=HP0.out.call ha2 hg2
  obtain ⟨hp3,⟨u3,x3⟩,y3,-⟩:=hp2.store (i:=6) (by omega) (v:=.int .i64 (partG wrC vx m).1) rfl
  have HP3:=lh hp3
  have b7:=SqRow.cell (HBk.out _ (HP3.out.keep HBx.out HNb.out)) (i:=7) (x:=.int .i64 vy) (by obtain ⟨a,b,c,d,rfl⟩:=len4 HMl.out;rfl)
  clear hp2 hp3 ha2 hg2
  obtain ⟨gm,mm,hgm⟩:∃ a b,partG wrC vx m=(a,b):=⟨_,_,rfl⟩
  rw [hgm] at HP3 HOk2 b7 ⊢
  simp only at HP3 HOk2 b7 ⊢
  have Hgm:=lh hgm
  clear hgm
  go_wp2_with fail
  clear x3 y3 b7
  generalize hW3:World.setCell w2 _ _=W3 at *
  clear hW3
  have HM4:=lh (ppart_any (pcWrite base R E) HP3.out.at_ (v:=vy) (by omega) HOk2.out (by omega))
  have HOk4:=lh (wok_part vy HOk2.out)
  go_at_call 142
  refine HM4.out.mono ?_
  rintro e w4 ⟨rfl,F4,ha4,hg4⟩
  have hp4:=HP3.out.call ha4 hg4
  obtain ⟨hp5,⟨u5,x5⟩,y5,-⟩:=hp4.store (i:=7) (by omega) (v:=.int .i64 (partG wrC vy mm).1) rfl
  have HP5:=lh hp5
  have b8:=SqRow.cell (HBk.out _ (HP5.out.keep HBx.out HNb.out)) (sqL_large HMl.out)
  clear hp4 hp5 ha4 hg4
  obtain ⟨gn,mn,hgn⟩:∃ a b,partG wrC vy mm=(a,b):=⟨_,_,rfl⟩
  rw [hgn] at HP5 HOk4 b8 ⊢
  simp only at HP5 HOk4 b8 ⊢
  have Hgn:=lh hgn
  clear hgn
  go_wp2_with fail
  clear x5 y5 b8
  generalize hW5:World.setCell w4 _ _=W5 at *
  clear hW5
  obtain ⟨hi8,hf8,hw8⟩:=HLs.out _ _ _ HP5.out
  go_at_call 141
  refine (wcode_any (side:=8) (.inr rfl) HP5.out.at_ hi8.large HLv.out.1 HLv.out.2 hf8 hw8 HOk4.out (by omega)).mono ?_
  rintro e w8 ⟨g8,c8,F8,rfl,ha8,hg8⟩
  have hp8:=HP5.out.call ha8 hg8
  obtain ⟨hp9,⟨u9,x9⟩,y9,-⟩:=hp8.store (i:=8) (by omega) (v:=.slice (some ⟨g8,0,none⟩) (8*8) c8) rfl
  rw [show (8*8:Nat)=64 from rfl] at hp9 ⊢
  have HP9:=lh hp9
  clear hp8 hp9 ha8 hg8 hi8 hf8 hw8
  go_wp2_with fail
  refine HFin.out _ _ _ HP9.out ?_
  rw [HSt.out]
  show (coefG wrC 8 LL (partG wrC vy (partG wrC vx m).2).2).2=_
  rw [Hgm.out]
  simp only
  rw [Hgn.out]
 ·have HLv:=lh (HS.out.large (.inr rfl))
  have hmo:=HS.out.mode rfl
  simp only at hmo
  have HM:=lh (fun w F (h:(pcWrite base R E).At F w m)=>pmode_any (pcWrite base R E) h (v:=(mo:Int)) (by omega) HOk.out (by omega))
  have HOk2:=lh (wok_mode (mo:Int) HOk.out)
  have hst:=parts2_st (askOf ⟨2,mo,ms,vx,vy,LL,SS⟩) m
  have HSt:=lh hst
  clear hst
  have b1:=SqRow.cell (HBk.out _ HBx.out) (i:=1) (x:=.int .i64 mo) rfl
  go_enter Tryz.func115,Tryz.ntmps115
  go_wp2_with fail
  generalize hW1:World.alloc w _=W1 at *
  clear hW1 k0 b1
  go_at_call 140
  refine (HM.out W1 F HP0.out.at_).mono ?_
  rintro e w2 ⟨rfl,F2,ha2,hg2⟩
  have hp2:=HP0.out.call ha2 hg2
  obtain ⟨hp3,⟨u3,x3⟩,y3,-⟩:=hp2.store (i:=1) (by omega) (v:=.int .i64 ((modeG wrC (mo:Int) m).1:Int)) rfl
  have HP3:=lh hp3
  have b8:=SqRow.cell (HBk.out _ (HP3.out.keep HBx.out HNb.out)) (sqL_large HMl.out)
  clear hp2 hp3 ha2 hg2
  obtain ⟨gm,mm,hgm⟩:∃ a b,modeG wrC (mo:Int) m=(a,b):=⟨_,_,rfl⟩
  rw [hgm] at HP3 HOk2 b8 ⊢
  simp only at HP3 HOk2 b8 ⊢
  have Hgm:=lh hgm
  clear hgm
  go_wp2_with fail
  clear x3 y3 b8
  generalize hW3:World.setCell w2 _ _=W3 at *
  clear hW3
  obtain ⟨hi8,hf8,hw8⟩:=HLs.out _ _ _ HP3.out
  go_at_call 141
  refine (wcode_any (side:=8) (.inr rfl) HP3.out.at_ hi8.large HLv.out.1 HLv.out.2 hf8 hw8 HOk2.out (by omega)).mono ?_
  rintro e w8 ⟨g8,c8,F8,rfl,ha8,hg8⟩
  have hp8:=HP3.out.call ha8 hg8
  obtain ⟨hp9,⟨u9,x9⟩,y9,-⟩:=hp8.store (i:=8) (by omega) (v:=.slice (some ⟨g8,0,none⟩) (8*8) c8) rfl
  rw [show (8*8:Nat)=64 from rfl] at hp9 ⊢
  have HP9:=lh hp9
  clear hp8 hp9 ha8 hg8 hi8 hf8 hw8
  go_wp2_with fail
  refine HFin.out _ _ _ HP9.out ?_
  rw [HSt.out]
  show (coefG wrC 8 LL (modeG wrC (mo:Int) m).2).2=_
  rw [Hgm.out]
 ·obtain ⟨-,hsl,hms,hls⟩:=HS.out.small rfl
  simp only at hsl hms hls
  have HMs:=lh hms
  have HLs4:=lh hls
  have HSl:=lh hsl
  have HSt:=lh (parts3_st (askOf ⟨3,mo,ms,vx,vy,LL,SS⟩) m)
  have HVl:Hid (vs.length=4):=lh (HLs.out _ _ _ HP0.out).1.len
  clear hsl hms hls
  go_enter Tryz.func115,Tryz.ntmps115
  go_wp2_with fail
  generalize hW1:World.alloc w _=W1 at *
  clear hW1 k0
  go_loopw [22] (fun i wr=>∃ (k nk:Nat) (Fk:List Nat) (mk:Wrt),k≤4∧i=.int .i64 k∧nk=n+691*k∧Hid (PSt base R E O F W1 wr Fk mk)∧Hid (WOk nk mk)∧Hid (smallGoG wrC ms SS (4-k) (ms.take k) (SS.take k) mk=smallGoG wrC ms SS 4 [] [] m)) (fun i _=>4-(intOf i).toNat)
  case atStart=>exact ⟨0,n,F,m,by omega,rfl,by omega,HP0,HOk,lh rfl⟩
  case round =>
   obtain ⟨k,nk,Fk,mk,hk,rfl,hnk,HPk,HOkk,Hgo⟩:=hrel
   by_cases hlt:k<4
   ·have hki:(k:Int)<4:=by omega
    have hk0:(0:Int)≤(k:Int):=by omega
    have hmk:=HMs.out (ms.getD k 0) (by have:=HMl.out;rw [List.getD_eq_getElem?_getD,List.getElem?_eq_getElem (by omega)];exact List.getElem_mem _)
    have HLk:=lh (HLs4.out (SS.getD k []) (by have:=HSl.out;rw [List.getD_eq_getElem?_getD,List.getElem?_eq_getElem (by omega)];exact List.getElem_mem _))
    have HMk:=lh (fun w F (h:(pcWrite base R E).At F w mk)=>pmode_any (pcWrite base R E) h (v:=ms.getD k 0) hmk HOkk.out (by omega))
    have HOk2:=lh (wok_mode (ms.getD k 0) HOkk.out)
    have hmv:=mode_val hmk.1 hmk.2 mk
    obtain ⟨vk,hvk⟩:∃ z,vs.getD k nilS=z:=⟨_,rfl⟩
    have b2:=SqRow.cell (HBk.out _ (HPk.out.keep HBx.out HNb.out)) (sqL_mode HMl.out hlt)
    have Hstep:Hid (smallGoG wrC ms SS (4-k) (ms.take k) (SS.take k) mk=smallGoG wrC ms SS (4-(k+1)) (ms.take (k+1)) (SS.take (k+1)) (coefG wrC 4 (SS.getD k []) (modeG wrC (ms.getD k 0) mk).2).2):=lh (by
     obtain ⟨k3,hk3⟩:∃ k3,4-k=k3+1:=⟨3-k,by omega⟩
     have l1:(ms.take k).length=k:=by have:=HMl.out;rw [List.length_take];omega
     have l2:(SS.take k).length=k:=by have:=HSl.out;rw [List.length_take];omega
     have t1:ms.take (k+1)=ms.take k ++ [((modeG wrC (ms.getD k 0) mk).1:Int)]:=by have:=HMl.out;rw [List.take_succ_eq_append_getElem (by omega),hmv,List.getD_eq_getElem?_getD,List.getElem?_eq_getElem (by omega)];rfl
     have t2:SS.take (k+1)=SS.take k ++ [SS.getD k []]:=by have:=HSl.out;rw [List.take_succ_eq_append_getElem (by omega),List.getD_eq_getElem?_getD,List.getElem?_eq_getElem (by omega)];rfl
     rw [hk3,show 4-(k+1)=k3 by omega,t1,t2]
     have hcv:=coef_val (side:=4) (.inl rfl) HLk.out.1 HLk.out.2 (modeG wrC (ms.getD k 0) mk).2
     exact smallGoG_more (C:=wrC) (m:=mk) (mo:=(modeG wrC (ms.getD k 0) mk).1) (m1:=(modeG wrC (ms.getD k 0) mk).2) (m2:=(coefG wrC 4 (SS.getD k []) (modeG wrC (ms.getD k 0) mk).2).2) (by rw [l1]) (by rw [l2];exact Prod.ext hcv rfl))
    obtain ⟨mg,hmg⟩:∃ z,ms.getD k 0=z:=⟨_,rfl⟩
    rw [hmg] at hmk HMk HOk2 b2 Hstep
    have Hmg:=lh hmg
    clear hmv hmg
    go_wp2_with fail
    refine wp_region_held_drew (S:=(fun w'=>w'.cell? ⟨w.heap.size,2+k,none⟩=some (.int .i64 mg))) (by kernel_rfl) ?_ (fun hHeld=>?_)
    ·exact b2
    refine tk 0 25 ?_
    refine tk 1 26 ?_
    refine tk 2 27 ?_
    refine tk 3 28 ?_
    refine tk 4 29 ?_
    refine tk 5 30 ?_
    refine tk 6 31 ?_
    refine tk 8 33 ?_
    refine tk 9 34 ?_
    refine rdy (rdc 7 32 (fun K hK=>?_) .nil)
    go_simp
    go_at_call 140
    refine (HMk.out _ _ (HPk.out.quiet (Only.refl _ _).drew).at_).mono ?_
    rintro e w2 ⟨rfl,F2,ha2,hg2⟩
    have hp2:=(HPk.out.quiet (Only.refl [] wr).drew).call ha2 hg2
    obtain ⟨hp3,⟨u3,x3⟩,y3,ho3⟩:=hp2.store (i:=2+k) (by omega) (v:=.int .i64 ((modeG wrC mg mk).1:Int)) rfl
    have HP3:=lh hp3
    have bs2:=SqRow.cell (HBk.out _ (hp2.keep HBx.out HNb.out)) (sqL_mode HMl.out hlt)
    have bs3:=SqRow.cell (HBk.out _ (hp3.keep HBx.out HNb.out)) (sqL_mode HMl.out hlt)
    rw [Hmg.out] at bs2 bs3
    clear hp2 hp3 ha2 hg2
    refine hK.out _ _ ?_ (fun hHeld=>?_)
    ·exact bs2
    clear hK K
    try simp only [Act.put,List.setIfInBounds_toArray,List.set_cons_zero,List.set_cons_succ]
    refine tk 10 35 ?_
    refine rdy (rdn 11 (fun K hK=>?_) .nil)
    go_simp
    refine hK.out _ _ ?_ (fun hHeld=>?_)
    ·exact bs3
    clear hK K
    try simp only [Act.put,List.setIfInBounds_toArray,List.set_cons_zero,List.set_cons_succ]
    refine wpAnyH_done (by kernel_rfl) ?_ _
    go_wp2_with fail
    clear x3 y3 b2 bs2 bs3
    generalize hW3:World.setCell w2 _ _=W3 at *
    clear hW3 ho3
    obtain ⟨gm,mm,hgm⟩:∃ a b,modeG wrC mg mk=(a,b):=⟨_,_,rfl⟩
    rw [hgm] at HP3 HOk2 Hstep
    simp only at HP3 HOk2 Hstep
    have HOk3:=lh (wok_coef (side:=4) (.inl rfl) (SS.getD k []) HOk2.out)
    have b9:=SqRow.cell (HBk.out _ (HP3.out.keep HBx.out HNb.out)) (sqL_small HMl.out HVl.out hlt)
    rw [hvk] at b9
    clear hgm
    refine wp_region_held_drew (S:=(fun w'=>w'.cell? ⟨w.heap.size,9+k,none⟩=some vk)) (by kernel_rfl) ?_ (fun hHeld=>?_)
    ·exact b9
    refine tk 0 37 ?_
    refine tk 1 38 ?_
    refine tk 2 39 ?_
    refine tk 3 40 ?_
    refine tk 4 41 ?_
    refine tk 5 42 ?_
    refine tk 6 43 ?_
    refine tk 11 47 ?_
    refine tk 12 48 ?_
    refine rdy (rdc 7 44 (fun K hK=>?_) .nil)
    go_simp
    obtain ⟨hi4,hf4,hw4⟩:=HLs.out _ _ _ (HP3.out.quiet (Only.refl [] W3).drew)
    have hsm:=hi4.small k hlt
    rw [hvk] at hsm
    go_at_call 141
    refine (wcode_any (side:=4) (.inl rfl) (HP3.out.quiet (Only.refl [] W3).drew).at_ hsm HLk.out.1 HLk.out.2 hf4 hw4 HOk2.out (by omega)).mono ?_
    rintro e w4 ⟨g4,c4,F4,rfl,ha4,hg4⟩
    have hp4:=(HP3.out.quiet (Only.refl [] W3).drew).call ha4 hg4
    rw [show (4*4:Nat)=16 from rfl]
    obtain ⟨hp5,⟨u5,x5⟩,y5,ho5⟩:=hp4.store (i:=9+k) (by omega) (v:=.slice (some ⟨g4,0,none⟩) 16 c4) rfl
    have HP5:=lh hp5
    have bs4:=SqRow.cell (HBk.out _ (hp4.keep HBx.out HNb.out)) (sqL_small HMl.out HVl.out hlt)
    have bs5:=SqRow.cell (HBk.out _ (hp5.keep HBx.out HNb.out)) (sqL_small HMl.out HVl.out hlt)
    rw [hvk] at bs4 bs5
    clear hp4 hp5 ha4 hg4 hsm hi4 hf4 hw4
    refine hK.out _ _ ?_ (fun hHeld=>?_)
    ·exact bs4
    clear hK K
    try simp only [Act.put,List.setIfInBounds_toArray,List.set_cons_zero,List.set_cons_succ]
    refine tk 8 36 ?_
    refine tk 9 45 ?_
    refine tk 10 46 ?_
    refine tk 13 49 ?_
    refine rdy (rdn 14 (fun K hK=>?_) .nil)
    go_simp
    refine hK.out _ _ ?_ (fun hHeld=>?_)
    ·exact bs5
    clear hK K
    try simp only [Act.put,List.setIfInBounds_toArray,List.set_cons_zero,List.set_cons_succ]
    refine tk 15 7 ?_
    refine wpAnyH_done (by kernel_rfl) ?_ _
    go_wp2_with fail
    clear x5 y5 b9 bs4 bs5
    refine ⟨⟨k+1,n+691*(k+1),F4,_,by omega,by go_num,rfl,HP5,lh (HOk3.out.le (by omega)),lh ?_⟩,by simp [intOf];omega⟩
    rw [← Hstep.out];exact Hgo.out
   ·obtain rfl:k=4:=by omega
    have hki:¬ ((4:Nat):Int)<4:=by omega
    go_wp2_with fail
    refine HFin.out _ _ _ HPk.out ?_
    rw [HSt.out]
    show (smallGoG wrC ms SS 4 [] [] m).2=_
    rw [← Hgo.out]
    rfl
end
section
theorem spart_any (v:Int) (h:-15≤v∧v≤15) (w:World):Calls Tryz.prog 160 #[.int .i64 v] w fun e w'=>e=.returned (.bool true)∧w=w':=by
 obtain ⟨h0,h1⟩:=h
 go_enter Tryz.func160,Tryz.ntmps160
 go_wp2
 go_ret
 exact ⟨rfl,rfl⟩
def smodeB (v:Int):Bool:=decide (0≤v) && decide (v≤3)
theorem smode_any (v:Int) (w:World):Calls Tryz.prog 161 #[.int .i64 v] w fun e w'=>e=.returned (.bool (smodeB v))∧w=w':=by
 go_enter Tryz.func161,Tryz.ntmps161
 go_wp2
 all_goals
  go_ret
  exact ⟨ret_bool (by unfold smodeB;simp;try omega),rfl⟩
theorem bounds1_any (x:Int) (w:World):Calls Tryz.prog 162 #[.int .i64 x] w fun e w'=>e=.returned (.bool (!smodeB x))∧w=w':=by
 have H:=lh (smode_any x)
 generalize smodeB x=B at *
 go_enter Tryz.func162,Tryz.ntmps162
 go_wp2_with (first | (go_at_call 161;refine (H.out _).mono ?_;rintro e w1 ⟨rfl,rfl⟩) | fail)
 go_ret
 exact ⟨rfl,rfl⟩
theorem slevels_any {lo hi:Nat} {v:Value} {l:List Int} {w:World} (h:Ints .i64 lo hi w v l) (N:Nat) (hN:N=16∨N=64) (hl:l.length=N) (hlev:LevOk l) :
  Calls Tryz.prog 138 #[v,.int .i64 N] w fun e w'=>e=.returned .nilIface∧Only [] w w':=by
 have HC:=lh (coefCheck_any h (by omega))
 have hcn:checkL l=none:=by unfold checkL;rw [if_neg (by rw [hl];omega),lev_levB hlev];rfl
 rw [hcn] at HC
 obtain ⟨a,c,rfl,-⟩:=h.open
 rw [hl] at HC ⊢
 clear h hl hlev hcn
 go_enter Tryz.func138,Tryz.ntmps138
 go_wp2_with fail
 go_at_call 163
 refine HC.out.mono ?_
 rintro e w1 ⟨⟨u,rfl,hu⟩,hq1⟩
 have hu':u=.nilIface:=hu
 subst hu'
 have HQ1:=lh hq1
 clear hq1 hu
 go_wp2_with fail
 go_ret
 exact ⟨rfl,HQ1.out⟩
/-- a square's four modes as a slice of its row -/
theorem modes_ints {B:Nat} {w:World} {k mo:Int} {ms:List Int} {vx vy:Int} {lv:Value} {vs:List Value} (h:SqRow B w k mo ms vx vy lv vs) (hm:ms.length=4) (hr:∀ x∈ms,0≤x∧x≤3):Ints .i64 B (B+1) w (.slice (some ⟨B,2,none⟩) 4 4) ms:=by
 refine ⟨⟨by rw [List.length_map,hm],some ⟨B,2,none⟩,4,by rw [hm],by rw [hm];exact Nat.le_refl _,by simp [maxLen],fun _=>⟨B,2,rfl,Nat.le_refl _,Nat.lt_succ_self _,fun j u hu=>?_⟩⟩,fun x hx=>by have:=hr x hx;simp only [InK];omega⟩
 have hj:j<4:=by
  rcases Nat.lt_or_ge j 4 with h | h
  ·exact h
  ·rw [List.getElem?_eq_none (by simp [hm];exact h)] at hu;cases hu
 rw [h.cell (sqL_mode hm hj),← hu,List.getElem?_map,List.getElem?_eq_getElem (by omega),List.getD_eq_getElem?_getD,List.getElem?_eq_getElem (by omega)]
 rfl
theorem sbounds_any {key:Bool} {s:SqD} {lv:Value} {vs:List Value} {w:World} (hs:SqWr key s) (hml:s.modes.length=4) (hvl:vs.length=4) :
  Calls Tryz.prog 137 #[.agg (sqL s.kind s.mode s.modes s.vx s.vy lv vs).toArray] w fun e w'=>e=.returned (.bool true)∧Only [] w w':=by
 refine hidQ fun Q HPost=>?_
 obtain ⟨kd,mo,ms,vx,vy,LL,SS⟩:=s
 simp only at hml ⊢
 have hk4:kd=0∨kd=1∨kd=2∨kd=3:=by have:=hs.kind;simp only at this;omega
 obtain ⟨CA,hCA⟩:∃ z,z=(sqL (kd:Int) (mo:Int) ms vx vy lv vs).toArray:=⟨_,rfl⟩
 have HBk:Hid (∀ wx:World,wx.heap[w.heap.size]?=some (.cells CA 158 (0,0))→SqRow w.heap.size wx kd mo ms vx vy lv vs):=lh (fun wx h=>by rw [hCA] at h;exact h)
 rw [← hCA]
 clear hCA
 have HB:=lh (heap_alloc_new w (.cells CA 158))
 have HQ:=lh (Only.new w (.cells CA 158))
 have HS:=lh hs
 have HMl:=lh hml
 have b0:=SqRow.cell (HBk.out _ HB.out) sqL_kind
 have b1:=SqRow.cell (HBk.out _ HB.out) (i:=1) (x:=.int .i64 mo) rfl
 have b6:=SqRow.cell (HBk.out _ HB.out) (i:=6) (x:=.int .i64 vx) (by obtain ⟨a,b,c,d,rfl⟩:=len4 hml;rfl)
 have b7:=SqRow.cell (HBk.out _ HB.out) (i:=7) (x:=.int .i64 vy) (by obtain ⟨a,b,c,d,rfl⟩:=len4 hml;rfl)
 clear hs hml hvl
 rcases hk4 with rfl | rfl | rfl | rfl
 ·clear b1 b6 b7
  go_enter Tryz.func137,Tryz.ntmps137
  go_wp2_with fail
  exact HPost.out _ _ ⟨rfl,HQ.out⟩
 ·obtain ⟨vx0,vx1,vy0,vy1⟩:=HS.out.vec rfl
  simp only at vx0 vx1 vy0 vy1
  have HX:=lh (spart_any vx (by omega))
  have HY:=lh (spart_any vy (by omega))
  clear b1
  go_enter Tryz.func137,Tryz.ntmps137
  go_wp2_with fail
  go_at_call 160
  refine (HX.out _).mono ?_
  rintro e w1 ⟨rfl,rfl⟩
  go_wp2_with fail
  go_at_call 160
  refine (HY.out _).mono ?_
  rintro e w2 ⟨rfl,rfl⟩
  go_wp2_with fail
  exact HPost.out _ _ ⟨rfl,HQ.out⟩
 ·have hm:=HS.out.mode rfl
  simp only at hm
  have HM:=lh (smode_any (mo:Int))
  rw [show smodeB (mo:Int)=true by unfold smodeB;simp;omega] at HM
  clear b6 b7
  go_enter Tryz.func137,Tryz.ntmps137
  go_wp2_with fail
  go_at_call 161
  refine (HM.out _).mono ?_
  rintro e w1 ⟨rfl,rfl⟩
  go_wp2_with fail
  exact HPost.out _ _ ⟨rfl,HQ.out⟩
 ·obtain ⟨-,-,hms,-⟩:=HS.out.small rfl
  simp only at hms
  have ef:=fun args w=>MuLone.run_callFunc_enter Tryz.func162 (by kernel_rfl) rfl args w
  have HC:=lh (containsF_any ef bounds1_any (modes_ints (HBk.out _ HB.out) HMl.out hms) (by rw [HMl.out];omega))
  rw [show (ms.any fun x=>!smodeB x)=false by rw [List.any_eq_false];intro x hx;have:=hms x hx;unfold smodeB;simp;omega] at HC
  clear b1 b6 b7 ef hms
  go_enter Tryz.func137,Tryz.ntmps137
  go_wp2_with fail
  go_at_call 81
  refine HC.out.mono ?_
  rintro e w1 ⟨rfl,hq1⟩
  have HQ1:=lh hq1
  clear hq1
  go_wp2_with fail
  exact HPost.out _ _ ⟨rfl,HQ.out.q HQ1.out⟩
theorem qEChk0 {p:Prop} (h:p:=by
 go_enter Tryz.func113,Tryz.ntmps113
 go_wp2_with (first | (refine wpList_load_row rfl (.tmp 3) 158 rfl rfl HB.out HUnd.out rfl HI.out ?_) | fail)
 go_at_call 137
 refine (HBd.out _).mono ?_
 rintro e w2 ⟨rfl,hq2⟩
 have HQ2:=lh (HQ.out.q hq2)
 have HB2:=lh (hq2.row HB.out)
 clear hq2 b0 HBd
 have b0:=SqRow.cell (HBk.out _ HB2.out) sqL_kind
 obtain ⟨-,hsl,-,hls⟩:=HS.out.small rfl
 simp only at hsl hls
 have HL:=lh (fun (i:Nat) (hi:i<4) (W:World) (o:Only [] w2 W)=>slevels_any ((HIn.out.small i hi).quiet (HQ2.out.q o)) 16 (.inl rfl) (hls (SS.getD i []) (by rw [List.getD_eq_getElem?_getD,List.getElem?_eq_getElem (by omega)];exact List.getElem_mem _)).1 (hls (SS.getD i []) (by rw [List.getD_eq_getElem?_getD,List.getElem?_eq_getElem (by omega)];exact List.getElem_mem _)).2)
 have hop:=fun (i:Nat) (hi:i<4)=>(HIn.out.small i hi).open
 have h16:=fun (i:Nat) (hi:i<4)=>(hls (SS.getD i []) (by rw [List.getD_eq_getElem?_getD,List.getElem?_eq_getElem (by omega)];exact List.getElem_mem _)).1
 have b9:=SqRow.cell (HBk.out _ HB2.out) (sqL_small HMl.out HIn.out.len (i:=0) (by omega))
 have b10:=SqRow.cell (HBk.out _ HB2.out) (sqL_small HMl.out HIn.out.len (i:=1) (by omega))
 have b11:=SqRow.cell (HBk.out _ HB2.out) (sqL_small HMl.out HIn.out.len (i:=2) (by omega))
 have b12:=SqRow.cell (HBk.out _ HB2.out) (sqL_small HMl.out HIn.out.len (i:=3) (by omega))
 obtain ⟨s0,t0,e0,-⟩:=hop 0 (by omega)
 obtain ⟨s1,t1,e1,-⟩:=hop 1 (by omega)
 obtain ⟨s2,t2,e2,-⟩:=hop 2 (by omega)
 obtain ⟨s3,t3,e3,-⟩:=hop 3 (by omega)
 rw [h16 0 (by omega)] at e0
 rw [h16 1 (by omega)] at e1
 rw [h16 2 (by omega)] at e2
 rw [h16 3 (by omega)] at e3
 have L0:=lh (HL.out 0 (by omega))
 have L1:=lh (HL.out 1 (by omega))
 have L2:=lh (HL.out 2 (by omega))
 have L3:=lh (HL.out 3 (by omega))
 rw [e0] at b9 L0
 rw [e1] at b10 L1
 rw [e2] at b11 L2
 rw [e3] at b12 L3
 clear hop h16 hsl hls e0 e1 e2 e3 HL
 have hx0:∀ W:World,(Instr.index 156 (.agg #[.slice s0 16 t0,.slice s1 16 t1,.slice s2 16 t2,.slice s3 16 t3]) (.int .i64 0)).run Tryz.prog W=.ok (.slice s0 16 t0) W:=fun W=>by kernel_rfl
 have hx1:∀ W:World,(Instr.index 156 (.agg #[.slice s0 16 t0,.slice s1 16 t1,.slice s2 16 t2,.slice s3 16 t3]) (.int .i64 1)).run Tryz.prog W=.ok (.slice s1 16 t1) W:=fun W=>by kernel_rfl
 have hx2:∀ W:World,(Instr.index 156 (.agg #[.slice s0 16 t0,.slice s1 16 t1,.slice s2 16 t2,.slice s3 16 t3]) (.int .i64 2)).run Tryz.prog W=.ok (.slice s2 16 t2) W:=fun W=>by kernel_rfl
 have hx3:∀ W:World,(Instr.index 156 (.agg #[.slice s0 16 t0,.slice s1 16 t1,.slice s2 16 t2,.slice s3 16 t3]) (.int .i64 3)).run Tryz.prog W=.ok (.slice s3 16 t3) W:=fun W=>by kernel_rfl
 go_wp2_with fail
 go_loopw [43] (fun i wr=>∃ k:Nat,k≤4∧i=.int .i64 k∧Hid (Only [] w2 wr)) (fun i _=>4-(intOf i).toNat)
 case atStart=>exact ⟨0,by omega,rfl,lh (Only.refl _ _)⟩
 case round =>
  obtain ⟨k,hk,rfl,HQk⟩:=hrel
  rcases (by omega:k=0∨k=1∨k=2∨k=3∨k=4) with rfl | rfl | rfl | rfl | rfl
  ·go_wp2_with fail
   go_at_call 138
   refine (L0.out _ HQk.out).mono ?_
   rintro e w3 ⟨rfl,hq3⟩
   have HQ3:=lh (HQk.out.q hq3)
   clear hq3
   go_wp2_with fail
   exact ⟨⟨1,by omega,by go_num,HQ3⟩,by simp [intOf]⟩
  ·go_wp2_with fail
   go_at_call 138
   refine (L1.out _ HQk.out).mono ?_
   rintro e w3 ⟨rfl,hq3⟩
   have HQ3:=lh (HQk.out.q hq3)
   clear hq3
   go_wp2_with fail
   exact ⟨⟨2,by omega,by go_num,HQ3⟩,by simp [intOf]⟩
  ·go_wp2_with fail
   go_at_call 138
   refine (L2.out _ HQk.out).mono ?_
   rintro e w3 ⟨rfl,hq3⟩
   have HQ3:=lh (HQk.out.q hq3)
   clear hq3
   go_wp2_with fail
   exact ⟨⟨3,by omega,by go_num,HQ3⟩,by simp [intOf]⟩
  ·go_wp2_with fail
   go_at_call 138
   refine (L3.out _ HQk.out).mono ?_
   rintro e w3 ⟨rfl,hq3⟩
   have HQ3:=lh (HQk.out.q hq3)
   clear hq3
   go_wp2_with fail
   exact ⟨⟨4,by omega,by go_num,HQ3⟩,by simp [intOf]⟩
  ·go_wp2_with fail
   exact HPost.out _ _ ⟨rfl,HQ2.out.q HQk.out⟩):p:=h
theorem qEChk2 {p:Prop} (h:p:=by
 simp only at hlg
 have HL:=lh (slevels_any (HIn.out.large.quiet HQ2.out) 64 (.inr rfl) hlg.1 hlg.2)
 have b8:=SqRow.cell (HBk.out _ HB2.out) (sqL_large HMl.out)
 clear hlg
 go_wp2_with fail
 go_at_call 138
 refine HL.out.mono ?_
 rintro e w3 ⟨rfl,hq3⟩
 have HQ3:=lh (HQ2.out.q hq3)
 clear hq3
 go_wp2_with fail
 exact HPost.out _ _ ⟨rfl,HQ3.out⟩):p:=h
theorem qEChk1 {p:Prop} (h:p:=by
 go_enter Tryz.func113,Tryz.ntmps113
 go_wp2_with (first | (refine wpList_load_row rfl (.tmp 3) 158 rfl rfl HB.out HUnd.out rfl HI.out ?_) | fail)
 go_at_call 137
 refine (HBd.out _).mono ?_
 rintro e w2 ⟨rfl,hq2⟩
 have HQ2:=lh (HQ.out.q hq2)
 have HB2:=lh (hq2.row HB.out)
 clear hq2 b0 HBd
 have b0:=SqRow.cell (HBk.out _ HB2.out) sqL_kind
 have hlg:=HS.out.large (.inr rfl)
 exact qEChk2):p:=h
theorem scheck_any {key:Bool} {lo hi:Nat} {s:SqD} {lv:Value} {vs:List Value} {w:World} (hs:SqWr key s) (hin:SqIn lo hi w lv vs s.large s.small) (hml:s.modes.length=4) :
  Calls Tryz.prog 113 #[.bool key,.agg (sqL s.kind s.mode s.modes s.vx s.vy lv vs).toArray] w fun e w'=>e=.returned .nilIface∧Only [] w w':=by
 refine hidQ fun Q HPost=>?_
 have HBd:=lh (fun (W:World)=>sbounds_any (w:=W) (lv:=lv) hs hml hin.len)
 obtain ⟨kd,mo,ms,vx,vy,LL,SS⟩:=s
 simp only at hml HBd hin ⊢
 have hk4:kd=0∨kd=1∨kd=2∨kd=3:=by have:=hs.kind;simp only at this;omega
 have hkk:=hs.key_
 simp only at hkk
 obtain ⟨CA,hCA⟩:∃ z,z=(sqL (kd:Int) (mo:Int) ms vx vy lv vs).toArray:=⟨_,rfl⟩
 have HBk:Hid (∀ wx:World,wx.heap[w.heap.size]?=some (.cells CA 158 (0,0))→SqRow w.heap.size wx kd mo ms vx vy lv vs):=lh (fun wx h=>by rw [hCA] at h;exact h)
 have HI:=lh (sqL_info (k:=(kd:Int)) (mo:=(mo:Int)) (vx:=vx) (vy:=vy) (lv:=lv) hml hin.len)
 rw [← hCA] at HBd HI ⊢
 clear hCA
 have HUnd:=lh Tryz.underlying158
 have HB:=lh (heap_alloc_new w (.cells CA 158))
 have HQ:=lh (Only.new w (.cells CA 158))
 have HS:=lh hs
 have HMl:=lh hml
 have HIn:=lh hin
 have b0:=SqRow.cell (HBk.out _ HB.out) sqL_kind
 clear hs hin hml
 have hkey:key=true→kd=2∨kd=3:=fun h=>by have:=hkk h;omega
 clear hkk
 rcases hk4 with rfl | rfl | rfl | rfl
 ·cases key with
  | true=>exact absurd (hkey rfl) (by decide)
  | false =>
   clear hkey
   go_enter Tryz.func113,Tryz.ntmps113
   go_wp2_with (first | (refine wpList_load_row rfl (.tmp 3) 158 rfl rfl HB.out HUnd.out rfl HI.out ?_) | fail)
   go_at_call 137
   refine (HBd.out _).mono ?_
   rintro e w2 ⟨rfl,hq2⟩
   have HQ2:=lh (HQ.out.q hq2)
   have HB2:=lh (hq2.row HB.out)
   clear hq2 b0 HBd
   have b0:=SqRow.cell (HBk.out _ HB2.out) sqL_kind
   go_wp2_with fail
   exact HPost.out _ _ ⟨rfl,HQ2.out⟩
 ·cases key with
  | true=>exact absurd (hkey rfl) (by decide)
  | false =>
   clear hkey
   go_enter Tryz.func113,Tryz.ntmps113
   go_wp2_with (first | (refine wpList_load_row rfl (.tmp 3) 158 rfl rfl HB.out HUnd.out rfl HI.out ?_) | fail)
   go_at_call 137
   refine (HBd.out _).mono ?_
   rintro e w2 ⟨rfl,hq2⟩
   have HQ2:=lh (HQ.out.q hq2)
   have HB2:=lh (hq2.row HB.out)
   clear hq2 b0 HBd
   have b0:=SqRow.cell (HBk.out _ HB2.out) sqL_kind
   have hlg:=HS.out.large (.inl rfl)
   exact qEChk2
 ·clear hkey
  cases key with
  | true =>
   exact qEChk1
  | false =>
   exact qEChk1
 ·clear hkey
  cases key with
  | true =>
   exact qEChk0
  | false =>
   exact qEChk0
end
theorem writer_assert (R:Nat) (w:World):(Instr.typeAssert (wv R) 198 151 true).run Tryz.prog w=.ok (.tuple #[.pointer none,.bool false]) w:=by kernel_rfl
section
theorem wreads_any (R:Nat) (w:World):Calls Tryz.prog 112 #[wv R] w fun e w'=>e=.returned (.bool false)∧w=w':=by
 have ha:=writer_assert R w
 go_enter Tryz.func112,Tryz.ntmps112
 go_wp2
 go_ret
 exact ⟨rfl,rfl⟩
theorem square_st {key:Bool} {s:SqD} (h:SqWr key s) (m:Wrt):(squareG wrC key (askOf s) m).2=(partsG wrC (askOf s) s.kind (kindKG wrC key s.kind m).2).2:=by
 have hk:=kindK_val (key:=key) (k:=(s.kind:Int)) (by omega) (by have:=h.kind;omega) (fun e=>by have:=h.key_ e;omega) m
 unfold squareG
 show (match (partsG wrC (askOf s) (kindKG wrC key (s.kind:Int) m).1 (kindKG wrC key (s.kind:Int) m).2).1 with
  | .error e=>(Except.error (inD sSyntax (kindKG wrC key (s.kind:Int) m).1 e),(partsG wrC (askOf s) (kindKG wrC key (s.kind:Int) m).1 (kindKG wrC key (s.kind:Int) m).2).2)
  | .ok s'=>(Except.ok s',(partsG wrC (askOf s) (kindKG wrC key (s.kind:Int) m).1 (kindKG wrC key (s.kind:Int) m).2).2)).2=_
 have e:(kindKG wrC key (s.kind:Int) m).1=s.kind:=by omega
 rw [e]
 split <;> rfl
theorem wok_kind (key:Bool) (k:Int) {n:Nat} {m:Wrt} (h:WOk n m):WOk (n+3) (kindKG wrC key k m).2:=by
 unfold kindKG
 cases key with
 | true=>exact (wok_flat _ h).le (by omega)
 | false=>exact (wok_ones (f:=fun n=>min n 63) (fun i=>by omega) _ 3 0 h).1
theorem qECodW0 {p:Prop} (h:p:=by
 have HP7:=lh hp7
 have HR7:=lh hr7.1
 clear hp6 hp7 ha6 hg6 hr6 hr7 ho7
 go_wp2_with fail
 go_meet
 exact ⟨F6,_,HP7,HR7,lh rfl⟩):p:=h
theorem wsquare_any {base R E lo hi n:Nat} {F:List Nat} {w:World} {m:Wrt} {key:Bool} {s:SqD} {lv:Value} {vs:List Value} (hA:(pcWrite base R E).At F w m) (hs:SqWr key s) (hin:SqIn lo hi w lv vs s.large s.small) (hml:s.modes.length=4) (hF:∀ x∈F,x<lo∨hi≤x) (hw:hi≤w.heap.size) (ok:WOk n m) (hn:n≤90000000) :
  Calls Tryz.prog 88 #[wv R,.bool key,.agg (sqL s.kind s.mode s.modes s.vx s.vy lv vs).toArray] w fun e w'=>((∃ v,e=.returned v)∧∃ F',(pcWrite base R E).At F' w' (squareG wrC key (askOf s) m).2∧Went F w F' w'):=by
 refine hidQ fun Q HPost=>?_
 have hF0:∀ x∈F,x<w.heap.size:=fun x hx=>(pcWrite base R E).lt hA x hx
 have hbase:base≤w.heap.size:=(pcWrite base R E).base_le hA
 have hst:=square_st hs m
 rw [hst] at HPost
 have hkv:=kindK_val (key:=key) (k:=(s.kind:Int)) (by omega) (by have:=hs.kind;omega) (fun e=>by have:=hs.key_ e;omega) m
 have hk3:=hs.kind
 have hk2:=hs.key_
 have HI:=lh (sqL_info (k:=(s.kind:Int)) (mo:=(s.mode:Int)) (vx:=s.vx) (vy:=s.vy) (lv:=lv) hml hin.len)
 have HCk:=lh (fun (W:World) (o:Only [] w W)=>scheck_any hs (hin.only o (by simp)) hml)
 have HWp:=lh (fun (W:World) (F:List Nat) (m:Wrt) (O n:Nat) (hA:(pcWrite base R E).At F W m) (hin:SqIn lo hi W lv vs s.large s.small) (hF:∀ x∈F,x<lo∨hi≤x) (hw:hi≤W.heap.size) (ho:SqRow O W s.kind 0 [0,0,0,0] 0 0 nilS [nilS,nilS,nilS,nilS]) (hOb:base≤O) (hOF:O∉F) (hOl:O<lo∨hi≤O) (ok:WOk n m) (hn:n≤100000000)=>wparts_any hA hs hin hml hF hw ho hOb hOF hOl ok hn)
 have HOk:=lh ok
 have HOk2:=lh (wok_kind key (s.kind:Int) ok)
 have HIn:=lh hin
 have HF:=lh hF
 have HA:=lh hA
 have HNm:=lh (And.intro hw (And.intro hF0 hbase))
 obtain ⟨kd,hkd⟩:∃ z,z=s.kind:=⟨_,rfl⟩
 rw [← hkd] at HPost hkv hk3 hk2 HOk2
 obtain ⟨CA,hCA⟩:∃ z,z=(sqL (s.kind:Int) (s.mode:Int) s.modes s.vx s.vy lv vs).toArray:=⟨_,rfl⟩
 have HB0:Hid (∀ wx:World,wx.heap[w.heap.size]?=some (.cells CA 158 (0,0))→wx.cell? ⟨w.heap.size,0,none⟩=some (.int .i64 kd)):=lh (fun wx h=>by rw [hCA] at h;rw [hkd];exact SqRow.cell h sqL_kind)
 rw [← hCA] at HI HCk HWp ⊢
 rw [← hkd] at HWp
 have HUnd:=lh Tryz.underlying158
 have HQ2:Hid (Only [] w ((w.alloc (.cells CA 158)).alloc (.cells #[.int .i64 0,.int .i64 0,.int .i64 0,.int .i64 0,.int .i64 0,.int .i64 0,.int .i64 0,.int .i64 0,.slice none 0 0,.slice none 0 0,.slice none 0 0,.slice none 0 0,.slice none 0 0] 158))):=lh ((Only.new w _).alloc _)
 have HB2:Hid (((w.alloc (.cells CA 158)).alloc (.cells #[.int .i64 0,.int .i64 0,.int .i64 0,.int .i64 0,.int .i64 0,.int .i64 0,.int .i64 0,.int .i64 0,.slice none 0 0,.slice none 0 0,.slice none 0 0,.slice none 0 0,.slice none 0 0] 158)).heap[w.heap.size]?=some (.cells CA 158 (0,0))):=lh ((Only.new (w.alloc _) _).row (heap_alloc_new w _))
 have HT2:Hid (SqRow (w.heap.size+1) ((w.alloc (.cells CA 158)).alloc (.cells #[.int .i64 0,.int .i64 0,.int .i64 0,.int .i64 0,.int .i64 0,.int .i64 0,.int .i64 0,.int .i64 0,.slice none 0 0,.slice none 0 0,.slice none 0 0,.slice none 0 0,.slice none 0 0] 158)) 0 0 [0,0,0,0] 0 0 nilS [nilS,nilS,nilS,nilS]):=lh (heap_alloc_new' (by simp))
 have HZ2:Hid (((w.alloc (.cells CA 158)).alloc (.cells #[.int .i64 0,.int .i64 0,.int .i64 0,.int .i64 0,.int .i64 0,.int .i64 0,.int .i64 0,.int .i64 0,.slice none 0 0,.slice none 0 0,.slice none 0 0,.slice none 0 0,.slice none 0 0] 158)).heap.size=w.heap.size+1+1):=lh (by simp)
 clear hA hs hin hml hF hw ok hF0 hbase hst hCA hkd
 go_enter Tryz.func88,Tryz.ntmps88
 go_wp2_with fail
 generalize hW2:World.alloc (World.alloc w _) _=W2 at *
 clear hW2
 go_at_call 112
 refine (wreads_any R W2).mono ?_
 rintro e w3 ⟨rfl,hw3⟩
 subst hw3
 go_wp2_with (first | (refine wpList_load_row rfl (.tmp 5) 158 rfl rfl HB2.out HUnd.out rfl HI.out ?_) | fail)
 go_at_call 113
 refine (HCk.out W2 HQ2.out).mono ?_
 rintro e w4 ⟨rfl,hq4⟩
 have HQ4:=lh (HQ2.out.q hq4)
 have HB4:=lh (hq4.row HB2.out)
 have HT4:=lh (hq4.row HT2.out)
 have HZ4:Hid (w.heap.size+1+1≤w4.heap.size):=lh (by have:=hq4.size;have:=HZ2.out;omega)
 clear hq4 HB2 HT2 HZ2 HQ2 HCk
 go_upto_block 2 with (fail)
 have HO5:=lh (heap_alloc_new w4 (.cells (sqL 0 0 [0,0,0,0] 0 0 nilS [nilS,nilS,nilS,nilS]).toArray 158))
 have HQ5:=lh (Only.new w4 (.cells (sqL 0 0 [0,0,0,0] 0 0 nilS [nilS,nilS,nilS,nilS]).toArray 158))
 have hw5:w4.alloc (.cells #[.int .i64 0,.int .i64 0,.int .i64 0,.int .i64 0,.int .i64 0,.int .i64 0,.int .i64 0,.int .i64 0,.slice none 0 0,.slice none 0 0,.slice none 0 0,.slice none 0 0,.slice none 0 0] 158)=w4.alloc (.cells (sqL 0 0 [0,0,0,0] 0 0 nilS [nilS,nilS,nilS,nilS]).toArray 158):=rfl
 rw [hw5]
 clear hw5
 have HZ5:Hid (w4.heap.size<(w4.alloc (.cells (sqL 0 0 [0,0,0,0] 0 0 nilS [nilS,nilS,nilS,nilS]).toArray 158)).heap.size):=lh (by simp)
 generalize World.alloc w4 _=W5 at *
 have HQw:Hid (Only [] w W5):=lh (HQ4.out.q HQ5.out)
 have HB5:=lh (HQ5.out.row HB4.out)
 have HT5:=lh (HQ5.out.row HT4.out)
 clear HQ4 HQ5 HB4 HT4
 obtain ⟨O,hO⟩:∃ z,z=w4.heap.size:=⟨_,rfl⟩
 rw [← hO] at HO5 HZ4 HZ5 ⊢
 clear hO
 have HOF:Hid (O∉F):=lh (fun h=>by have:=HNm.out.2.1 O h;have:=HZ4.out;omega)
 have HP5:Hid (PSt base R E O F W5 W5 F m):=lh ⟨(pcWrite base R E).only HA.out HQw.out (by simp),SqRow.q HO5.out rfl rfl rfl nils_one,HOF.out,Went.refl _ _,HZ5.out,by have:=HNm.out.2.2;have:=HZ4.out;omega⟩
 have HN5:Hid (w.heap.size∉O :: F∧w.heap.size+1∉O :: F):=lh (by
  have h1:=HZ4.out
  constructor <;> (intro h;rcases List.mem_cons.1 h with h | h;omega;have:=HNm.out.2.1 _ h;omega))
 have b0:=HB0.out _ HB5.out
 go_cut [] (fun wx=>∃ (F6:List Nat) (m6:Wrt),Hid (PSt base R E O F W5 wx F6 m6)∧Hid (SqRow O wx kd 0 [0,0,0,0] 0 0 nilS [nilS,nilS,nilS,nilS])∧Hid ((kindKG wrC key (kd:Int) m).2=m6))
 case first =>
  cases key with
  | false =>
   have HM:=lh (pkind_any (pcWrite base R E) HP5.out.at_ (v:=(kd:Int)) (by omega) HOk.out (by omega))
   go_wp2_with fail
   go_at_call 114
   refine HM.out.mono ?_
   rintro e w6 ⟨rfl,F6,ha6,hg6⟩
   have hp6:=HP5.out.call ha6 hg6
   have hkv2:((kindG wrC (kd:Int) m).1:Int)=(kd:Int):=hkv
   simp only
   rw [hkv2]
   obtain ⟨hp7,⟨u7,x7⟩,y7,ho7⟩:=hp6.store (i:=0) (by omega) (v:=.int .i64 (kd:Int)) rfl
   have hr6:SqRow O w6 0 0 [0,0,0,0] 0 0 nilS [nilS,nilS,nilS,nilS]:=hg6.1.rowAt HO5.out HOF.out
   have hr7:=hr6.set (i:=0) (sqL_setK (kd:Int))
   have HP7:=lh hp7
   have HR7:=lh hr7.1
   clear hp6 hp7 ha6 hg6 hkv2 hr6 hr7 ho7
   go_wp2_with fail
   go_meet
   exact ⟨F6,_,HP7,HR7,lh rfl⟩
  | true =>
   have hkk:kd=2∨kd=3:=by have:=hk2 rfl;omega
   have mf:=mFlatW R
   have nf:=nFlatW R
   have HFl:=lh (fun (b:Bool)=>(pcWrite base R E).flat b HP5.out.at_ HOk.out (by omega))
   rcases hkk with rfl | rfl
   ·go_wp2_with fail
    go_at_call 222
    refine (HFl.out false).mono ?_
    rintro e w6 ⟨rfl,F6,ha6,hg6⟩
    have hp6:=HP5.out.call ha6 hg6
    obtain ⟨hp7,⟨u7,x7⟩,y7,ho7⟩:=hp6.store (i:=0) (by omega) (v:=.int .i64 2) rfl
    have hr6:SqRow O w6 0 0 [0,0,0,0] 0 0 nilS [nilS,nilS,nilS,nilS]:=hg6.1.rowAt HO5.out HOF.out
    have hr7:=hr6.set (i:=0) (sqL_setK 2)
    exact qECodW0
   ·go_wp2_with fail
    go_at_call 222
    refine (HFl.out true).mono ?_
    rintro e w6 ⟨rfl,F6,ha6,hg6⟩
    have hp6:=HP5.out.call ha6 hg6
    obtain ⟨hp7,⟨u7,x7⟩,y7,ho7⟩:=hp6.store (i:=0) (by omega) (v:=.int .i64 3) rfl
    have hr6:SqRow O w6 0 0 [0,0,0,0] 0 0 nilS [nilS,nilS,nilS,nilS]:=hg6.1.rowAt HO5.out HOF.out
    have hr7:=hr6.set (i:=0) (sqL_setK 3)
    exact qECodW0
 case rest =>
  obtain ⟨F6,m6,HP6,HR6,Hm6⟩:=hcut
  obtain ⟨W6,hW6⟩:∃ z,z=wc:=⟨_,rfl⟩
  subst hW6
  rw [Hm6.out] at HPost HOk2
  clear HP5 HO5 b0 hkv hk2
  have HB6:=lh (HP6.out.keep HB5.out HN5.out.1)
  have HT6:=lh (HP6.out.keep HT5.out HN5.out.2)
  have HOl:Hid (O<lo∨hi≤O):=lh (.inr (by have:=HNm.out.1;have:=HZ4.out;omega))
  have HIn6:Hid (SqIn lo hi W6 lv vs s.large s.small):=lh ((HIn.out.only HQw.out (by simp)).only HP6.out.went.1 (fun g hg=>by
   rcases List.mem_cons.1 hg with rfl | hg
   ·exact HOl.out
   ·exact HF.out g hg))
  have HF6:Hid (∀ x∈F6,x<lo∨hi≤x):=lh (fun x hx=>by
   rcases HP6.out.went.2 x (List.mem_cons_of_mem _ hx) with h1 | h1
   ·rcases List.mem_cons.1 h1 with rfl | h1
    ·exact HOl.out
    ·exact HF.out x h1
   ·exact .inr (by have:=HNm.out.1;have:=HQw.out.size;omega))
  have HPt:=lh (HWp.out W6 F6 m6 O (n+3) HP6.out.at_ HIn6.out HF6.out (by have:=HNm.out.1;have:=HQw.out.size;have:=HP6.out.size;omega) HR6.out HP6.out.lt.2 HP6.out.out HOl.out HOk2.out (by omega))
  go_wp2_with (first | (refine wpList_load_row rfl (.tmp 5) 158 rfl rfl HB6.out HUnd.out rfl HI.out ?_) | fail)
  go_at_call 115
  refine HPt.out.mono ?_
  rintro e w7 ⟨rfl,F7,ha7,hrq7,hO7,hg7⟩
  obtain ⟨C,hC,hCs,hC1⟩:=hrq7
  have hC1a:C.all (·.oneCell')=true:=by rw [Array.all_eq_true];exact hC1
  have HCr:=lh hC
  have HIc:Hid ((Tryz.prog.info? 158).map (·.size)=some C.size):=lh (by rw [hCs];kernel_rfl)
  have HC1:=lh hC1a
  have HT7:=lh (hg7.1.rowAt HT6.out (fun h=>by
   rcases List.mem_cons.1 h with h | h
   ·exact HN5.out.2 (by rw [h];exact List.mem_cons_self ..)
   ·rcases HP6.out.went.2 _ (List.mem_cons_of_mem _ h) with h1 | h1
    ·exact HN5.out.2 h1
    ·have:=HZ4.out;have:=HZ5.out;omega))
  have HCz:Hid ((sqL 0 0 [0,0,0,0] 0 0 nilS [nilS,nilS,nilS,nilS]).toArray.size=C.size):=lh (by rw [hCs];rfl)
  have hT:w.heap.size+1∉F7:=fun h=>by
   rcases hg7.2 _ (List.mem_cons_of_mem _ h) with h1 | h1
   ·rcases List.mem_cons.1 h1 with h1 | h1
    ·exact HN5.out.2 (by rw [h1];exact List.mem_cons_self ..)
    ·rcases HP6.out.went.2 _ (List.mem_cons_of_mem _ h1) with h2 | h2
     ·exact HN5.out.2 h2
     ·have:=HZ4.out;have:=HZ5.out;omega
   ·have:=HP6.out.size;have:=HZ4.out;have:=HZ5.out;omega
  have HSo:=lh (Only.setRow (S:=[w.heap.size+1]) (Only.refl _ w7) (g:=w.heap.size+1) (fun _=>by simp) C)
  have HFn:=lh (show (w7.setRow (w.heap.size+1) C).heap[w.heap.size+1]?=some (.cells C 158 (0,0)) from setRow_heap w7 (w.heap.size+1) _ _ _ _ HT7.out)
  have HEnd:Hid (∃ F',(pcWrite base R E).At F' (w7.setRow (w.heap.size+1) C) (partsG wrC (askOf s) kd m6).2∧Went F w F' (w7.setRow (w.heap.size+1) C)):=lh ⟨F7,(pcWrite base R E).only ha7 HSo.out (fun g hg=>by rw [mSg] at hg;subst hg;exact ⟨by have:=HNm.out.2.2;show base≤_;omega,hT⟩),by
   have hall:=(HP6.out.went.trans hg7)
   refine ⟨(HQw.out.trans hall.1 (U:=F) (by simp) (fun g hg hlt=>?_)).trans HSo.out (U:=F) (fun _ h _=>h) (fun g hg hlt=>by rw [mSg] at hg;omega),fun g hg=>?_⟩
   ·rcases List.mem_cons.1 hg with h | h
    ·have:=HZ4.out;omega
    ·exact h
   ·rcases hall.2 g (List.mem_cons_of_mem _ hg) with h | h
    ·rcases List.mem_cons.1 h with h | h
     ·exact absurd hg (by rw [h];exact hO7)
     ·exact .inl h
    ·exact .inr (by have:=HQw.out.size;omega)⟩
  clear hC hCs hC1 hC1a ha7 hO7 hg7 hT
  go_wp2_with (first
   | (refine wpList_load_row rfl (.tmp 10) 158 rfl rfl HCr.out HUnd.out rfl HIc.out ?_)
   | (refine wpList_store_row rfl (.tmp 6) (.tmp 57) 158 rfl rfl rfl HT7.out HIc.out HCz.out HC1.out ?_)
   | fail)
  exact bodyPost_ret (v:=.tuple #[.agg C,.nilIface]) (results_cell_row2 Tryz.results88 _ _ (w.heap.size+1) _ _ _ _ _ rfl rfl HFn.out HUnd.out rfl HIc.out) rfl (HPost.out _ _ ⟨⟨_,rfl⟩,HEnd.out⟩)
end
end Go.Proofs.YtkigikallkpbcaaGreatDoor
