/- Joined texts: Split, KRd, GKEnd, KFr, GKRd, GKPp. Conditions: each part names its own. -/
import Derived.Test.YtkigikallkpbcaaGreatDoorT1
import Derived.Test.YtkigikallkpbcaaGreatDoorG2
import Derived.Test.YtkigikallkpbcaaGreatDoorG1
import Derived.StillTailTactics
import Derived.BigRegion
import Derived.Test.YtkigikallkpbcaaGreatDoorGP
import Derived.Test.YtkigikallkpbcaaGreatDoorG4
namespace Go.Proofs.YtkigikallkpbcaaGreatDoor
open Go.RowKit
set_option linter.unusedVariables false
set_option linter.unusedSimpArgs false
set_option maxRecDepth 100000
set_option maxHeartbeats 16000000
/-- what Split hands back -/
def SplitP (l:List Int) (w:World) (e:Ending) (w':World):Prop :=
 Only [] w w'∧∃ U E ua uc sa sc,e=.returned (.tuple #[.slice ua (List.length U) uc,.agg #[.int .i64 (codeE E),.slice sa (pathE E).length sc]])∧SplAt l E 0 U∧UnitsAt w.heap.size w'.heap.size w' (.slice ua U.length uc) U ∧
  Cells 2 w.heap.size w'.heap.size w' (.slice sa (pathE E).length sc) (pathE E).length (flat (pathE E))∧U.length≤l.length
theorem split_any {lo hi:Nat} {v:Value} {l:List Int} {w:World} (h:Ints .u8 lo hi w v l) (hl:l.length≤100000000) :
  Calls Tryz.prog 72 #[v] w (SplitP l w):=by
 refine hidQ fun Q HPost=>?_
 have hr8:=lh h.2
 obtain ⟨a,cap,hv,hcap,hmax,_⟩:=h.open
 subst hv
 have Hh:=lh h
 have hll:(l.length:Int)≤9223372036854775807:=by omega
 have Hl:=lh hl
 clear h hl hmax hcap
 go_enter Tryz.func72,Tryz.ntmps72
 go_wp2
 go_loopw [4,5] (fun x i wr=>∃ (p:Nat) (U:List UnitD),p≤l.length∧i=.int .i64 p∧U.length≤p∧Hid (∀ E us,SplAt l E p us→SplAt l E 0 (U ++ us))∧OwnU (w.heap.size+1) wr x U∧Only [] (w.alloc zErr) wr) (fun _ i _=>l.length-(intOf i).toNat)
 case atStart=>exact ⟨0,[],by omega,rfl,by simp,lh (fun _ _ h=>h),OwnU.nil _ _,Only.refl _ _⟩
 case round =>
  obtain ⟨p,U,hp,rfl,hUp,hspl,hown,hO⟩:=hrel
  have hz0:=hO.size
  simp only [World.size_alloc] at hz0
  have rE:=hO.row (heap_alloc_new w _)
  by_cases hlt:p<l.length
  ·have HN:=lh (knext_any p (Hh.out.quiet ((Only.new _ _).q hO)) hlt (by have:=Hl.out;omega))
   have hlti:(p:Int)<(l.length:Int):=by omega
   have hp0:(0:Int)≤(p:Int):=by omega
   obtain ⟨xa,xcap,rfl⟩:=hown.isSlice
   have HOwn:=lh hown
   have HO:=lh hO
   have HRE:=lh rE
   clear hown hO rE
   cases hres:nextD (l.drop p) p with
   | error er =>
    obtain ⟨hne,hpl⟩:=knextD_err hres
    have hcb:(er.code == 0)=false:=by rw [beq_eq_false_iff_ne];exact hne
    have Hfin:Hid (SplAt l (some er) 0 U):=lh (by have:=hspl.out (some er) [] (.bad hlt hres rfl);rwa [List.append_nil] at this)
    have Hres:=lh hres
    clear hres hne hspl
    go_wp2_with fail
    go_at_call 98
    refine HN.out.mono ?_
    rintro e w1 hP
    unfold KNextP at hP
    rw [Hres.out] at hP
    obtain ⟨hq1,sa,scap,rfl,hsv⟩:=hP
    have HSv:=lh hsv
    have hq1s:=lh hq1.size
    clear hsv
    rw [hpl] at HSv
    rw [hpl]
    simp only
    go_wp2_with fail
    go_at_call 47
    refine (ok_any _ _ _).mono ?_
    rintro e w2 ⟨rfl,hq2⟩
    rw [hcb]
    have rE2:=hq2.row ((Only.new _ _).row ((Only.new _ _).row (hq1.row HRE.out)))
    have rX2:=hq2.row (heap_alloc_new' (w:=w1.alloc zUnit) (o:=.cells #[.int .i64 er.code,.slice sa 1 scap] 38) (g:=w1.heap.size+1) (by simp))
    have hO2:Only [] wr w2:=hq1.q (((Only.new _ _).q (Only.new _ _)).q hq2)
    have HO2:=lh hO2
    obtain ⟨e0,e1,ef0,ef1,_⟩:=row2 rE2
    obtain ⟨x0,x1,xf0,xf1,_⟩:=row2 rX2
    have Hq2:=lh (((Only.new w1 zUnit).q (Only.new _ (.cells #[.int .i64 er.code,.slice sa 1 scap] 38))).q hq2)
    have RE2:=lh rE2
    clear hq1 hq2 rE2 rX2 hO2
    go_wp2_with fail
    go_region
    go_wp2_with fail
    generalize hWf:World.setCell _ _ _=Wf
    obtain ⟨t0,t1,oF,_⟩:=set2r RE2.out hWf
    refine bodyPost_ret (v:=.tuple #[.slice xa U.length xcap,.agg #[.int .i64 er.code,.slice sa 1 scap]]) (by simp [results,Tryz.results72,go_sem,t0,t1]) rfl (HPost.out _ _ ?_)
    have hO2:=HO2.out
    have hOa:Only [] w w2:=(Only.new _ _).q (HO.out.q hO2)
    have hz2:=hO2.size
    have hzf:=oF.size
    have hsz:=hq1s.out
    refine ⟨(hOa.tail1 oF (Nat.le_refl _)).drew,U,some er,xa,xcap,sa,scap,?_,Hfin.out,?_,?_,by omega⟩
    ·show Ending.returned _=Ending.returned (.tuple #[_,.agg #[.int .i64 er.code,.slice sa er.path.length scap]])
     rw [hpl]
    ·exact ((((HOwn.out.units).quiet hO2).tail1 oF (.inl (by omega))).mono (by omega) (by show _≤Wf.heap.size;omega)).quiet (Only.refl _ _).drew
    ·show Cells 2 _ _ _ (.slice sa er.path.length scap) er.path.length (flat er.path)
     rw [hpl]
     exact (((HSv.out.only Hq2.out (by simp)).tail1 oF (.inl (by omega))).mono (by omega) (by simp;omega)).only (Only.refl [] _).drew (by simp)
   | ok u =>
    obtain ⟨uk,ud,uat,uend⟩:=u
    have hok:=nextD_ok hres (by rw [List.length_drop];omega) (fun x hx=>hr8.out x (List.mem_of_mem_drop hx))
    rw [List.length_drop] at hok
    simp only at hok
    obtain ⟨huat,hue,hule,_,_,hud⟩:=hok
    have huat':p=uat:=huat.symm
    clear huat
    subst huat'
    have Hspl:Hid (∀ E us,SplAt l E uend us→SplAt l E 0 ((U ++ [⟨uk,ud,p,uend⟩]) ++ us)):=lh (fun E us h=>by
     rw [List.append_assoc];exact hspl.out E _ (.more hlt hres h))
    have Hres:=lh hres
    clear hres hspl
    go_wp2_with fail
    go_at_call 98
    refine HN.out.mono ?_
    rintro e w1 hP
    unfold KNextP at hP
    rw [Hres.out] at hP
    obtain ⟨hq1,dv,rfl,hdv⟩:=hP
    obtain ⟨da,dcap,rfl,_⟩:=hdv.open
    have HDv:=lh hdv
    clear hdv
    simp only
    go_wp2_with fail
    go_at_call 47
    refine (ok_any _ _ _).mono ?_
    rintro e w2 ⟨rfl,hq2⟩
    simp only [BEq.rfl]
    have rU:=hq2.row ((Only.new _ zErr).row (heap_alloc_new w1 (.cells #[.int .i64 uk,.slice da ud.length dcap,.int .i64 p,.int .i64 uend] 105)))
    obtain ⟨y0,y1,y2,y3⟩:=row4_cells rU
    have hqA:=((Only.new w1 (.cells #[.int .i64 uk,.slice da ud.length dcap,.int .i64 p,.int .i64 uend] 105)).q (Only.new _ zErr)).q hq2
    have hqB:Only [] wr w2:=hq1.q hqA
    have hqC:=hqB.alloc (.cells #[.int .i64 uk,.slice da ud.length dcap,.int .i64 p,.int .i64 uend] 105)
    have v0:=hqA
    have HU3:=lh (HOwn.out.quiet hqC)
    have Hd3:Hid (Ints .u8 wr.heap.size (w2.alloc (.cells #[.int .i64 uk,.slice da ud.length dcap,.int .i64 p,.int .i64 uend] 105)).heap.size _ (.slice da ud.length dcap) ud):=lh ((HDv.out.quiet (hqA.alloc (.cells #[.int .i64 uk,.slice da ud.length dcap,.int .i64 p,.int .i64 uend] 105))).mono (Nat.le_refl _) (hqA.alloc _).size)
    have HqC:=lh hqC
    have hvb:∀ g,(Value.slice xa U.length xcap).ownBlock=some g→g<wr.heap.size:=fun g hg=>(HOwn.out.at g hg).2
    have Hvb:=lh hvb
    have hz1:=hq1.size
    have hsrc:Cells 4 w2.heap.size (w2.heap.size+1) (w2.alloc (.cells #[.int .i64 uk,.slice da ud.length dcap,.int .i64 p,.int .i64 uend] 105)) (.slice (some ⟨w2.heap.size,0,none⟩) 1 1) 1 [.int .i64 uk,.slice da ud.length dcap,.int .i64 p,.int .i64 uend]:=cells_newG rfl rfl (by simp [maxLen]) rfl
    obtain ⟨xs,hx1,hx2⟩:=HU3.out
    have HX2:=lh hx2
    have hone:∀ u∈[Value.int .i64 uk,.slice da ud.length dcap,.int .i64 p,.int .i64 uend],u.oneCell'=true:=by
     intro u hu;simp only [List.mem_cons,List.not_mem_nil,or_false] at hu;rcases hu with rfl | rfl | rfl | rfl <;> rfl
    have h63:U.length+1≤maxLen:=by unfold maxLen;have:=Hl.out;omega
    have hby:(U.length+1)*48≤140737488355328:=by have:=Hl.out;omega
    have hba:w.heap.size+1≤(w2.alloc (.cells #[.int .i64 uk,.slice da ud.length dcap,.int .i64 p,.int .i64 uend] 105)).heap.size:=by have:=hqC.size;omega
    clear hq1 hq2 rU hqA hqB hqC hx2 v0 hvb
    have Hhy:=lh (And.intro hx1 (And.intro hsrc hone))
    clear hx1 hsrc hone
    go_wp2_with (first
     | (at_builtin;refine wpList_append_cells rfl (.tmp 23) (.tmp 25) 101 rfl EU Hhy.out.1 rfl Hhy.out.2.1 rfl Hhy.out.2.2 h63 hby hba (fun v3 w3 hown3 ho3 hat3=>?_);have Ho3:=lh hown3;have Hq3:=lh (And.intro ho3 hat3);have u3:=ho3.cell ((Only.new w2 _).cell y3 (by simp)) (fun hm=>by have:=Hvb.out w1.heap.size (by simpa using hm);omega);obtain ⟨x3,x3cap,rfl⟩:∃ a c,v3=.slice a (U.length+1) c:=(by obtain ⟨_,a,cap,h,_⟩:=Cells.of_own hown3;exact ⟨a,cap,h⟩);clear hown3 ho3 hat3)
     | fail)
    go_roundw
    case rel =>
     obtain ⟨ho3,hat3⟩:=Hq3.out
     have hacc:Acc (.slice xa U.length xcap) (w2.alloc (.cells #[.int .i64 uk,.slice da ud.length dcap,.int .i64 p,.int .i64 uend] 105)) (.slice x3 (U.length+1) x3cap) w3:=⟨ho3,hat3.imp id fun e g hg=>by rw [e] at hg;injection hg with hg;omega⟩
     have hzC:=HqC.out.size
     have hnew:=OwnU.snoc (a:=p) (e:=uend) (k:=uk) (lo:=wr.heap.size) Hhy.out.1 HX2.out Hd3.out (by omega) Hvb.out Ho3.out hacc
     refine ⟨uend,U ++ [⟨uk,ud,p,uend⟩],by omega,rfl,by simp;omega,Hspl,hnew,?_⟩
     exact (HO.out.q HqC.out).trans ho3 (by simp) (fun g hg hlt=>absurd hlt (by have:=HOwn.out.at g (by simpa using hg);simp;omega))
    case measure=>simp [intOf];omega
  ·obtain rfl:p=l.length:=by omega
   have hx:¬ (l.length:Int)<(l.length:Int):=by omega
   have Hfin:Hid (SplAt l none 0 U):=lh (by have:=hspl.out none [] (.done rfl);rwa [List.append_nil] at this)
   obtain ⟨xa,xcap,rfl⟩:=hown.isSlice
   obtain ⟨m0,m1,f0,f1,_⟩:=row2 rE
   have RE2:=lh rE
   have HOwn:=lh hown
   have HO:=lh hO
   clear hspl rE hown hO
   go_wp2_with fail
   generalize hWf:World.setCell _ _ _=Wf
   obtain ⟨t0,t1,oF,_⟩:=set2r RE2.out hWf
   refine bodyPost_ret (v:=.tuple #[.slice xa U.length xcap,.agg #[.int .i64 0,.slice none 0 0]]) (by simp [results,Tryz.results72,go_sem,t0,t1]) rfl (HPost.out _ _ ?_)
   have hOa:Only [] w wr:=(Only.new _ _).q HO.out
   have hzf:=oF.size
   exact ⟨hOa.tail1 oF (Nat.le_refl _),U,none,xa,xcap,none,0,rfl,Hfin.out,((HOwn.out.units).tail1 oF (.inl (by omega))).mono (by omega) (by omega),Cells.nil _ _ _ _,by omega⟩
/-- what a reader reads: the bytes, their units, the error behind them; where they lie -/
structure KS where
 l:List Int
 U:List UnitD
 E:Option Err
 uv:Value
 sv:Value
 lo:Nat
 hi:Nat
/-- the reader in block R, at place p of the bytes, n units behind it -/
structure KRd (K:KS) (R:Nat) (w:World) (p n:Nat):Prop where
 row:w.heap[R]?=some (.cells #[K.uv,.int .i64 n,.int .i64 (codeE K.E),K.sv] 113 (0,0))
 units:UnitsAt K.lo K.hi w K.uv K.U
 err:Cells 2 K.lo K.hi w K.sv (pathE K.E).length (flat (pathE K.E))
 spl:SplAt K.l K.E p (K.U.drop n)
 le:n≤K.U.length
 hiR:K.hi≤R
 zero:n=0→p=0
 last:∀ u,0<n→K.U[n-1]?=some u→u.end_=p
 r8:∀ x∈K.l,InK .u8 x
 small:K.l.length≤1000000000000
 ple:p≤K.l.length
 nle:K.U.length≤K.l.length
theorem KRd.lt {K:KS} {R p n:Nat} {w:World} (h:KRd K R w p n):R<w.heap.size:=(Array.getElem?_eq_some_iff.1 h.row).1
theorem KRd.only {K:KS} {R p n:Nat} {w w':World} {S:List Nat} (h:KRd K R w p n) (o:Only S w w') (hS:∀ g∈S,K.hi≤g∧g≠R):KRd K R w' p n :=
 { h with
  row:=o.rowAt h.row (fun hm=>(hS R hm).2 rfl)
  units:=h.units.only o (fun g hg=>.inr (hS g hg).1)
  err:=h.err.only o (fun g hg=>.inr (hS g hg).1) }
theorem KRd.quiet {K:KS} {R p n:Nat} {w w':World} (h:KRd K R w p n) (o:Only [] w w'):KRd K R w' p n:=h.only o (by simp)
theorem KRd.c1 {K:KS} {R p n:Nat} {w:World} (h:KRd K R w p n):w.cell? ⟨R,1,none⟩=some (.int .i64 n):=(row4_cells h.row).2.1
theorem KRd.set {K:KS} {R p n p' n':Nat} {w:World} (h:KRd K R w p n) (hs:SplAt K.l K.E p' (K.U.drop n')) (hl:n'≤K.U.length) (hz:n'=0→p'=0) (hla:∀ u,0<n'→K.U[n'-1]?=some u→u.end_=p') (hp:p'≤K.l.length) :
  KRd K R (w.setCell ⟨R,1,none⟩ (.int .i64 n')) p' n':=by
 have o:Only [R] w (w.setCell ⟨R,1,none⟩ (.int .i64 n')):=(Only.refl _ _).setCell (by simp) _
 have hhi:=h.hiR
 exact ⟨heap_setCell_same w R 1 _ _ _ h.row,h.units.only o (by intro g hg;rw [mSg] at hg;subst hg;exact .inr hhi),h.err.only o (by intro g hg;rw [mSg] at hg;subst hg;exact .inr hhi),hs,hl,h.hiR,hz,hla,h.r8,h.small,hp,h.nle⟩
/-- a next unit -/
theorem KRd.next {K:KS} {R p n:Nat} {w:World} (h:KRd K R w p n) (hn:n<K.U.length):∃ u,K.U[n]?=some u∧K.U.drop n=u :: K.U.drop (n+1)∧p<K.l.length∧peekR K.l p=.ok u∧SplAt K.l K.E u.end_ (K.U.drop (n+1))∧u.at_=p∧p<u.end_∧u.end_≤K.l.length∧0≤u.kind∧u.kind≤255:=by
 have hd:=List.drop_eq_getElem_cons hn
 have hs:=h.spl
 rw [hd] at hs
 obtain ⟨h1,h2,h3⟩:=hs.peek_cons
 have h4:=peekR_ok h2 h.ple h.r8
 exact ⟨K.U[n],List.getElem?_eq_getElem hn,hd,h1,h2,h3,h4.1,h4.2.1,h4.2.2.1,h4.2.2.2.1,h4.2.2.2.2.1⟩
theorem KRd.no {K:KS} {R p n:Nat} {w:World} (h:KRd K R w p n) (hn:¬ n<K.U.length):n=K.U.length∧((p=K.l.length∧K.E=none∧peekR K.l p=.error ⟨[],1⟩)∨(p<K.l.length∧∃ er,K.E=some er∧peekR K.l p=.error er)):=by
 have hs:=h.spl
 rw [List.drop_eq_nil_of_le (by omega)] at hs
 exact ⟨by have:=h.le;omega,hs.peek_nil⟩
/-- what take hands back -/
def KTakeP (K:KS) (R:Nat) (w:World) (p n:Nat) (e:Ending) (w':World):Prop :=
 Only [R] w w'∧match peekR K.l p with
  | .ok u=>∃ dv,e=.returned (.tuple #[.agg #[.int .i64 u.kind,dv,.int .i64 u.at_,.int .i64 u.end_],.agg #[.int .i64 0,.slice none 0 0]])∧Ints .u8 K.lo K.hi w' dv u.data∧KRd K R w' u.end_ (n+1)
  | .error er=>∃ sa scap,e=.returned (.tuple #[.agg #[.int .i64 0,.slice none 0 0,.int .i64 0,.int .i64 0],.agg #[.int .i64 er.code,.slice sa er.path.length scap]])∧Cells 2 K.lo K.hi w' (.slice sa er.path.length scap) er.path.length (flat er.path)∧KRd K R w' p n
/-- the six result cells, written -/
theorem set6 {w wf:World} {A B:Nat} {x0 x1 x2 x3 y0 y1 a0 a1 a2 a3 b0 b1:Value} {t s:TypeId} (hA:w.heap[A]?=some (.cells #[a0,a1,a2,a3] t (0,0))) (hB:w.heap[B]?=some (.cells #[b0,b1] s (0,0))) (hAB:A≠B)
  (hw:((((((w.setCell ⟨A,0,none⟩ x0).setCell ⟨A,1,none⟩ x1).setCell ⟨A,2,none⟩ x2).setCell ⟨A,3,none⟩ x3).setCell ⟨B,0,none⟩ y0).setCell ⟨B,1,none⟩ y1)=wf) :
  (wf.cell? ⟨A,0,none⟩=some x0∧wf.cell? ⟨A,1,none⟩=some x1∧wf.cell? ⟨A,2,none⟩=some x2∧wf.cell? ⟨A,3,none⟩=some x3)∧(wf.cell? ⟨B,0,none⟩=some y0∧wf.cell? ⟨B,1,none⟩=some y1)∧Only [A,B] w wf:=by
 have o4:Only [A] w ((((w.setCell ⟨A,0,none⟩ x0).setCell ⟨A,1,none⟩ x1).setCell ⟨A,2,none⟩ x2).setCell ⟨A,3,none⟩ x3):=((((Only.refl _ _).setCell (by simp) _).setCell (by simp) _).setCell (by simp) _).setCell (by simp) _
 have r4:=row4 (v0:=x0) (v1:=x1) (v2:=x2) (v3:=x3) hA
 have rB:=o4.rowAt hB (by simpa using fun h=>hAB h.symm)
 generalize ((((w.setCell ⟨A,0,none⟩ x0).setCell ⟨A,1,none⟩ x1).setCell ⟨A,2,none⟩ x2).setCell ⟨A,3,none⟩ x3)=w4 at *
 have o2:Only [B] w4 wf:=by rw [← hw];exact ((Only.refl _ _).setCell (by simp) _).setCell (by simp) _
 have r2:wf.heap[B]?=some (.cells #[y0,y1] s (0,0)):=by
  rw [← hw];exact heap_setCell_same _ B 1 _ _ y1 (heap_setCell_same _ B 0 _ _ y0 rB)
 have r4':=o2.rowAt r4 (by simpa using hAB)
 obtain ⟨k0,k1,_⟩:=row2 r2
 exact ⟨row4_cells r4',⟨k0,k1⟩,o4.trans o2 (by simp) (by simp)⟩
theorem Only.tail2 {S:List Nat} {A B:Nat} {w a b:World} (h:Only S w a) (o:Only [A,B] a b) (hA:w.heap.size≤A) (hB:w.heap.size≤B):Only S w b :=
 h.trans o (fun g h _=>h) (fun g hg hlt=>by simp only [List.mem_cons,List.not_mem_nil,or_false] at hg;omega)
theorem KRd.tail2 {K:KS} {R p n A B:Nat} {a b:World} (h:KRd K R a p n) (o:Only [A,B] a b) (hA:R<A) (hB:R<B):KRd K R b p n :=
 h.only o (fun g hg=>by have:=h.hiR;simp only [List.mem_cons,List.not_mem_nil,or_false] at hg;omega)
theorem Ints.tail2 {k:IntKind} {lo hi A B:Nat} {a b:World} {v:Value} {l:List Int} (h:Ints k lo hi a v l) (o:Only [A,B] a b) (hA:hi≤A) (hB:hi≤B):Ints k lo hi b v l :=
 h.only o (fun g hg=>by simp only [List.mem_cons,List.not_mem_nil,or_false] at hg;omega)
theorem Cells.tail2 {size lo hi n A B:Nat} {a b:World} {v:Value} {xs:List Value} (h:Cells size lo hi a v n xs) (o:Only [A,B] a b) (hA:hi≤A) (hB:hi≤B):Cells size lo hi b v n xs :=
 h.only o (fun g hg=>by simp only [List.mem_cons,List.not_mem_nil,or_false] at hg;omega)
theorem KRd.drew {K:KS} {R p n:Nat} {w:World} (h:KRd K R w p n):KRd K R w.drew p n:=h.quiet (Only.refl _ _).drew
theorem qKRd0 {p:Prop} (h:p:=by
 rw [← hW];show ((w.alloc _).alloc _).heap[_]?=_;rw [Below.heap_alloc _ _ _ (by simp)];exact heap_alloc_new _ _):p:=h
theorem ktake_any {K:KS} {R p n:Nat} {w:World} (h:KRd K R w p n) :
  Calls Tryz.prog 73 #[.pointer (some ⟨R,0,none⟩)] w (KTakeP K R w p n):=by
 refine hidQ fun Q HPost=>?_
 have hRl:=h.lt
 obtain ⟨ua,ucap,huv,hulc,hum,hat⟩:=h.units.open
 have huc:=h.row
 rw [huv] at huc
 obtain ⟨_,sa,scap,hsv,_⟩:=h.err
 rw [hsv] at huc
 have hnl:=h.le
 have hul:K.U.length≤1000000000000:=Nat.le_trans h.nle h.small
 have hO:∀ o o',Only [] w ((w.alloc o).alloc o'):=fun o o'=>(Only.new _ _).q (Only.new _ _)
 have HK:=lh h
 by_cases hlt:n<K.U.length
 ·obtain ⟨u,hu,_,hpl,hpk,hsp,huat,hue,hule,huk0,huk1⟩:=h.next hlt
  obtain ⟨b,off,dv,rfl,hb1,hb2,m0,m1,m2,m3,hdv⟩:=hat n u hu
  obtain ⟨da,dcap,rfl,_⟩:=hdv.open
  have Hpk:=lh hpk
  have Hsp:=lh hsp
  have Hdv:=lh hdv
  have Hu:=lh hu
  have Hule:=lh hule
  have Hue:=lh hue
  have Huat:=lh huat
  have hhiR:=h.hiR
  generalize hpe:(pathE K.E).length=pe at *
  generalize hcd:codeE K.E=ec at *
  obtain ⟨uk,ud,uat,uend⟩:=u
  have hlti:(n:Int)<(K.U.length:Int):=by omega
  have hn0:(0:Int)≤(n:Int):=by omega
  have c0:=fun o o'=>(hO o o').cell (row4_cells huc).1 (by simp)
  have c1:=fun o o'=>(hO o o').cell (row4_cells huc).2.1 (by simp)
  have Huv:=lh huv
  have hbR:b≠R:=by omega
  have hrow:=lh huc
  have hset:∀ W N1,Only [] w W→N1=((n:Int)+1)→KRd K R (W.setCell ⟨R,1,none⟩ (.int .i64 N1)) uend (n+1):=by
   rintro W N1 hOW rfl
   exact (h.quiet hOW).set (n':=n+1) hsp (by omega) (by omega) (fun u _ h=>by rw [Nat.add_sub_cancel,hu] at h;injection h with h;rw [← h]) hule
  have Hset:=lh hset
  simp only at m0 m1 m2 m3
  have M:=lh (And.intro (And.intro m0 m1) (And.intro m2 m3))
  clear h hat hpk hsp hdv hu hule hue huat huc hpe hcd huv hsv m0 m1 m2 m3 hset
  generalize K.U.length=ul at *
  go_enter Tryz.func73,Tryz.ntmps73
  go_wp2_with fail
  go_quiet (fail)
  generalize hW:World.drewN _ _=W
  have hOW:Only [] w W:=by rw [← hW];exact (hO _ _).drewN _
  have rA:W.heap[w.heap.size]?=some (.cells #[.int .i64 0,.slice none 0 0,.int .i64 0,.int .i64 0] 105 (0,0)):=by
   exact qKRd0
  have rB:W.heap[w.heap.size+1]?=some (.cells #[.int .i64 0,.slice none 0 0] 38 (0,0)):=by
   rw [← hW];exact heap_alloc_new' (w:=w.alloc _) (by simp)
  have rR:=hOW.row hrow.out
  obtain ⟨k0,k1,_,_⟩:=row4_cells rR
  have kf:=frozen_of_row W R 1 _ _ rR
  clear c0 c1 hW
  have hw1:IntKind.i64.wrap ((n:Int)+1)=n+1:=by rw [IntKind.wrap_i64];omega
  go_wp2_with fail
  have oW4:Only [R] W (W.setCell ⟨R,1,none⟩ (.int .i64 ((n:Int)+1))):=(Only.refl _ _).setCell (by simp) _
  have rA4:=oW4.rowAt rA (by simp;omega)
  have rB4:=oW4.rowAt rB (by simp;omega)
  have hK4:KRd K R (W.setCell ⟨R,1,none⟩ (.int .i64 ((n:Int)+1))) uend (n+1) :=
   Hset.out _ _ hOW rfl
  have rR4:(W.setCell ⟨R,1,none⟩ (.int .i64 ((n:Int)+1))).heap[R]?=_:=heap_setCell_same W R 1 _ _ _ rR
  have hw2:IntKind.i64.wrap (((n:Int)+1)-1)=n:=by rw [IntKind.wrap_i64];omega
  generalize ((n:Int)+1)=N1 at *
  obtain ⟨⟨m0,m1⟩,m2,m3⟩:=M.out
  have q0:=oW4.cell (hOW.cell m0 (by simp)) (by simpa using hbR)
  have q1:=oW4.cell (hOW.cell m1 (by simp)) (by simpa using hbR)
  have q2:=oW4.cell (hOW.cell m2 (by simp)) (by simpa using hbR)
  have q3:=oW4.cell (hOW.cell m3 (by simp)) (by simpa using hbR)
  have hdv4:=(Hdv.out.quiet hOW).only oW4 (by intro g hg;rw [mSg] at hg;subst hg;exact .inr hhiR)
  generalize hW4:World.setCell W _ _=W4 at *
  obtain ⟨d0,d1,_,_⟩:=row4_cells rR4
  obtain ⟨a0,a1,a2,a3⟩:=row4_cells rA4
  obtain ⟨b0,b1,bf0,bf1,_⟩:=row2 rB4
  have f0:=frozen_of_row _ _ 0 _ _ rA4
  have f1:=frozen_of_row _ _ 1 _ _ rA4
  have f2:=frozen_of_row _ _ 2 _ _ rA4
  have f3:=frozen_of_row _ _ 3 _ _ rA4
  have HF:=lh (And.intro (And.intro rA4 rB4) (And.intro hOW oW4))
  have HK4:=lh hK4
  have Hdv4:=lh hdv4
  clear rA rB rR k0 k1 kf hw1 hW4 rR4 rA4 rB4 m0 m1 m2 m3 oW4 hOW hK4 hdv4
  go_region
  go_wp2_with fail
  generalize hWf:World.setCell _ _ _=Wf
  obtain ⟨⟨rA4,rB4⟩,hOW,oW4⟩:=HF.out
  obtain ⟨⟨t0,t1,t2,t3⟩,⟨s0,s1⟩,oF⟩:=set6 rA4 rB4 (by omega) hWf
  refine bodyPost_ret (v:=.tuple #[.agg #[.int .i64 uk,.slice da ud.length dcap,.int .i64 uat,.int .i64 uend],.agg #[.int .i64 0,.slice none 0 0]]) (by simp [results,Tryz.results73,go_sem,t0,t1,t2,t3,s0,s1]) rfl (HPost.out _ _ ?_)
  unfold KTakeP
  rw [Hpk.out]
  have hA:Only [R] w W4:=(hOW.mono (by simp)).trans oW4 (fun g h _=>h) (fun g h _=>h)
  exact ⟨(hA.tail2 oF (by omega) (by omega)).drew,_,rfl,(Hdv4.out.tail2 oF (by omega) (by omega)).quiet (Only.refl _ _).drew,(HK4.out.tail2 oF (by omega) (by omega)).drew⟩
 ·obtain ⟨hne,hno⟩:=h.no hlt
  obtain ⟨er,hpk,hE⟩:∃ er,peekR K.l p=.error er∧((K.E=none∧er=⟨[],1⟩)∨K.E=some er):=by
   rcases hno with ⟨_,h2,h3⟩ | ⟨_,er,h2,h3⟩
   ·exact ⟨_,h3,.inl ⟨h2,rfl⟩⟩
   ·exact ⟨er,h3,.inr h2⟩
  have hlti:¬ (n:Int)<(K.U.length:Int):=by omega
  have c0:=fun o o'=>(hO o o').cell (row4_cells huc).1 (by simp)
  have c1:=fun o o'=>(hO o o').cell (row4_cells huc).2.1 (by simp)
  have Hpk:=lh hpk
  have hrow:=lh huc
  have hhiR:=h.hiR
  have herr:=h.err
  rw [hsv] at herr
  have Herr:=lh herr
  have hne2:=kpeekR_err hpk
  clear h hat hpk huc huv hsv hno hne herr
  generalize K.U.length=ul at *
  rcases hE with ⟨hE,rfl⟩ | hE
  ·have hcd:codeE K.E=0:=by rw [hE];rfl
   rw [hcd] at hrow
   clear hcd hE hne2 Herr
   generalize (pathE K.E).length=pe at *
   go_enter Tryz.func73,Tryz.ntmps73
   go_wp2_with fail
   go_quiet (fail)
   generalize hW:World.drewN _ _=W
   have hOW:Only [] w W:=by rw [← hW];exact (hO _ _).drewN _
   have rA:W.heap[w.heap.size]?=some zUnit:=by
    exact qKRd0
   have rB:W.heap[w.heap.size+1]?=some zErr:=by
    rw [← hW];exact heap_alloc_new' (w:=w.alloc _) (by simp)
   obtain ⟨k0,k1,k2,k3⟩:=row4_cells (hOW.row hrow.out)
   clear c0 c1 hW
   go_wp2_with fail
   go_at_call 47
   refine (ok_any _ _ _).mono ?_
   rintro e w1 ⟨rfl,hq1⟩
   simp only [BEq.rfl]
   go_wp2_with fail
   go_at_call 40
   refine (fail_any _ _).mono ?_
   rintro e w2 ⟨rfl,hq2⟩
   have rA2:=hq2.row (hq1.row rA)
   have rB2:=hq2.row (hq1.row rB)
   obtain ⟨⟨a0,a1,a2,a3⟩,⟨f0,f1,f2,f3⟩,b0,b1,bf0,bf1⟩:=res6 rA2 rB2
   have hO2:=(hOW.q hq1).q hq2
   clear rA rB hq1 hq2 k0 k1 k2 k3 hOW
   go_wp2_with fail
   generalize hWf:World.setCell _ _ _=Wf
   obtain ⟨⟨t0,t1,t2,t3⟩,⟨s0,s1⟩,oF⟩:=set6 rA2 rB2 (by omega) hWf
   refine bodyPost_ret (v:=.tuple #[.agg #[.int .i64 0,.slice none 0 0,.int .i64 0,.int .i64 0],.agg #[.int .i64 1,.slice none 0 0]]) (by simp [results,Tryz.results73,go_sem,t0,t1,t2,t3,s0,s1]) rfl (HPost.out _ _ ?_)
   unfold KTakeP
   rw [Hpk.out]
   exact ⟨(hO2.mono (S:=[]) (U:=[R]) (by simp)).tail2 oF (by omega) (by omega),none,0,rfl,Cells.nil _ _ _ _,(HK.out.quiet hO2).tail2 oF (by omega) (by omega)⟩
  ·have hcd:codeE K.E=er.code:=by rw [hE];rfl
   have hpe:pathE K.E=er.path:=by rw [hE];rfl
   rw [hpe] at Herr
   rw [hcd,hpe] at hrow
   have hcb:(er.code == 0)=false:=by rw [beq_eq_false_iff_ne];exact hne2.1
   clear hcd hpe hE hne2
   generalize hec:er.code=ec at *
   generalize her:er.path.length=pe at *
   have Hec:=lh hec
   have Her:=lh her
   clear hec her
   go_enter Tryz.func73,Tryz.ntmps73
   go_wp2_with fail
   go_quiet (fail)
   generalize hW:World.drewN _ _=W
   have hOW:Only [] w W:=by rw [← hW];exact (hO _ _).drewN _
   have rA:W.heap[w.heap.size]?=some zUnit:=by
    exact qKRd0
   have rB:W.heap[w.heap.size+1]?=some zErr:=by
    rw [← hW];exact heap_alloc_new' (w:=w.alloc _) (by simp)
   obtain ⟨k0,k1,k2,k3⟩:=row4_cells (hOW.row hrow.out)
   clear c0 c1 hW
   go_wp2_with fail
   go_at_call 47
   refine (ok_any _ _ _).mono ?_
   rintro e w1 ⟨rfl,hq1⟩
   rw [hcb]
   have rA2:=hq1.row rA
   have rB2:=hq1.row rB
   have hO2:=hOW.q hq1
   obtain ⟨_,_,k2,k3⟩:=row4_cells (hO2.row hrow.out)
   obtain ⟨⟨a0,a1,a2,a3⟩,⟨f0,f1,f2,f3⟩,b0,b1,bf0,bf1⟩:=res6 rA2 rB2
   have HRA:=lh rA2
   have HRB:=lh rB2
   have HO2:=lh hO2
   clear rA rB hq1 hOW rA2 rB2 hO2
   go_wp2_with fail
   go_region
   go_wp2_with fail
   generalize hWf:World.setCell _ _ _=Wf
   obtain ⟨⟨t0,t1,t2,t3⟩,⟨s0,s1⟩,oF⟩:=set6 HRA.out HRB.out (by omega) hWf
   refine bodyPost_ret (v:=.tuple #[.agg #[.int .i64 0,.slice none 0 0,.int .i64 0,.int .i64 0],.agg #[.int .i64 ec,.slice sa pe scap]]) (by simp [results,Tryz.results73,go_sem,t0,t1,t2,t3,s0,s1]) rfl (HPost.out _ _ ?_)
   have hO2:=HO2.out
   unfold KTakeP
   rw [Hpk.out]
   simp only
   rw [Her.out,Hec.out]
   exact ⟨((hO2.mono (S:=[]) (U:=[R]) (by simp)).tail2 oF (by omega) (by omega)).drew,sa,scap,rfl,((Herr.out.only hO2 (by simp)).tail2 oF (by omega) (by omega)).only (Only.refl [] _).drew (by simp),((HK.out.quiet hO2).tail2 oF (by omega) (by omega)).drew⟩
/-- what a reader's cells are, opened -/
theorem KRd.open {K:KS} {R p n:Nat} {w:World} (h:KRd K R w p n):∃ ua ucap,K.uv=.slice ua K.U.length ucap∧K.U.length≤ucap∧ucap≤maxLen∧w.cell? ⟨R,0,none⟩=some (.slice ua K.U.length ucap)∧w.cell? ⟨R,1,none⟩=some (.int .i64 n) ∧
  w.cell? ⟨R,2,none⟩=some (.int .i64 (codeE K.E))∧(∃ sa scap,K.sv=.slice sa (pathE K.E).length scap∧w.cell? ⟨R,3,none⟩=some (.slice sa (pathE K.E).length scap)∧Cells 2 K.lo K.hi w (.slice sa (pathE K.E).length scap) (pathE K.E).length (flat (pathE K.E))) ∧
  K.U.length≤1000000000000∧∀ i u,K.U[i]?=some u→∃ b off dv,ua=some ⟨b,off,none⟩∧K.lo≤b∧b<K.hi∧w.cell? ⟨b,off+i*4,none⟩=some (.int .i64 u.kind)∧w.cell? ⟨b,off+i*4+1,none⟩=some dv ∧
   w.cell? ⟨b,off+i*4+2,none⟩=some (.int .i64 u.at_)∧w.cell? ⟨b,off+i*4+3,none⟩=some (.int .i64 u.end_)∧Ints .u8 K.lo K.hi w dv u.data:=by
 obtain ⟨ua,ucap,huv,hulc,hum,hat⟩:=h.units.open
 have hr:=h.row
 rw [huv] at hr
 obtain ⟨k0,k1,k2,k3⟩:=row4_cells hr
 obtain ⟨_,sa,scap,hsv,_⟩:=id h.err
 rw [hsv] at k3
 exact ⟨ua,ucap,huv,hulc,hum,k0,k1,k2,⟨sa,scap,hsv,k3,hsv ▸ h.err⟩,Nat.le_trans h.nle h.small,hat⟩
/-- what end hands back -/
def KEndP (K:KS) (w:World) (E:Option Err) (e:Ending) (w':World):Prop :=
 Only [] w w'∧∃ sa scap,e=.returned (.agg #[.int .i64 (codeE E),.slice sa (pathE E).length scap])∧Cells 2 K.lo K.hi w' (.slice sa (pathE E).length scap) (pathE E).length (flat (pathE E))
theorem kend_any {K:KS} {R p n:Nat} {w:World} (h:KRd K R w p n) :
  Calls Tryz.prog 75 #[.pointer (some ⟨R,0,none⟩)] w (KEndP K w (endR K.l p)):=by
 refine hidQ fun Q HPost=>?_
 have hRl:=h.lt
 have hO:=Only.new w (.cells #[.int .i64 0,.slice none 0 0] 38)
 obtain ⟨ua,ucap,huv,hulc,hum,c0,c1,c2,⟨sa,scap,hsv,c3,hse⟩,hul,hat⟩:=(h.quiet hO).open
 have hn0:(0:Int)≤(n:Int):=by omega
 have rB:=heap_alloc_new w (.cells #[.int .i64 0,.slice none 0 0] 38)
 by_cases hlt:n<K.U.length
 ·obtain ⟨u,hu,_,hpl,hpk,_⟩:=h.next hlt
  have Hend:Hid (endR K.l p=some ⟨[],5⟩):=lh (by unfold endR;rw [if_pos hpl,hpk])
  have hlti:(n:Int)<(K.U.length:Int):=by omega
  have HO:=lh hO
  have RB:=lh rB
  clear h hat huv hu hpk hsv hse c2 c3 hO rB
  generalize K.U.length=ul at *
  go_enter Tryz.func75,Tryz.ntmps75
  go_wp2_with fail
  go_quiet (fail)
  generalize hW:World.drewN _ _=W
  have hOW:Only [] w W:=by rw [← hW];exact HO.out.drewN _
  have rW:W.heap[w.heap.size]?=some zErr:=by rw [← hW];exact RB.out
  clear hW c0 c1
  go_wp2_with fail
  go_at_call 40
  refine (fail_any _ _).mono ?_
  rintro e w1 ⟨rfl,hq1⟩
  have rW1:=hq1.row rW
  obtain ⟨m0,m1,f0,f1,hlt1⟩:=row2 rW1
  go_wp2_with fail
  generalize hWf:World.setCell _ _ _=Wf
  obtain ⟨t0,t1,oF,_⟩:=set2r rW1 hWf
  refine bodyPost_ret (v:=.agg #[.int .i64 5,.slice none 0 0]) (by simp [results,Tryz.results75,go_sem,t0,t1]) rfl (HPost.out _ _ ?_)
  unfold KEndP
  rw [Hend.out]
  exact ⟨(hOW.q hq1).tail1 oF (Nat.le_refl _),none,0,rfl,Cells.nil _ _ _ _⟩
 ·obtain ⟨hne,hno⟩:=h.no hlt
  have hlti:¬ (n:Int)<(K.U.length:Int):=by omega
  have Hend:Hid (endR K.l p=K.E):=lh (by
   unfold endR
   rcases hno with ⟨h1,h2,h3⟩ | ⟨h1,er,h2,h3⟩
   ·rw [if_neg (by omega),h2]
   ·rw [if_pos h1,h3,h2])
  have HO:=lh hO
  have RB:=lh rB
  have HSe:=lh hse
  have HHI:=lh h.hiR
  clear h hat huv hsv hse hO rB hno hne
  generalize K.U.length=ul at *
  generalize hec:codeE K.E=ec at *
  generalize hpe:(pathE K.E).length=pe at *
  go_enter Tryz.func75,Tryz.ntmps75
  go_wp2_with fail
  go_quiet (fail)
  generalize hW:World.drewN _ _=W
  have hOW:Only [] w W:=by rw [← hW];exact HO.out.drewN _
  have hOV:Only [] (w.alloc zErr) W:=by rw [← hW];exact (Only.refl _ _).drewN _
  have rW:W.heap[w.heap.size]?=some zErr:=by rw [← hW];exact RB.out
  have k2:=hOV.cell c2 (by simp)
  have k3:=hOV.cell c3 (by simp)
  obtain ⟨m0,m1,f0,f1,hlt1⟩:=row2 rW
  have HSe2:=lh (HSe.out.only hOV (by simp))
  clear hW c0 c1 c2 c3
  go_wp2_with fail
  generalize hWf:World.setCell _ _ _=Wf
  obtain ⟨t0,t1,oF,_⟩:=set2r rW hWf
  refine bodyPost_ret (v:=.agg #[.int .i64 ec,.slice sa pe scap]) (by simp [results,Tryz.results75,go_sem,t0,t1]) rfl (HPost.out _ _ ?_)
  unfold KEndP
  rw [Hend.out,hec,hpe]
  exact ⟨hOW.tail1 oF (Nat.le_refl _),sa,scap,rfl,HSe2.out.tail1 oF (.inr (by have:=HHI.out;omega))⟩
/-- may a unit of this kind not stand there? -/
def badK (first strict:Bool) (k:Int):Bool:=(first && !firstB k) || (strict && (decide (k<1) || decide (4<k)))
/-- the next coded frame, or why there is none -/
def frameR (l:List Int) (p:Nat) (first strict:Bool):Except Err UnitD :=
 match peekR l p with
 | .error e=>.error e
 | .ok u=>if badK first strict u.kind=true then .error ⟨[],2⟩ else match readB ⟨u.kind,u.data⟩ with
  | some k=>.error ⟨[],k⟩
  | none=>.ok u
/-- what frame hands back -/
def KFrameP (K:KS) (R:Nat) (w:World) (p n:Nat) (first strict:Bool) (e:Ending) (w':World):Prop :=
 Only [R] w w'∧match frameR K.l p first strict with
  | .ok u=>∃ dv,e=.returned (.tuple #[.agg #[.int .i64 u.kind,dv],.agg #[.int .i64 0,.slice none 0 0]])∧Ints .u8 K.lo K.hi w' dv u.data∧KRd K R w' u.end_ (n+1)
  | .error er=>∃ sa scap,e=.returned (.tuple #[.agg #[.int .i64 0,.slice none 0 0],.agg #[.int .i64 er.code,.slice sa er.path.length scap]])∧Cells 2 K.lo K.hi w' (.slice sa er.path.length scap) er.path.length (flat er.path)∧KRd K R w' p n
theorem readB_ne {c:Coded} {k:Int} (h:readB c=some k):k≠0:=by
 unfold readB at h
 split at h
 ·cases h;simp
 split at h
 ·split at h
  ·cases h;simp
  ·cases h
 split at h
 ·cases h;simp
 split at h
 ·cases h;simp
 split at h
 ·cases h;simp
 cases h
theorem frameR_err {l:List Int} {p:Nat} {first strict:Bool} {er:Err} (h:frameR l p first strict=.error er):er.code≠0∧er.path.length≤1:=by
 unfold frameR at h
 split at h
 ·rename_i e he;cases h;exact kpeekR_err he
 ·split at h
  ·cases h;exact ⟨by simp,by simp⟩
  ·split at h
   ·rename_i k hk;cases h;exact ⟨readB_ne hk,by simp⟩
   ·cases h
theorem frameR_ok {l:List Int} {p:Nat} {first strict:Bool} {u:UnitD} (h:frameR l p first strict=.ok u):peekR l p=.ok u∧badK first strict u.kind=false∧readB ⟨u.kind,u.data⟩=none:=by
 unfold frameR at h
 split at h
 ·cases h
 ·rename_i v hv
  split at h
  ·cases h
  ·rename_i hb
   split at h
   ·cases h
   ·rename_i hr;cases h;exact ⟨hv,by simpa using hb,hr⟩
theorem krframe_any {K:KS} {R p n:Nat} {w:World} (first strict:Bool) (h:KRd K R w p n) :
  Calls Tryz.prog 74 #[.pointer (some ⟨R,0,none⟩),.bool first,.bool strict] w (KFrameP K R w p n first strict):=by
 refine hidQ fun Q HPost=>?_
 have hRl:=h.lt
 have HK:=lh h
 have hnl:n≤1000000000000:=Nat.le_trans h.le (Nat.le_trans h.nle h.small)
 have hO:∀ o o',Only [] w ((w.alloc o).alloc o'):=fun o o'=>(Only.new _ _).q (Only.new _ _)
 have HT:=lh (fun o o'=>ktake_any (h.quiet (hO o o')))
 have HO:=lh hO
 have hR1:R≠w.heap.size:=by omega
 have hR2:R≠w.heap.size+1:=by omega
 clear h hO
 cases hpk:peekR K.l p with
 | error er =>
  have Hfr:Hid (frameR K.l p first strict=.error er):=lh (by unfold frameR;rw [hpk])
  have hne:=kpeekR_err hpk
  have hcb:(er.code == 0)=false:=by rw [beq_eq_false_iff_ne];exact hne.1
  have Hpk:=lh hpk
  clear hpk hne
  go_enter Tryz.func74,Tryz.ntmps74
  go_wp2_with fail
  go_at_call 73
  refine (HT.out _ _).mono ?_
  rintro e w1 hP
  unfold KTakeP at hP
  rw [Hpk.out] at hP
  obtain ⟨hq1,sa,scap,rfl,hsv,hk1⟩:=hP
  have HSv:=lh hsv
  have HK1:=lh hk1
  have HQ1:=lh hq1
  have rA:=hq1.rowAt (g:=w.heap.size) (o:=zCoded) ((Below.heap_alloc _ _ _ (by simp)).trans (heap_alloc_new _ _)) (by simpa using fun e=>hR1 e.symm)
  have rB:=hq1.rowAt (g:=w.heap.size+1) (o:=zErr) (heap_alloc_new' (by simp)) (by simpa using fun e=>hR2 e.symm)
  clear hsv hk1 hq1
  simp only
  go_wp2_with fail
  go_at_call 47
  refine (ok_any _ _ _).mono ?_
  rintro e w2 ⟨rfl,hq2⟩
  rw [hcb]
  have hqA:=((Only.new w1 zUnit).q (Only.new _ (.cells #[.int .i64 er.code,.slice sa er.path.length scap] 38))).q hq2
  have rX:=hq2.row (heap_alloc_new' (w:=w1.alloc zUnit) (o:=.cells #[.int .i64 er.code,.slice sa er.path.length scap] 38) (g:=w1.heap.size+1) (by simp))
  have rA2:=hqA.row rA
  have rB2:=hqA.row rB
  obtain ⟨x0,x1,_,_,_⟩:=row2 rX
  obtain ⟨a0,a1,af0,af1,_⟩:=row2 rA2
  obtain ⟨b0,b1,bf0,bf1,_⟩:=row2 rB2
  have HR2:=lh (And.intro rA2 (And.intro rB2 hqA))
  have hz1:w.heap.size+2≤w1.heap.size:=by have:=HQ1.out.size;simp at this;omega
  have hn1:¬ w.heap.size=w1.heap.size+1:=by omega
  clear rA rB rA2 rB2 rX hq2 hqA
  go_wp2_with fail
  go_region
  go_wp2_with fail
  generalize hWf:World.setCell _ _ _=Wf
  obtain ⟨rA2,rB2,hqA⟩:=HR2.out
  obtain ⟨⟨t0,t1⟩,⟨s0,s1⟩,oF⟩:=set22r rA2 rB2 (by omega) hWf
  refine bodyPost_ret (v:=.tuple #[.agg #[.int .i64 0,.slice none 0 0],.agg #[.int .i64 er.code,.slice sa er.path.length scap]]) (by simp [results,Tryz.results74,go_sem,t0,t1,s0,s1]) rfl (HPost.out _ _ ?_)
  unfold KFrameP
  rw [Hfr.out]
  have hhi:=HK.out.hiR
  have hA:Only [R] w w2:=(((HO.out zCoded zErr).mono (U:=[R]) (by simp)).trans HQ1.out (fun g h _=>h) (fun g h _=>h)).trans hqA (fun g h _=>h) (by simp)
  exact ⟨(hA.tail2 oF (by omega) (by omega)).drew,sa,scap,rfl,((HSv.out.only hqA (by simp)).tail2 oF (by omega) (by omega)).only (Only.refl [] _).drew (by simp),((HK1.out.quiet hqA).tail2 oF (by omega) (by omega)).drew⟩
 | ok u =>
  obtain ⟨uk,ud,uat,uend⟩:=u
  have hpo:=peekR_ok hpk HK.out.ple HK.out.r8
  simp only at hpo
  obtain ⟨huat,hue,hule,huk0,huk1,hud⟩:=hpo
  have hsm:=HK.out.small
  have Hpk:=lh hpk
  have hr8:=HK.out.r8
  have Hdl:Hid (ud.length≤140737488355328):=lh (by omega)
  have Hfr0:Hid (frameR K.l p first strict=if badK first strict uk=true then .error ⟨[],2⟩ else match readB ⟨uk,ud⟩ with
   | some k=>.error ⟨[],k⟩
   | none=>.ok ⟨uk,ud,uat,uend⟩):=lh (by unfold frameR;rw [hpk])
  clear hpk huat hue hule hud hsm hr8
  by_cases hbad:badK first strict uk=true
  ·have Hfr:Hid (frameR K.l p first strict=.error ⟨[],2⟩):=lh (by rw [Hfr0.out,if_pos hbad])
   have hways:(first=true∧firstB uk=false)∨((first=false∨(first=true∧firstB uk=true))∧strict=true∧uk<1)∨((first=false∨(first=true∧firstB uk=true))∧strict=true∧¬ uk<1∧4<uk):=by
    unfold badK at hbad
    cases first <;> cases strict <;> cases hfb:firstB uk <;> simp [hfb] at hbad ⊢ <;> omega
   clear hbad Hfr0
   go_enter Tryz.func74,Tryz.ntmps74
   go_wp2_with fail
   go_at_call 73
   refine (HT.out _ _).mono ?_
   rintro e w1 hP
   unfold KTakeP at hP
   rw [Hpk.out] at hP
   obtain ⟨hq1,dv,rfl,hdv,hk1⟩:=hP
   obtain ⟨da,dcap,rfl,_⟩:=hdv.open
   have HK1:=lh hk1
   have HQ1:=lh hq1
   have rA:=hq1.rowAt (g:=w.heap.size) (o:=zCoded) ((Below.heap_alloc _ _ _ (by simp)).trans (heap_alloc_new _ _)) (by simpa using fun e=>hR1 e.symm)
   have rB:=hq1.rowAt (g:=w.heap.size+1) (o:=zErr) (heap_alloc_new' (by simp)) (by simpa using fun e=>hR2 e.symm)
   clear hk1 hq1 hdv
   simp only
   go_wp2_with fail
   go_at_call 47
   refine (ok_any _ _ _).mono ?_
   rintro e w2 ⟨rfl,hq2⟩
   simp only [BEq.rfl]
   have hqA:=((Only.new w1 (.cells #[.int .i64 uk,.slice da ud.length dcap,.int .i64 uat,.int .i64 uend] 105)).q (Only.new _ zErr)).q hq2
   have rX:=hq2.row ((Only.new _ zErr).row (heap_alloc_new w1 (.cells #[.int .i64 uk,.slice da ud.length dcap,.int .i64 uat,.int .i64 uend] 105)))
   have rA2:=hqA.row rA
   have rB2:=hqA.row rB
   have hk2:=HK1.out.quiet hqA
   have kf:=frozen_of_row w2 R 1 _ _ hk2.row
   obtain ⟨x0,x1,x2,x3⟩:=row4_cells rX
   have hset:KRd K R (w2.setCell ⟨R,1,none⟩ (.int .i64 n)) p n:=hk2.set HK.out.spl HK.out.le HK.out.zero HK.out.last HK.out.ple
   have o3:Only [R] w2 (w2.setCell ⟨R,1,none⟩ (.int .i64 n)):=(Only.refl _ _).setCell (by simp) _
   have rX3:=o3.rowAt rX (by have:=HQ1.out.size;simp at this ⊢;omega)
   have rA3:=o3.rowAt rA2 (by simp;omega)
   have rB3:=o3.rowAt rB2 (by simp;omega)
   obtain ⟨y0,y1,y2,y3⟩:=row4_cells rX3
   have hA3:Only [R] w (w2.setCell ⟨R,1,none⟩ (.int .i64 n)):=((((HO.out zCoded zErr).mono (U:=[R]) (by simp)).trans HQ1.out (fun g h _=>h) (fun g h _=>h)).trans hqA (fun g h _=>h) (by simp)).trans o3 (fun g h _=>h) (fun g h _=>h)
   have H3:=lh (And.intro (And.intro rA3 rB3) (And.intro hset hA3))
   have hsp2:=And.intro hk2.spl (And.intro hk2.le (And.intro hk2.last hk2.ple))
   have Hsp:=lh hsp2
   clear hsp2
   obtain ⟨N1,hN1⟩:∃ N1:Int,((n+1:Nat):Int)=N1:=⟨_,rfl⟩
   have c1:=hk2.c1
   rw [hN1] at c1
   have hw1:IntKind.i64.wrap (N1-1)=n:=by rw [IntKind.wrap_i64];omega
   clear rA rB rA2 rB2 rX hq2 hqA hk2 o3 rX3 rA3 rB3 hset hA3 hN1
   rcases hways with ⟨rfl,hfb⟩ | ⟨rfl | ⟨rfl,hfb⟩,rfl,hlt⟩ | ⟨rfl | ⟨rfl,hfb⟩,rfl,hlt,hgt⟩
   all_goals
    go_wp2_with fail
    clear hw1
    generalize hW3:World.setCell _ _ _=W3 at *
    go_wp2_with (first
     | (go_at_call 45;refine (begins_any _ _).mono ?_;rintro e w' ⟨rfl,rfl⟩;rw [hfb])
     | fail)
    go_at_call 40
    refine (fail_any _ _).mono ?_
    rintro e w4 ⟨rfl,hq4⟩
    obtain ⟨⟨rA3,rB3⟩,hset,hA3⟩:=H3.out
    have rA4:=hq4.row rA3
    have rB4:=hq4.row rB3
    obtain ⟨a0,a1,af0,af1,_⟩:=row2 rA4
    obtain ⟨b0,b1,bf0,bf1,_⟩:=row2 rB4
    have hA4:Only [R] w w4:=hA3.trans hq4 (fun g h _=>h) (by simp)
    have hset4:=hset.quiet hq4
    clear rA3 rB3 hq4 hset hA3 H3
    go_wp2_with fail
    generalize hWf:World.setCell _ _ _=Wf
    obtain ⟨⟨t0,t1⟩,⟨s0,s1⟩,oF⟩:=set22r rA4 rB4 (by omega) hWf
    refine bodyPost_ret (v:=.tuple #[.agg #[.int .i64 0,.slice none 0 0],.agg #[.int .i64 2,.slice none 0 0]]) (by simp [results,Tryz.results74,go_sem,t0,t1,s0,s1]) rfl (HPost.out _ _ ?_)
    unfold KFrameP
    rw [Hfr.out]
    exact ⟨hA4.tail2 oF (by omega) (by omega),none,0,rfl,Cells.nil _ _ _ _,hset4.tail2 oF (by omega) (by omega)⟩
  ·have Hfr1:Hid (frameR K.l p first strict=match readB ⟨uk,ud⟩ with
    | some k=>.error ⟨[],k⟩
    | none=>.ok ⟨uk,ud,uat,uend⟩):=lh (by rw [Hfr0.out,if_neg hbad])
   have hways:(first=false∨(first=true∧firstB uk=true))∧(strict=false∨(strict=true∧¬ uk<1∧¬ 4<uk)):=by
    unfold badK at hbad
    cases first <;> cases strict <;> cases hfb:firstB uk <;> simp [hfb] at hbad ⊢ <;> omega
   clear hbad Hfr0
   go_enter Tryz.func74,Tryz.ntmps74
   go_wp2_with fail
   go_at_call 73
   refine (HT.out _ _).mono ?_
   rintro e w1 hP
   unfold KTakeP at hP
   rw [Hpk.out] at hP
   obtain ⟨hq1,dv,rfl,hdv,hk1⟩:=hP
   obtain ⟨da,dcap,rfl,_⟩:=hdv.open
   have HK1:=lh hk1
   have HQ1:=lh hq1
   have rA:=hq1.rowAt (g:=w.heap.size) (o:=zCoded) ((Below.heap_alloc _ _ _ (by simp)).trans (heap_alloc_new _ _)) (by simpa using fun e=>hR1 e.symm)
   have rB:=hq1.rowAt (g:=w.heap.size+1) (o:=zErr) (heap_alloc_new' (by simp)) (by simpa using fun e=>hR2 e.symm)
   have HDv:=lh hdv
   clear hk1 hq1 hdv
   simp only
   go_wp2_with fail
   go_at_call 47
   refine (ok_any _ _ _).mono ?_
   rintro e w2 ⟨rfl,hq2⟩
   simp only [BEq.rfl]
   have hqA:=((Only.new w1 (.cells #[.int .i64 uk,.slice da ud.length dcap,.int .i64 uat,.int .i64 uend] 105)).q (Only.new _ zErr)).q hq2
   have rX:=hq2.row ((Only.new _ zErr).row (heap_alloc_new w1 (.cells #[.int .i64 uk,.slice da ud.length dcap,.int .i64 uat,.int .i64 uend] 105)))
   have rY:=hq2.row (heap_alloc_new' (w:=w1.alloc (.cells #[.int .i64 uk,.slice da ud.length dcap,.int .i64 uat,.int .i64 uend] 105)) (o:=zErr) (g:=w1.heap.size+1) (by simp))
   have hdv2:=HDv.out.quiet hqA
   have rA2:=hqA.row rA
   have rB2:=hqA.row rB
   have hk2:=HK1.out.quiet hqA
   have kf:=frozen_of_row w2 R 1 _ _ hk2.row
   obtain ⟨x0,x1,x2,x3⟩:=row4_cells rX
   have hset:KRd K R (w2.setCell ⟨R,1,none⟩ (.int .i64 n)) p n:=hk2.set HK.out.spl HK.out.le HK.out.zero HK.out.last HK.out.ple
   have o3:Only [R] w2 (w2.setCell ⟨R,1,none⟩ (.int .i64 n)):=(Only.refl _ _).setCell (by simp) _
   have rX3:=o3.rowAt rX (by have:=HQ1.out.size;simp at this ⊢;omega)
   have rA3:=o3.rowAt rA2 (by simp;omega)
   have rB3:=o3.rowAt rB2 (by simp;omega)
   obtain ⟨y0,y1,y2,y3⟩:=row4_cells rX3
   have hA3:Only [R] w (w2.setCell ⟨R,1,none⟩ (.int .i64 n)):=((((HO.out zCoded zErr).mono (U:=[R]) (by simp)).trans HQ1.out (fun g h _=>h) (fun g h _=>h)).trans hqA (fun g h _=>h) (by simp)).trans o3 (fun g h _=>h) (fun g h _=>h)
   have rY3:=o3.rowAt rY (by have:=HQ1.out.size;simp at this ⊢;omega)
   have hdv3:=hdv2.only o3 (by intro g hg;rw [mSg] at hg;subst hg;exact .inr HK.out.hiR)
   have H3:=lh (And.intro (And.intro rA3 rB3) (And.intro hset (And.intro hA3 (And.intro rY3 hdv3))))
   have hz3:w1.heap.size+2≤(w2.setCell ⟨R,1,none⟩ (.int .i64 n)).heap.size:=by have:=hqA.size;have:=hq2.size;have:=o3.size;simp at *;omega
   have hz3e:(w2.setCell ⟨R,1,none⟩ (.int .i64 n)).heap.size=w2.heap.size:=by simp [World.setCell]
   have Hz3e:=lh hz3e
   clear hz3e
   have hzw:w.heap.size+2≤w1.heap.size:=by have:=HQ1.out.size;simp at this;omega
   have hsp2:=And.intro hk2.spl (And.intro hk2.le (And.intro hk2.last hk2.ple))
   have Hsp:=lh hsp2
   clear hsp2
   obtain ⟨N1,hN1⟩:∃ N1:Int,((n+1:Nat):Int)=N1:=⟨_,rfl⟩
   have c1:=hk2.c1
   rw [hN1] at c1
   have hw1:IntKind.i64.wrap (N1-1)=n:=by rw [IntKind.wrap_i64];omega
   clear rY hdv2 rY3 hdv3 rA rB rA2 rB2 rX hq2 hqA hk2 o3 rX3 rA3 rB3 hset hA3 hN1
   obtain ⟨hw1',hw2'⟩:=hways
   rcases hw1' with rfl | ⟨rfl,hfb⟩ <;> rcases hw2' with rfl | ⟨rfl,hlt,hgt⟩
   all_goals
    go_wp2_with fail
    clear hw1
    generalize hW3:World.setCell _ _ _=W3 at *
    go_wp2_with (first
     | (go_at_call 45;refine (begins_any _ _).mono ?_;rintro e w' ⟨rfl,rfl⟩;rw [hfb])
     | fail)
    go_at_call 46
    refine (kread_any (H3.out.2.2.2.2.quiet (Only.new _ _)) Hdl.out).mono ?_
    rintro e w4 hP
    unfold HeadK at hP
    obtain ⟨hq4,hP⟩:=hP
    obtain ⟨⟨rA3,rB3⟩,hset,hA3,rY3,hdv3⟩:=H3.out
    have hqB:=(Only.new W3 (.cells #[.int .i64 uk,.slice da ud.length dcap] 69)).q hq4
    have rA4:=hqB.row rA3
    have rB4:=hqB.row rB3
    have rY4:=hqB.row rY3
    have rZ4:=hq4.row (heap_alloc_new' (w:=W3) (o:=.cells #[.int .i64 uk,.slice da ud.length dcap] 69) Hz3e.out)
    have hset4:=hset.quiet hqB
    have hA4:Only [R] w w4:=hA3.trans hqB (fun g h _=>h) (by simp)
    have hz4:=hqB.size
    have hdv4:=hdv3.quiet hqB
    have hn2:¬ w.heap.size=w1.heap.size+1:=by omega
    have hn3:¬ w.heap.size=w2.heap.size:=by have:=Hz3e.out;omega
    have hn4:¬ w1.heap.size+1=w2.heap.size:=by have:=Hz3e.out;omega
    have hn5:¬ w.heap.size+1=w2.heap.size:=by have:=Hz3e.out;omega
    have hn6:¬ w.heap.size+1=w1.heap.size+1:=by omega
    obtain ⟨e0,e1,ef0,ef1,_⟩:=row2 rY4
    clear hq4 rA3 rB3 rY3 hset hA3 hdv3 H3 hqB y0 y1 y2 y3
    cases hrb:readB ⟨uk,ud⟩ with
    | some kc =>
     have Hfr:Hid (frameR K.l p _ _=.error ⟨[],kc⟩):=lh (by rw [Hfr1.out,hrb])
     have hkc:(kc == 0)=false:=by rw [beq_eq_false_iff_ne];exact readB_ne hrb
     rw [hrb] at hP
     simp only at hP
     subst hP
     clear hrb
     go_wp2_with fail
     generalize hW5:World.setCell _ _ _=W5
     obtain ⟨e0,e1,o5,rY5⟩:=set2r rY4 hW5
     have rA5:=o5.rowAt rA4 (by simp;omega)
     have rB5:=o5.rowAt rB4 (by simp;omega)
     have rZ5:=o5.rowAt rZ4 (by simp;omega)
     have hA5:Only [R] w W5:=hA4.tail1 o5 (by omega)
     have hset5:=hset4.only o5 (by intro g hg;rw [mSg] at hg;subst hg;have:=HK.out.hiR;omega)
     have hdv5:=hdv4.tail1 o5 (.inr (by have:=HK.out.hiR;omega))
     clear hW5 o5 rA4 rB4 rY4 rZ4 hA4 hset4 hdv4
     go_at_call 47
     refine (ok_any _ _ _).mono ?_
     rintro e w6 ⟨rfl,hq6⟩
     rw [hkc]
     have rA6:=hq6.row rA5
     have rB6:=hq6.row rB5
     have rY6:=hq6.row rY5
     have rZ6:=hq6.row rZ5
     have hA6:Only [R] w w6:=hA5.trans hq6 (fun g h _=>h) (by simp)
     have hset6:=hset5.quiet hq6
     have hdv6:=hdv5.quiet hq6
     obtain ⟨e0,e1,ef0,ef1,_⟩:=row2 rY6
     obtain ⟨a0,a1,af0,af1,_⟩:=row2 rA6
     obtain ⟨b0,b1,bf0,bf1,_⟩:=row2 rB6
     have H6:=lh (And.intro (And.intro rA6 rB6) (And.intro hset6 hA6))
     clear rA5 rB5 rY5 rZ5 hA5 hset5 hdv5 rA6 rB6 rY6 rZ6 hA6 hset6 hdv6 hq6
     go_wp2_with fail
     go_region
     go_wp2_with fail
     generalize hWf:World.setCell _ _ _=Wf
     obtain ⟨⟨rA6,rB6⟩,hset6,hA6⟩:=H6.out
     obtain ⟨⟨t0,t1⟩,⟨s0,s1⟩,oF⟩:=set22r rA6 rB6 (by omega) hWf
     refine bodyPost_ret (v:=.tuple #[.agg #[.int .i64 0,.slice none 0 0],.agg #[.int .i64 kc,.slice none 0 0]]) (by simp [results,Tryz.results74,go_sem,t0,t1,s0,s1]) rfl (HPost.out _ _ ?_)
     unfold KFrameP
     rw [Hfr.out]
     exact ⟨(hA6.tail2 oF (by omega) (by omega)).drew,none,0,rfl,Cells.nil _ _ _ _,(hset6.tail2 oF (by omega) (by omega)).drew⟩
    | none =>
     have Hfr:Hid (frameR K.l p _ _=.ok ⟨uk,ud,uat,uend⟩):=lh (by rw [Hfr1.out,hrb])
     rw [hrb] at hP
     simp only at hP
     obtain ⟨dv5,rfl,_⟩:=hP
     clear hrb
     go_wp2_with fail
     generalize hW5:World.setCell _ _ _=W5
     obtain ⟨e0,e1,o5,rY5⟩:=set2r rY4 hW5
     have rA5:=o5.rowAt rA4 (by simp;omega)
     have rB5:=o5.rowAt rB4 (by simp;omega)
     have rZ5:=o5.rowAt rZ4 (by simp;omega)
     have hA5:Only [R] w W5:=hA4.tail1 o5 (by omega)
     have hset5:=hset4.only o5 (by intro g hg;rw [mSg] at hg;subst hg;have:=HK.out.hiR;omega)
     have hdv5:=hdv4.tail1 o5 (.inr (by have:=HK.out.hiR;omega))
     clear hW5 o5 rA4 rB4 rY4 rZ4 hA4 hset4 hdv4
     go_at_call 47
     refine (ok_any _ _ _).mono ?_
     rintro e w6 ⟨rfl,hq6⟩
     simp only [BEq.rfl]
     have rA6:=hq6.row rA5
     have rB6:=hq6.row rB5
     have rY6:=hq6.row rY5
     have rZ6:=hq6.row rZ5
     have hA6:Only [R] w w6:=hA5.trans hq6 (fun g h _=>h) (by simp)
     have hset6:=hset5.quiet hq6
     have hdv6:=hdv5.quiet hq6
     obtain ⟨e0,e1,ef0,ef1,_⟩:=row2 rY6
     obtain ⟨a0,a1,af0,af1,_⟩:=row2 rA6
     obtain ⟨b0,b1,bf0,bf1,_⟩:=row2 rB6
     obtain ⟨z0,z1,zf0,zf1,hzl⟩:=row2 rZ6
     have c6:=hset6.c1
     have kf6:=frozen_of_row w6 R 1 _ _ hset6.row
     have hk7:KRd K R (w6.setCell ⟨R,1,none⟩ (.int .i64 ((n:Int)+1))) uend (n+1):=hset6.set (n':=n+1) Hsp.out.1 Hsp.out.2.1 (by omega) Hsp.out.2.2.1 Hsp.out.2.2.2
     have o7:Only [R] w6 (w6.setCell ⟨R,1,none⟩ (.int .i64 ((n:Int)+1))):=(Only.refl _ _).setCell (by simp) _
     have rA7:=o7.rowAt rA6 (by simp;omega)
     have rB7:=o7.rowAt rB6 (by simp;omega)
     have rY7:=o7.rowAt rY6 (by simp;omega)
     have rZ7:=o7.rowAt rZ6 (by simp;have:=Hz3e.out;omega)
     have hA7:Only [R] w (w6.setCell ⟨R,1,none⟩ (.int .i64 ((n:Int)+1))):=hA6.trans o7 (fun g h _=>h) (fun g h _=>h)
     have hdv7:=hdv6.only o7 (by intro g hg;rw [mSg] at hg;subst hg;exact .inr HK.out.hiR)
     clear rA5 rB5 rY5 rZ5 hA5 hset5 hdv5 rA6 rB6 rY6 rZ6 hA6 hset6 hdv6 hq6 o7
     have hnn:(n:Int)≤1000000000000:=by omega
     have hn0:(0:Int)≤(n:Int):=by omega
     go_wp2_with fail
     generalize hW7:World.setCell _ _ _=W7 at *
     obtain ⟨e0,e1,ef0,ef1,_⟩:=row2 rY7
     obtain ⟨a0,a1,af0,af1,_⟩:=row2 rA7
     obtain ⟨b0,b1,bf0,bf1,_⟩:=row2 rB7
     obtain ⟨z0,z1,zf0,zf1,_⟩:=row2 rZ7
     have z0':=z0
     have z1':=z1
     rw [← Hz3e.out] at z0' z1'
     have H7:=lh (And.intro (And.intro rA7 rB7) (And.intro hk7 (And.intro hA7 hdv7)))
     clear rA7 rB7 rY7 rZ7 hk7 hA7 hdv7 hW7 c6 kf6
     go_region
     go_wp2_with fail
     generalize hWf:World.setCell _ _ _=Wf
     obtain ⟨⟨rA6,rB6⟩,hset6,hA6,hdv6⟩:=H7.out
     obtain ⟨⟨t0,t1⟩,⟨s0,s1⟩,oF⟩:=set22r rA6 rB6 (by omega) hWf
     refine bodyPost_ret (v:=.tuple #[.agg #[.int .i64 uk,.slice da ud.length dcap],.agg #[.int .i64 0,.slice none 0 0]]) (by simp [results,Tryz.results74,go_sem,t0,t1,s0,s1]) rfl (HPost.out _ _ ?_)
     unfold KFrameP
     rw [Hfr.out]
     have hhi:=HK.out.hiR
     exact ⟨(hA6.tail2 oF (by omega) (by omega)).drew,_,rfl,(hdv6.tail2 oF (by omega) (by omega)).quiet (Only.refl _ _).drew,(hset6.tail2 oF (by omega) (by omega)).drew⟩
/-- what the reader of some bytes is -/
def KReaderP (l:List Int) (w:World) (e:Ending) (w':World):Prop :=
 ∃ K R,e=.returned (.pointer (some ⟨R,0,none⟩))∧K.l=l∧KRd K R w' 0 0∧Only [] w w'∧w.heap.size≤K.lo∧K.lo≤K.hi
theorem kreader_any {lo hi:Nat} {v:Value} {l:List Int} {w:World} (h:Ints .u8 lo hi w v l) (hl:l.length≤100000000) :
  Calls Tryz.prog 54 #[v] w (KReaderP l w):=by
 refine hidQ fun Q HPost=>?_
 obtain ⟨a,cap,rfl,_⟩:=h.open
 have HS:=lh (split_any h hl)
 have Hr8:=lh h.2
 have Hl:=lh hl
 clear h hl
 go_enter Tryz.func54,Tryz.ntmps54
 go_wp2_with fail
 go_at_call 72
 refine HS.out.mono ?_
 rintro e w1 ⟨hq1,U,E,ua,uc,sa,sc,rfl,hspl,hun,hce,hUl⟩
 have HQ:=lh hq1
 have Hspl:=lh hspl
 have Hun:=lh hun
 have Hce:=lh hce
 have HUl:=lh hUl
 clear hq1 hspl hun hce hUl
 simp only
 go_wp2_with fail
 have rX:((w1.alloc (.cells #[.int .i64 (codeE E),.slice sa (pathE E).length sc] 38)).alloc (.cells #[.slice ua U.length uc,.int .i64 0,.int .i64 (codeE E),.slice sa (pathE E).length sc] 113)).heap[w1.heap.size+1]?=some (.cells #[.slice ua U.length uc,.int .i64 0,.int .i64 (codeE E),.slice sa (pathE E).length sc] 113 (0,0)):=heap_alloc_new' (by simp)
 refine HPost.out _ _ ?_
 have hO:=(Only.new w1 (.cells #[.int .i64 (codeE E),.slice sa (pathE E).length sc] 38)).q (Only.new _ (.cells #[.slice ua U.length uc,.int .i64 0,.int .i64 (codeE E),.slice sa (pathE E).length sc] 113))
 refine ⟨⟨l,U,E,.slice ua U.length uc,.slice sa (pathE E).length sc,w.heap.size,w1.heap.size⟩,w1.heap.size+1,rfl,rfl,?_,HQ.out.q hO,Nat.le_refl _,HQ.out.size⟩
 exact ⟨rX,Hun.out.quiet hO,Hce.out.only hO (by simp),Hspl.out,Nat.zero_le _,Nat.le_succ _,fun _=>rfl,fun u h=>absurd h (Nat.lt_irrefl _),Hr8.out,by have:=Hl.out;show l.length≤_;omega,Nat.zero_le _,HUl.out⟩
/-- so many frames, one behind the other: how many are had, from which byte, at which unit -/
def kframesGo (l:List Int):Nat→Nat→Nat→List Coded→Except (Err×Nat) (List Coded×Nat×Nat)
 | 0,i,p,acc=>.ok (acc,p,i+1)
 | c+1,i,p,acc=>match frameR l p (i == 0) false with
  | .error e=>.error (e,i+1)
  | .ok u=>kframesGo l c (i+1) u.end_ (acc ++ [⟨u.kind,u.data⟩])
def headU (u:UnitD):Bool:=decide (u.kind=32) && decide (u.data.length=3) && headB (u.data.getD 0 0) (u.data.getD 1 0) (u.data.getD 2 0)
def kparseR (l:List Int):Except (Err×Nat) Chunk:=match peekR l 0 with
 | .error e=>.error (e,0)
 | .ok u=>if headU u=true then (match kframesGo l (u.data.getD 2 0).toNat 0 u.end_ [] with
   | .error x=>.error x
   | .ok x=>match endR l x.2.1 with
    | some e=>.error (e,x.2.2)
    | none=>.ok ⟨u.data.getD 0 0,u.data.getD 1 0,u.data.getD 2 0,x.1⟩) else .error (⟨[],2⟩,0)
def kparseE (l:List Int):Except Err Chunk:=match kparseR l with
 | .error x=>.error (inE sGop x.2 x.1)
 | .ok k=>.ok k
def doneK (l:List Int) (num f cnt:Int):Except (Err×Nat) (List Coded×Nat×Nat)→Except Err Chunk
 | .error x=>.error (inE sGop x.2 x.1)
 | .ok x=>match endR l x.2.1 with
  | some e=>.error (inE sGop x.2.2 e)
  | none=>.ok ⟨num,f,cnt,x.1⟩
def doneP (E:Option Err) (N:Nat):Except Err Chunk→Except Err Chunk
 | .error e=>.error e
 | .ok k=>match endE E N k with
  | some er=>.error (inE sGop N er)
  | none=>.ok k
theorem parseE_done (U:List UnitD) (E:Option Err):parseE U E=doneP E U.length (parseGo U 0 chunk0):=by
 unfold parseE doneP
 cases parseGo U 0 chunk0 <;> rfl
theorem kframes_eq {l:List Int} {E:Option Err} {num f:Int}:∀ (c i p:Nat) (us:List UnitD) (acc:List Coded) (cnt:Int),SplAt l E p us→cnt=((i+c:Nat):Int) →
  doneK l num f cnt (kframesGo l c i p acc)=doneP E (i+1+us.length) (parseGo us (i+1) ⟨num,f,cnt,acc⟩)
 | 0,i,p,us,acc,cnt,h,hc=>by
  unfold kframesGo doneK
  simp only
  cases us with
  | nil =>
   rw [parseGo]
   unfold doneP endR
   simp only
   rcases h.peek_nil with ⟨h1,h2,h3⟩ | ⟨h1,er,h2,h3⟩
   ·subst h2
    rw [if_neg (by omega)]
    unfold endE
    simp only [List.length_nil]
    rw [if_neg (by omega)]
   ·subst h2
    rw [if_pos h1,h3]
    unfold endE
    simp
  | cons u us =>
   obtain ⟨h1,h2,-⟩:=h.peek_cons
   have hj:joinE (i+1) ⟨num,f,cnt,acc⟩ u=.error 5:=by
    unfold joinE
    dsimp only
    rw [if_neg (by omega),if_pos (by omega)]
   rw [parseGo_bad hj]
   unfold doneP endR
   rw [if_pos h1,h2]
   rfl
 | c+1,i,p,us,acc,cnt,h,hc=>by
  unfold kframesGo
  cases us with
  | nil =>
   rw [parseGo]
   unfold frameR
   rcases h.peek_nil with ⟨h1,h2,h3⟩ | ⟨h1,er,h2,h3⟩
   ·subst h2
    rw [h3]
    unfold doneK doneP endE
    simp only [List.length_nil]
    rw [if_pos (.inr (by omega))]
    first | done | rfl
   ·subst h2
    rw [h3]
    unfold doneK doneP endE
    simp
  | cons u us =>
   obtain ⟨h1,h2,h4⟩:=h.peek_cons
   have hb:badK (i == 0) false u.kind=decide (i+1=1∧firstB u.kind=false):=by
    unfold badK
    cases firstB u.kind <;> cases hi:(i == 0) <;> simp_all
   unfold frameR
   rw [h2]
   simp only
   by_cases hf:i+1=1∧firstB u.kind=false
   ·have hj:joinE (i+1) ⟨num,f,cnt,acc⟩ u=.error 2:=by
     unfold joinE
     dsimp only
     rw [if_neg (by omega),if_neg (by omega),if_pos hf]
    rw [parseGo_bad hj,if_pos (by rw [hb];exact decide_eq_true hf)]
    rfl
   ·rw [if_neg (by rw [hb];simpa using hf)]
    cases hr:readB ⟨u.kind,u.data⟩ with
    | some k =>
     have hj:joinE (i+1) ⟨num,f,cnt,acc⟩ u=.error k:=by
      unfold joinE
      dsimp only
      rw [if_neg (by omega),if_neg (by omega),if_neg hf,hr]
     rw [parseGo_bad hj]
     rfl
    | none =>
     have hj:joinE (i+1) ⟨num,f,cnt,acc⟩ u=.ok ⟨num,f,cnt,acc ++ [⟨u.kind,u.data⟩]⟩:=by
      unfold joinE
      dsimp only
      rw [if_neg (by omega),if_neg (by omega),if_neg hf,hr]
     rw [parseGo_more hj]
     have ih:=kframes_eq (num:=num) (f:=f) c (i+1) u.end_ us (acc ++ [⟨u.kind,u.data⟩]) cnt h4 (by omega)
     simp only [List.length_cons]
     rw [show i+1+(us.length+1)=i+1+1+us.length by omega]
     exact ih
theorem kparse_eq {l:List Int} {E:Option Err} {U:List UnitD} (h:SplAt l E 0 U):kparseE l=parseE U E:=by
 rw [parseE_done]
 unfold kparseE kparseR
 cases U with
 | nil =>
  rw [parseGo]
  unfold doneP endE
  rcases h.peek_nil with ⟨h1,h2,h3⟩ | ⟨h1,er,h2,h3⟩
  ·subst h2;rw [h3];rfl
  ·subst h2;rw [h3];rfl
 | cons u us =>
  obtain ⟨h1,h2,h4⟩:=h.peek_cons
  rw [h2]
  simp only
  by_cases hu:headU u=true
  ·rw [if_pos hu]
   unfold headU at hu
   simp only [Bool.and_eq_true,decide_eq_true_eq] at hu
   obtain ⟨⟨e1,e2⟩,e3⟩:=hu
   have hj:joinE 0 chunk0 u=.ok ⟨u.data.getD 0 0,u.data.getD 1 0,u.data.getD 2 0,[]⟩:=by
    unfold joinE
    rw [if_pos rfl,if_pos ⟨e1,e2,e3⟩]
    rfl
   rw [parseGo_more hj]
   have hcn:u.data.getD 2 0=((0+(u.data.getD 2 0).toNat:Nat):Int):=by
    unfold headB at e3
    rw [decide_eq_true_eq] at e3
    omega
   have ih:=kframes_eq (E:=E) (num:=u.data.getD 0 0) (f:=u.data.getD 1 0) (u.data.getD 2 0).toNat 0 u.end_ us [] (u.data.getD 2 0) h4 hcn
   simp only [List.length_cons]
   rw [show us.length+1=0+1+us.length by omega]
   rw [← ih]
   cases kframesGo l (u.data.getD 2 0).toNat 0 u.end_ [] with
   | error x=>rfl
   | ok x =>
    unfold doneK
    simp only
    cases endR l x.2.1 <;> rfl
  ·rw [if_neg hu]
   have hj:joinE 0 chunk0 u=.error 2:=by
    unfold joinE
    rw [if_pos rfl,if_neg (fun e=>hu (by unfold headU;simp only [Bool.and_eq_true,decide_eq_true_eq];exact ⟨⟨e.1,e.2.1⟩,e.2.2⟩))]
   rw [parseGo_bad hj]
   rfl
end Go.Proofs.YtkigikallkpbcaaGreatDoor
