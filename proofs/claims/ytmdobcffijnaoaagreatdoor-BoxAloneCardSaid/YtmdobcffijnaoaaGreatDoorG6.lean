/- Frames in memory, kinref.Frame, kinlaw16.Pix. Conditions: the arguments read. -/
import Derived.Test.YtmdobcffijnaoaaGreatDoorK2
import Derived.Test.YtmdobcffijnaoaaGreatDoorC1
namespace Go.Proofs.YtmdobcffijnaoaaGreatDoor
open Go.RowKit
set_option linter.unusedVariables false
set_option linter.unusedSimpArgs false
set_option maxRecDepth 100000
set_option maxHeartbeats 16000000
instance:Inhabited FrameD:=⟨frame0⟩
def frEq (A B:FrameD):Bool:=decide (A.W=B.W) && decide (A.H=B.H) && eqB A.pix B.pix
/-- frames in memory -/
def FramesAt (lo hi:Nat) (w:World) (v:Value) (l:List FrameD):Prop :=
 ∃ f,Rows 3 lo hi w v l.length f∧∀ i,i<l.length→f i 0=.int .i64 (l.getD i default).W∧f i 1=.int .i64 (l.getD i default).H∧Ints .i64 lo hi w (f i 2) (l.getD i default).pix
theorem FramesAt.only {lo hi:Nat} {w w':World} {v:Value} {S:List Nat} {l:List FrameD} (h:FramesAt lo hi w v l) (o:Only S w w') (hS:∀ g∈S,g<lo∨hi≤g):FramesAt lo hi w' v l:=by
 obtain ⟨f,h1,h2⟩:=h
 exact ⟨f,h1.only o hS,fun i hi=>⟨(h2 i hi).1,(h2 i hi).2.1,(h2 i hi).2.2.only o hS⟩⟩
theorem FramesAt.quiet {lo hi:Nat} {w w':World} {v:Value} {l:List FrameD} (h:FramesAt lo hi w v l) (o:Only [] w w'):FramesAt lo hi w' v l:=h.only o (by simp)
theorem FramesAt.mono {lo hi lo' hi':Nat} {w:World} {v:Value} {l:List FrameD} (h:FramesAt lo hi w v l) (hl:lo'≤lo) (hh:hi≤hi'):FramesAt lo' hi' w v l:=by
 obtain ⟨f,h1,h2⟩:=h
 exact ⟨f,h1.mono hl hh,fun i hi=>⟨(h2 i hi).1,(h2 i hi).2.1,(h2 i hi).2.2.mono hl hh⟩⟩
theorem FramesAt.open {lo hi:Nat} {w:World} {v:Value} {l:List FrameD} (h:FramesAt lo hi w v l):∃ (a:Option Addr) (cap:Nat),v=.slice a l.length cap∧l.length≤cap∧cap≤maxLen ∧
  ∀ i,i<l.length→∃ b off dv,a=some ⟨b,off,none⟩∧lo≤b∧b<hi ∧
   w.cell? ⟨b,off+i*3,none⟩=some (.int .i64 (l.getD i default).W)∧w.cell? ⟨b,off+i*3+1,none⟩=some (.int .i64 (l.getD i default).H)∧w.cell? ⟨b,off+i*3+2,none⟩=some dv∧Ints .i64 lo hi w dv (l.getD i default).pix:=by
 obtain ⟨f,h1,h2⟩:=h
 obtain ⟨a,cap,rfl,x,y,hc⟩:=h1.open
 refine ⟨a,cap,rfl,x,y,fun i hi=>?_⟩
 obtain ⟨b,off,e,p,q,hj⟩:=hc i hi
 obtain ⟨e0,e1,e2⟩:=h2 i hi
 exact ⟨b,off,f i 2,e,p,q,by rw [← e0];exact hj 0 (by omega),by rw [← e1];exact hj 1 (by omega),hj 2 (by omega),e2⟩
section
theorem kframe_any {lo hi lo' hi':Nat} {pv pu:Value} {w:World} {A B:FrameD} (h:Ints .i64 lo hi w pv A.pix) (g:Ints .i64 lo' hi' w pu B.pix) :
  Calls Tryz.prog 22 #[.agg #[.int .i64 A.W,.int .i64 A.H,pv],.agg #[.int .i64 B.W,.int .i64 B.H,pu]] w fun e w'=>e=.returned (.bool (frEq A B))∧Only [] w w':=by
 obtain ⟨a,cap,rfl,-⟩:=h.open
 obtain ⟨b,bcap,rfl,-⟩:=g.open
 have hq1:=Only.new w (.cells #[.int .i64 A.W,.int .i64 A.H,.slice a A.pix.length cap] 70)
 have hq2:=hq1.q (Only.new _ (.cells #[.int .i64 B.W,.int .i64 B.H,.slice b B.pix.length bcap] 70))
 have HI:=lh (intsEq_any (h.quiet hq2) (g.quiet hq2))
 have HQ:=lh hq2
 have HR:Hid (frEq A B=(decide (A.W=B.W) && decide (A.H=B.H) && eqB A.pix B.pix)):=lh rfl
 clear h g hq1 hq2
 generalize frEq A B=r at *
 generalize eqB A.pix B.pix=bb at *
 generalize A.W=W1 at *
 generalize A.H=H1 at *
 generalize B.W=W2 at *
 generalize B.H=H2 at *
 by_cases hW:W1=W2
 ·by_cases hH:H1=H2
  ·subst hW;subst hH
   go_enter Tryz.func22,Tryz.ntmps22
   go_wp2_with fail
   go_at_call 17
   refine HI.out.mono ?_
   rintro e w2 ⟨rfl,hq3⟩
   have HQ3:=lh hq3
   clear hq3
   go_wp2_with fail
   go_ret
   exact ⟨ret_bool (by rw [HR.out];simp),HQ.out.q HQ3.out⟩
  ·have hb:(H1 == H2)=false:=by rw [beq_eq_false_iff_ne];exact hH
   subst hW
   have Hn:=lh hH
   clear hH
   go_enter Tryz.func22,Tryz.ntmps22
   go_wp2_with fail
   go_ret
   exact ⟨ret_bool (by rw [HR.out];simp [Hn.out]),HQ.out⟩
 ·have hb:(W1 == W2)=false:=by rw [beq_eq_false_iff_ne];exact hW
  have Hn:=lh hW
  clear hW
  go_enter Tryz.func22,Tryz.ntmps22
  go_wp2_with fail
  go_ret
  exact ⟨ret_bool (by rw [HR.out];simp [Hn.out]),HQ.out⟩
end
end Go.Proofs.YtmdobcffijnaoaaGreatDoor
