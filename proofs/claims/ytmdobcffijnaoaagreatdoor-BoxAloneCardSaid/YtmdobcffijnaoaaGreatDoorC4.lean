/- Joined texts: Path, Kin, OwnS. Conditions: each part names its own. -/
import Derived.Test.YtmdobcffijnaoaaGreatDoorC2
import Derived.Test.YtmdobcffijnaoaaGreatDoorC3
import Derived.Deep.OwnRows
namespace Go.Proofs.YtmdobcffijnaoaaGreatDoor
open Go.RowKit
set_option linter.unusedVariables false
set_option linter.unusedSimpArgs false
set_option maxRecDepth 100000
set_option maxHeartbeats 16000000
theorem path_any {lo hi:Nat} {v:Value} {o:Option Err} {w:World} (h:OErrV lo hi w v o) (hhi:hi≤w.heap.size) (hE:ErrT w) (hlen:(pathOf o).length≤1000) :
  Calls Tryz.prog 24 #[v] w fun r w'=>∃ pv,r=.returned pv∧w'.ownsRow (w.heap.size+1) 75 2 pv (pathOf o).length (flat (pathOf o))∧Only [] w w':=by
 cases o with
 | none =>
  have hv:v=.nilIface:=h
  subst hv
  go_enter Tryz.func24,Tryz.ntmps24
  go_wp2
  go_loopg [5,3] 0 (fun k y x wr=>y=.nilIface∧x=.slice none 0 0∧Only [] w wr)
  case atStart=>exact ⟨rfl,rfl,Only.new _ _⟩
  case round =>
   obtain ⟨rfl,rfl,hq⟩:=hrel
   go_wp2_with (first | (go_at_call 44;refine (asNil_any _ _).mono ?_;rintro e w1 ⟨rfl,rfl⟩) | fail)
   go_ret
   exact ⟨_,rfl,World.ownsRow_nil _ _ _ _,hq⟩
 | some e =>
  obtain ⟨path,code⟩:=e
  have h':FaultAt lo hi w path code v:=h
  have hlen':path.length≤1000:=hlen
  have hw:w.heap.size<w.heap.size+1:=by omega
  have hg0:(w.alloc (.cells #[.pointer none] 114)).heap[w.heap.size]?=some (.cells #[.pointer none] 114 (0,0)):=heap_alloc_new _ _
  have HE:=lh hE
  have hstart:=h'.only (Only.new w (.cells #[.pointer none] 114)) (by simp)
  have hE':=hE.quiet (Only.new w (.cells #[.pointer none] 114))
  have Hlen:=lh hlen'
  have Hb:=lh hhi
  have hhi':=hhi
  clear h h' hlen hlen' hE
  go_enter Tryz.func24,Tryz.ntmps24
  go_wp2
  go_loopg [5,3] path.length (fun k y x wr=>∃ (dn rest:List (ByteArray×Int)) (ptr:Option Addr),Hid (dn ++ rest=path)∧rest.length=k∧FaultAt lo hi wr rest code y∧wr.heap[w.heap.size]?=some (.cells #[.pointer ptr] 114 (0,0)) ∧
   wr.ownsRow (w.heap.size+1) 75 2 x dn.length (flat dn)∧From (w.heap.size+1) x∧Only [] w wr)
  case atStart=>exact ⟨[],path,none,lh rfl,rfl,hstart,hg0,World.ownsRow_nil _ _ _ _,From.nil _,Only.new _ _⟩
  case round =>
   obtain ⟨dn,rest,ptr,Hd,hk,hf,hg,hown,hfrom,hq⟩:=hrel
   have hEr:=HE.out.quiet hq
   cases rest with
   | nil =>
    have hv:_=Value.iface 29 (.int .i64 code):=hf
    subst hv
    have H:=lh (As_faultNo (g:=w.heap.size) (c:=code) hEr)
    have hdn:dn=path:=by have:=Hd.out;simpa using this
    subst hdn
    clear hf hEr
    go_wp2_with (first | (go_at_call 44;refine H.out.mono ?_;rintro e w1 ⟨rfl,hq1⟩) | fail)
    go_ret
    exact ⟨_,rfl,owns_only hown hq1 (by simp),hq.q hq1⟩
   | cons sn rest' =>
    obtain ⟨s,n⟩:=sn
    obtain ⟨b,v',rfl,hb1,hb2,hb3,hf'⟩:=hf
    have H:=lh (As_fault (lo:=0) (hi:=0) (b:=b) hg hEr)
    clear hEr hg
    go_wp2_with (first | (go_at_call 44;refine H.out.mono ?_;rintro e w3 ⟨rfl,hq3,hg3⟩) | fail)
    have hbb:b<w.heap.size:=by have:=Hb.out;omega
    have hb4:w3.heap[b]?=some (.cells #[.string s,.int .i64 n,v'] 117 (0,0)):=(hq3.block b (by have:=hq.size;omega) (by simp;omega)).trans hb3
    have p0:w3.cell? ⟨w.heap.size,0,none⟩=some (.pointer (some ⟨b,0,none⟩)):=by rw [cell_of_row _ _ _ _ _ _ hg3];rfl
    have q0:w3.cell? ⟨b,0,none⟩=some (.string s):=by rw [cell_of_row _ _ _ _ _ _ hb4];rfl
    have q1:w3.cell? ⟨b,1,none⟩=some (.int .i64 n):=by rw [cell_of_row _ _ _ _ _ _ hb4];rfl
    have q2:w3.cell? ⟨b,2,none⟩=some v':=by rw [cell_of_row _ _ _ _ _ _ hb4];rfl
    have hz3:w.heap.size<w3.heap.size:=(Array.getElem?_eq_some_iff.1 hg3).1
    have hO2:Only [] w3 (w3.alloc (.cells #[.string s,.int .i64 n] 75)).drew:=(Only.new _ _).drew
    have hfr3:∀ g,u3.ownBlock=some g→g≠w.heap.size:=fun g hg=>by have:=hfrom g hg;omega
    have hown3:(w3.alloc (.cells #[.string s,.int .i64 n] 75)).drew.ownsRow (w.heap.size+1) 75 2 u3 dn.length (flat dn):=owns_only (owns_only hown hq3 (by simpa using fun e=>hfr3 _ e rfl)) hO2 (by simp)
    have hsrc:Cells 2 w3.heap.size (w3.heap.size+1) (w3.alloc (.cells #[.string s,.int .i64 n] 75)).drew (.slice (some ⟨w3.heap.size,0,none⟩) 1 1) 1 (flat [(s,n)]):=(cells_newG (size:=2) (n:=1) (xs:=flat [(s,n)]) rfl rfl (by simp [maxLen]) rfl:Cells 2 w3.heap.size (w3.heap.size+1) (w3.alloc (.cells #[.string s,.int .i64 n] 75)) (.slice (some ⟨w3.heap.size,0,none⟩) 1 1) 1 (flat [(s,n)]))
    have hone:∀ u∈flat [(s,n)],u.oneCell'=true:=by simp [flat];exact ⟨rfl,rfl⟩
    have hdl:dn.length≤1000:=by have h1:=Hlen.out;rw [← Hd.out,List.length_append] at h1;omega
    have h63:dn.length+1≤maxLen:=by simp only [maxLen];omega
    have hby:(dn.length+1)*24≤140737488355328:=by omega
    have hbase:w.heap.size+1≤(w3.alloc (.cells #[.string s,.int .i64 n] 75)).drew.heap.size:=by simp;omega
    have P0:=hO2.cell p0 (by simp)
    have Q2:=hO2.cell q2 (by simp)
    have hbw:b<w.heap.size+1:=by omega
    have hwl:w.heap.size<w.heap.size+1:=by omega
    have HG3:=lh hg3
    clear hg3 hb4 hb3
    go_region_held3 (fun w'=>w'.cell? ⟨w.heap.size,0,none⟩=some (.pointer (some ⟨b,0,none⟩))∧w'.cell? ⟨b,0,none⟩=some (.string s)∧w'.cell? ⟨b,1,none⟩=some (.int .i64 n))
     (first
      | (go_split_ands;refine ⟨hacc1.cell hfrom (by assumption) hwl,hacc1.cell hfrom (by assumption) hbw,hacc1.cell hfrom (by assumption) hbw⟩)
      | (simp [*,World.cell?_alloc_some,World.cell?_setCell_far,frozen?_alloc_cells,frozen_drew,World.frozen?_setCell])
      | fail)
     (first | (refine step_append_cells rfl (.tmp 14) (.tmp 24) 72 rfl ES hown3 rfl hsrc rfl hone h63 hby hbase (fun v1 w1 hown1 hacc1=>?_);have P1:=hacc1.cell hfrom P0 hwl;have Q1:=hacc1.cell hfrom Q2 hbw) | fail)
    go_wp2_with fail
    have hqq:Only [] w w3:=hq.trans hq3 (by simp) (by simp)
    have hq1:Only [] w w1:=(hqq.q hO2).acc hacc1 (fun g hg=>by have:=hfrom g hg;omega)
    go_roundg (rest'.length)
    case measure=>have:=hk;simp at this;omega
    case rel =>
     refine ⟨dn ++ [(s,n)],rest',some ⟨b,0,none⟩,lh (by have:=Hd.out;simpa using this),rfl,FaultAt.only hf' ((hq3.trans hO2 (U:=[w.heap.size]) (by simp) (by simp)).trans hacc1.only (U:=w.heap.size :: u3.ownBlock.toList) (by simp) (fun g hg _=>List.mem_cons_of_mem _ hg)) ?_,?_,?_,hacc1.from_ hfrom hbase,hq1⟩
     ·intro g hg
      rcases List.mem_cons.1 hg with rfl | hg
      ·exact .inr hhi'
      ·exact .inr (by have:=hfrom g (by simpa using hg);omega)
     ·exact (hacc1.only.block _ (by simp;omega) (fun hg=>by have:=hfrom w.heap.size (by simpa using hg);omega)).trans ((hO2.block _ hz3 (by simp)).trans HG3.out)
     ·have:dn.length+1=(dn ++ [(s,n)]).length:=by simp
      rw [flat_append,← this]
      exact hown1
/-- the document's error: a code, its places -/
def KErrAt (lo hi:Nat) (w:World) (v:Value) (c:Int) (p:List (ByteArray×Int)):Prop:=∃ sv,v=.agg #[.int .i64 c,sv]∧Cells 2 lo hi w sv p.length (flat p)
theorem fail_any (c:Int) (w:World):Calls Tryz.prog 39 #[.int .i64 c] w fun e w'=>e=.returned (.agg #[.int .i64 c,.slice none 0 0])∧Only [] w w':=by
 go_enter Tryz.func39,Tryz.ntmps39
 go_wp2
 refine bodyPost_ret (v:=.agg #[.int .i64 c,.slice none 0 0]) (by simp [results,Tryz.results39,go_sem]) rfl ⟨rfl,Only.new _ _⟩
theorem Only.rowAt {S:List Nat} {w w':World} (h:Only S w w') {g:Nat} {o:Obj} (hr:w.heap[g]?=some o) (hn:g∉S):w'.heap[g]?=some o:=(h.block g (Array.getElem?_eq_some_iff.1 hr).1 hn).trans hr
theorem flat_one:∀ p:List (ByteArray×Int),∀ u∈flat p,u.oneCell'=true
 | [],u,h=>by simp [flat] at h
 | x :: p,u,h=>by
  have e:flat (x :: p)=.string x.1 :: .int .i64 x.2 :: flat p:=rfl
  rw [e] at h
  rcases List.mem_cons.1 h with rfl | h
  ·rfl
  rcases List.mem_cons.1 h with rfl | h
  ·rfl
  exact flat_one p u h
theorem own1 (w:World) (s:ByteArray) (n:Int):∀ B,((w.alloc (.cells #[.string s,.int .i64 n] 76)).alloc B).ownsRow w.heap.size 76 2 (.slice (some ⟨w.heap.size,0,none⟩) 1 1) 1 (flat [(s,n)]):=fun B =>
 owns_only (World.ownsRow_lit w _ 1 (Nat.le_refl _) (by simp [maxLen]) rfl) (Only.new _ _) (by simp)
theorem base1 (w:World):∀ A B,w.heap.size≤((w.alloc A).alloc B).heap.size:=fun A B=>by simp;omega
theorem kin_any {lo hi:Nat} (s:ByteArray) (n c:Int) {sv:Value} {p:List (ByteArray×Int)} {w:World} (h:Cells 2 lo hi w sv p.length (flat p)) (hc:c≠0) (hp:p.length≤1000) :
  Calls Tryz.prog 38 #[.string s,.int .i64 n,.agg #[.int .i64 c,sv]] w fun e w'=>∃ v',e=.returned v'∧KErrAt w.heap.size w'.heap.size w' v' c ((s,n) :: p)∧Only [] w w':=by
 have H:=lh h
 obtain ⟨hl,a,cap,rfl,hcap,hmax,hcl⟩:=h
 clear hcl
 have hcb:(c == 0)=false:=by rw [beq_eq_false_iff_ne];exact hc
 have h0:((w.alloc (.cells #[.int .i64 c,.slice a p.length cap] 32)).alloc (.cells #[.int .i64 0,.slice none 0 0] 32)).heap[w.heap.size]?=some (.cells #[.int .i64 c,.slice a p.length cap] 32 (0,0)):=(Below.heap_alloc _ _ _ (by simp)).trans (heap_alloc_new _ _)
 have h1:((w.alloc (.cells #[.int .i64 c,.slice a p.length cap] 32)).alloc (.cells #[.int .i64 0,.slice none 0 0] 32)).heap[w.heap.size+1]?=some (.cells #[.int .i64 0,.slice none 0 0] 32 (0,0)):=heap_alloc_new' (by simp)
 have hO:Only [] w ((w.alloc (.cells #[.int .i64 c,.slice a p.length cap] 32)).alloc (.cells #[.int .i64 0,.slice none 0 0] 32)):=(Only.new _ _).q (Only.new _ _)
 have H0:=lh h0
 have hone:∀ u∈flat p,u.oneCell'=true:=flat_one p
 have h63:1+p.length≤maxLen:=by simp only [maxLen];omega
 have hby:(1+p.length)*24≤140737488355328:=by omega
 have H1:=lh h1
 have HO:=lh hO
 clear h0 h1 hO
 go_enter Tryz.func38,Tryz.ntmps38
 go_wp2_with (first
  | (go_at_call 20;refine (ok_any _ _ _).mono ?_;rintro e w1 ⟨rfl,hq1⟩;rw [hcb];have r0:=hq1.rowAt H0.out (by simp);have r1:=hq1.rowAt H1.out (by simp);have x0:w1.cell? ⟨w.heap.size,0,none⟩=some (.int .i64 c):=(by rw [cell_of_row _ _ _ _ _ _ r0];rfl);have x1:w1.cell? ⟨w.heap.size,1,none⟩=some (.slice a p.length cap):=(by rw [cell_of_row _ _ _ _ _ _ r0];rfl);have R1:=lh r1;have hsz:w.heap.size+2≤w1.heap.size:=(by have:=hq1.size;simp at this;omega);have hn1:w.heap.size<w1.heap.size:=(by omega);have ho1:=own1 w1 s n;have hbs:=base1 w1;clear r0 r1)
  | (at_builtin;refine wpList_append_cells rfl (.tmp 19) (.tmp 21) 30 rfl EK (base:=w1.heap.size) (n:=1) (xs:=flat [(s,n)]) (ho1 _) rfl (H.out.only ((HO.out.q hq1).q ((Only.new _ _).q (Only.new _ _))) (by simp)) rfl hone h63 hby (hbs _ _) (fun v1 w2 hown2 ho2 hat2=>?_);obtain ⟨_,a2,cap2,rfl,_⟩:=Cells.of_own hown2;have r7:=ho2.rowAt (g:=w1.heap.size+1) (heap_alloc_new' (by simp)) (by simp [Value.ownBlock]);have r1:=ho2.rowAt ((Below.heap_alloc _ _ _ (by simp;omega)).trans ((Below.heap_alloc _ _ _ (by omega)).trans R1.out)) (by simp [Value.ownBlock];omega);have y0:w2.cell? ⟨w1.heap.size+1,0,none⟩=some (.int .i64 c):=(by rw [cell_of_row _ _ _ _ _ _ r7];rfl);have y1:w2.cell? ⟨w1.heap.size+1,1,none⟩=some (.slice (some ⟨w1.heap.size,0,none⟩) 1 1):=(by rw [cell_of_row _ _ _ _ _ _ r7];rfl);have y2:=frozen_of_row w2 (w1.heap.size+1) 1 _ _ r7;have z0:w2.cell? ⟨w.heap.size+1,0,none⟩=some (.int .i64 0):=(by rw [cell_of_row _ _ _ _ _ _ r1];rfl);have z1:w2.cell? ⟨w.heap.size+1,1,none⟩=some (.slice none 0 0):=(by rw [cell_of_row _ _ _ _ _ _ r1];rfl);have z2:=frozen_of_row w2 (w.heap.size+1) 0 _ _ r1;have z3:=frozen_of_row w2 (w.heap.size+1) 1 _ _ r1;clear r7 r1)
  | fail)
 refine bodyPost_ret (v:=.agg #[.int .i64 c,.slice a2 (1+p.length) cap2]) (by simp [results,Tryz.results38,go_sem,z0,z1,World.cell?_setCell_other]) rfl ?_
 have hA:Only [] w w2:=((HO.out.q hq1).q ((Only.new _ _).q (Only.new _ _))).trans ho2 (by simp) (by simp [Value.ownBlock];omega)
 have hS:∀ u0 u1 u2,Only [w1.heap.size+1,w.heap.size+1] w2 (((w2.setCell ⟨w1.heap.size+1,1,none⟩ u0).setCell ⟨w.heap.size+1,0,none⟩ u1).setCell ⟨w.heap.size+1,1,none⟩ u2):=fun _ _ _=>((((Only.refl _ _).setCell (by simp) _).setCell (by simp) _).setCell (by simp) _)
 have hap:∀ g∈[w1.heap.size+1,w.heap.size+1],(Value.slice a2 (1+p.length) cap2).ownBlock≠some g:=by
  intro g hg e
  rcases hat2 with h | h
  ·rw [h] at e;simp [Value.ownBlock] at e hg;omega
  ·rw [h] at e;simp at e hg;omega
 refine ⟨_,rfl,⟨_,rfl,?_⟩,hA.trans (hS _ _ _) (by simp) (by simp;omega)⟩
 rw [show ((s,n) :: p).length=1+p.length by simp [Nat.add_comm]]
 exact (Cells.of_own (owns_only hown2 (hS _ _ _) hap)).mono (by omega:w.heap.size≤w1.heap.size) (Nat.le_refl _)
theorem wrap_any (s:ByteArray) (n c:Int) (w:World) (hc:c≠0) :
  Calls Tryz.prog 16 #[.string s,.int .i64 n,.int .i64 c] w fun e w'=>∃ v',e=.returned v'∧KErrAt w.heap.size w'.heap.size w' v' c [(s,n)]∧Only [] w w':=by
 have H:=lh (fun (w:World)=>kin_any s n c (p:=[]) (w:=w) (lo:=0) (hi:=0) (Cells.nil 2 0 0 w) hc (by simp))
 go_enter Tryz.func16,Tryz.ntmps16
 go_wp2_with (first
  | (go_at_call 39;refine (fail_any _ _).mono ?_;rintro e w1 ⟨rfl,hq1⟩)
  | (go_at_call 38;refine (H.out w1).mono ?_;rintro e w2 ⟨v2,rfl,hk,hq2⟩;obtain ⟨sv,rfl,hcs⟩:=hk;obtain ⟨_,a2,cap2,rfl,_⟩:=id hcs;have r0:=hq2.rowAt (hq1.rowAt (heap_alloc_new _ _) (by simp)) (by simp);have x0:w2.cell? ⟨w.heap.size,0,none⟩=some (.int .i64 0):=(by rw [cell_of_row _ _ _ _ _ _ r0];rfl);have x1:w2.cell? ⟨w.heap.size,1,none⟩=some (.slice none 0 0):=(by rw [cell_of_row _ _ _ _ _ _ r0];rfl);have z2:=frozen_of_row w2 w.heap.size 0 _ _ r0;have z3:=frozen_of_row w2 w.heap.size 1 _ _ r0;clear r0)
  | fail)
 refine bodyPost_ret (v:=.agg #[.int .i64 c,.slice a2 1 cap2]) (by simp [results,Tryz.results16,go_sem,x0,x1,World.cell?_setCell_other]) rfl ?_
 have hA:Only [] w w2:=(Only.new _ _).q (hq1.q hq2)
 have hS:∀ u0 u1,Only [w.heap.size] w2 ((w2.setCell ⟨w.heap.size,0,none⟩ u0).setCell ⟨w.heap.size,1,none⟩ u1):=fun _ _=>(((Only.refl _ _).setCell (by simp) _).setCell (by simp) _)
 have hz:=hq1.size
 simp only [World.size_alloc] at hz
 exact ⟨_,rfl,⟨_,rfl,(hcs.only (hS _ _) (by simp;omega)).mono (by omega) (hS _ _).size⟩,hA.trans (hS _ _) (by simp) (by simp)⟩
theorem Cells.steps {lo hi:Nat} {w:World} {v:Value} {p:List (ByteArray×Int)} (h:Cells 2 lo hi w v p.length (flat p)):∃ (a:Option Addr) (cap:Nat),v=.slice a p.length cap ∧
  ∀ i,i<p.length→∃ b off,a=some ⟨b,off,none⟩∧w.cell? ⟨b,off+i*2,none⟩=some (.string (p.getD i default).1)∧w.cell? ⟨b,off+i*2+1,none⟩=some (.int .i64 (p.getD i default).2):=by
 obtain ⟨_,a,cap,rfl,_,_,h5⟩:=h
 refine ⟨a,cap,rfl,fun i hi=>?_⟩
 obtain ⟨b,off,e,_,_,hc⟩:=h5 (by omega)
 obtain ⟨h1,h2⟩:=flat_at p i hi
 exact ⟨b,off,e,hc _ _ h1,by rw [Nat.add_assoc];exact hc _ _ h2⟩
/-- where the error is the document's, kinsame.Err says so -/
theorem same_any {lo hi lo' hi':Nat} {v sv:Value} {o:Option Err} {c:Int} {p:List (ByteArray×Int)} {w:World} (h:OErrV lo hi w v o) (hhi:hi≤w.heap.size) (hE:ErrT w) (hlen:p.length≤1000) (g:Cells 2 lo' hi' w sv p.length (flat p))
  (hcase:o.isNone=(c == 0)) (hcode:codeOf o=c) (hp:pathOf o=p) :
  Calls Tryz.prog 9 #[v,.agg #[.int .i64 c,sv]] w fun e w'=>e=.returned (.bool true)∧Only [] w w':=by
 obtain ⟨a,cap,hsv,hsteps⟩:=g.steps
 subst hsv
 have r0:=heap_alloc_new w (.cells #[.int .i64 c,.slice a p.length cap] 32)
 have hO:=Only.new w (.cells #[.int .i64 c,.slice a p.length cap] 32)
 have x0:(w.alloc (.cells #[.int .i64 c,.slice a p.length cap] 32)).cell? ⟨w.heap.size,0,none⟩=some (.int .i64 c):=by rw [cell_of_row _ _ _ _ _ _ r0];rfl
 have x1:(w.alloc (.cells #[.int .i64 c,.slice a p.length cap] 32)).cell? ⟨w.heap.size,1,none⟩=some (.slice a p.length cap):=by rw [cell_of_row _ _ _ _ _ _ r0];rfl
 have HO:=lh hO
 have HS:=lh hsteps
 have hOf:=fun w' (k:Only [] (w.alloc (.cells #[.int .i64 c,.slice a p.length cap] 32)) w')=>of_any (h.quiet (hO.q k)) (hE.quiet (hO.q k))
 have hPath:=fun w' (k:Only [] (w.alloc (.cells #[.int .i64 c,.slice a p.length cap] 32)) w')=>path_any (h.quiet (hO.q k)) (by have:=(hO.q k).size;omega) (hE.quiet (hO.q k)) (by rw [hp];exact hlen)
 rw [hcode] at hOf
 rw [hp] at hPath
 have HOf:=lh hOf
 have HPath:=lh hPath
 have hni:(v=.nilIface∧o=none)∨∃ t u,v=.iface t u∧∃ er,o=some er:=by
  cases o with
  | none=>exact .inl ⟨h,rfl⟩
  | some er=>obtain ⟨t,u,e⟩:=ErrV.held h;exact .inr ⟨t,u,e,er,rfl⟩
 have Hcode:=lh hcode
 have Hcase:=lh hcase
 have Hp:=lh hp
 have hpl:=g.len_le
 unfold maxLen at hpl
 have hpl2:(p.length:Int)≤9223372036854775807:=by omega
 clear h g hsteps hO r0 hE hOf hPath hcase hcode hpl hp
 rcases hni with ⟨rfl,rfl⟩ | ⟨t,u,rfl,er,rfl⟩
 all_goals
  have hcb:=Hcase.out.symm
  simp only [Option.isNone] at hcb
  go_enter Tryz.func9,Tryz.ntmps9
  go_wp2_with fail
  first | go_region_held3 (fun w'=>w'.cell? ⟨w.heap.size,0,none⟩=some (.int .i64 c)∧w'.cell? ⟨w.heap.size,1,none⟩=some (.slice a p.length cap))
   (first
    | (go_split_ands;refine ⟨hq2.cell (by assumption) (by simp),hq2.cell (by assumption) (by simp)⟩)
    | (go_split_ands;refine ⟨hq1.cell (by assumption) (by simp),hq1.cell (by assumption) (by simp)⟩)
    | (simp [*,World.cell?_alloc_some,World.cell?_setCell_far,frozen?_alloc_cells,frozen_drew,World.frozen?_setCell])
    | fail)
   (first
    | (go_at_call 20;refine (ok_any _ _ _).mono ?_;rintro e w1 ⟨rfl,hq1⟩;rw [hcb])
    | (go_at_call 23;refine (HOf.out w1 ((Only.refl _ _).drew.q hq1)).mono ?_;rintro e w2 ⟨rfl,hq2⟩)
    | fail) | fail
  go_wp2_with (first | (go_at_call 24;refine (HPath.out w2 (((Only.refl _ _).drew.q hq1).q hq2)).mono ?_;rintro e w3 ⟨pv,rfl,hown,hq3⟩;obtain ⟨pa,pcap,rfl,hst⟩:=(Cells.of_own hown).steps;have z1:=hq3.cell (hq2.cell (hq1.cell x1 (by simp)) (by simp)) (by simp);have Hst:=lh hst;clear hst) | fail)
  have hqA:Only [] w w3:=(HO.out.drew.q hq1).q (hq2.q hq3)
  clear x0 x1
  go_loopw [6] (fun i wr=>∃ k:Nat,k≤p.length∧i=.int .i64 k∧Only [] w3 wr) (fun i _=>p.length-(intOf i).toNat)
  case atStart=>exact ⟨0,by omega,rfl,Only.refl _ _⟩
  case round =>
   obtain ⟨k,hk,rfl,hq⟩:=hrel
   have z2:=hq.cell z1 (by simp)
   by_cases hlt:k<p.length
   ·obtain ⟨b,off,rfl,hc1,hc2⟩:=HS.out k hlt
    obtain ⟨b',off',rfl,hd1,hd2⟩:=Hst.out k hlt
    have c1:=(hqA.q hq).cell hc1 (by simp)
    have c2:=(hqA.q hq).cell hc2 (by simp)
    have d1:=hq.cell hd1 (by simp)
    have d2:=hq.cell hd2 (by simp)
    have hx:(0:Int)≤(k:Int):=by omega
    have hx1:(k:Int)<(p.length:Int):=by omega
    clear hc1 hc2 hd1 hd2
    generalize p.getD k default=x at *
    obtain ⟨xs,xn⟩:=x
    simp only at c1 c2 d1 d2
    go_wp2
    go_quiet (fail)
    go_wp2
    go_roundw
    case rel=>exact ⟨k+1,by omega,by go_num,hq.drewN _⟩
    case measure=>simp [intOf];omega
   ·obtain rfl:k=p.length:=by omega
    have hx:¬ (p.length:Int)<(p.length:Int):=by omega
    go_wp2
    go_ret
    exact ⟨rfl,hqA.q hq⟩
section
variable {k:IntKind} {e:TypeId} {g cap base:Nat} {w w':World} {l:List Int}
theorem Own.cellS {n:Nat} (h:Own k e base w (.slice (some ⟨g,0,none⟩) n cap) l) (hn:n=l.length) {i:Nat} (hi:i<l.length):w.cell? ⟨g,i,none⟩=some (.int k (l.getD i 0)):=by
 subst hn
 have:=h.1.cellAt i (by omega)
 rw [this,List.getElem?_map]
 simp [hi]
theorem Own.frzS {n:Nat} (h:Own k e base w (.slice (some ⟨g,0,none⟩) n cap) l) (hn:n=l.length) (j:Nat):w.frozen? ⟨g,j,none⟩=false:=by
 subst hn
 exact h.1.frozenAt j
theorem Own.storeS {n:Nat} (h:Own k e base w (.slice (some ⟨g,0,none⟩) n cap) l) (hn:n=l.length) {x:Int} (hx:InK k x) (i:Nat) :
  Own k e base (w.setCell ⟨g,i,none⟩ (.int k x)) (.slice (some ⟨g,0,none⟩) n cap) (l.set i x)∧Only [g] w (w.setCell ⟨g,i,none⟩ (.int k x)):=by
 subst hn
 obtain ⟨hst,hgr⟩:=h.1.stored i (.int k x)
 refine ⟨⟨?_,fun y hy=>?_⟩,Only.of_grown hgr⟩
 ·rw [List.length_set,List.map_set];exact hst
 ·rcases List.mem_or_eq_of_mem_set hy with hy | rfl
  ·exact h.2 y hy
  ·exact hx
end
theorem InK.zero (k:IntKind):InK k 0:=by cases k <;> simp [InK]
/-- what make has just laid: zeros -/
theorem own_made (k:IntKind) (t:TypeId) (w:World) (n:Nat) (hn:n≤maxLen) :
  Own k t w.heap.size (w.alloc (.cells (madeCells #[.int k 0] n) t)) (.slice (some ⟨w.heap.size,0,none⟩) n n) (List.replicate n 0):=by
 have h0:=World.ownsRow_lit w (base:=w.heap.size) (e:=t) (size:=1) (madeCells #[.int k 0] n) n (Nat.le_refl _) hn (by rw [size_madeCells,Nat.mul_one])
 rw [toList_madeCells_one] at h0
 exact ⟨by simpa using h0,fun x hx=>by rw [(List.mem_replicate.1 hx).2];exact InK.zero k⟩
theorem Only.row {w w':World} {g:Nat} {o:Obj} (h:Only [] w w') (hr:w.heap[g]?=some o):w'.heap[g]?=some o :=
 (h.block g (Array.getElem?_eq_some_iff.1 hr).1 (by simp)).trans hr
theorem row2 {w:World} {g:Nat} {v0 v1:Value} {t:TypeId} (h:w.heap[g]?=some (.cells #[v0,v1] t (0,0))) :
  w.cell? ⟨g,0,none⟩=some v0∧w.cell? ⟨g,1,none⟩=some v1∧w.frozen? ⟨g,0,none⟩=false∧w.frozen? ⟨g,1,none⟩=false∧g<w.heap.size :=
 ⟨by rw [cell_of_row _ _ _ _ _ _ h];rfl,by rw [cell_of_row _ _ _ _ _ _ h];rfl,frozen_of_row _ _ _ _ _ h,frozen_of_row _ _ _ _ _ h,(Array.getElem?_eq_some_iff.1 h).1⟩
end Go.Proofs.YtmdobcffijnaoaaGreatDoor
