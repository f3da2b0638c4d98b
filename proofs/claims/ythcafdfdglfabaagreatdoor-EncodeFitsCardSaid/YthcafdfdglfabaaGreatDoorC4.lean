/- Joined texts: Path, Kin, OwnS. Conditions: each part names its own. -/
import Derived.Test.YthcafdfdglfabaaGreatDoorC2
import Derived.Test.YthcafdfdglfabaaGreatDoorC3
namespace Go.Proofs.YthcafdfdglfabaaGreatDoor
open Go.RowKit
set_option linter.unusedVariables false
set_option linter.unusedSimpArgs false
set_option maxRecDepth 100000
set_option maxHeartbeats 16000000
theorem Gk {lo hi:Nat} {v:Value} {o:Option Err} {w:World} (h:nD lo hi w v o) (Ww:hi<=w.heap.size) (hE:kJ w) (MR:(vr o).length<=1000) :
  Calls Tryz.prog 48 #[v] w fun r w'=>∃ pv,r=.returned pv/\w'.ownsRow (w.heap.size+1) 110 2 pv (vr o).length (flat (vr o))/\ae [] w w':=by
 cases o with
 | none =>
  have hv:v=.nilIface:=h;subst hv;go_enter Tryz.func48,Tryz.ntmps48;go_wp2
  go_loopg [5,3] 0 (fun k y x wr=>y=.nilIface/\x=.slice none 0 0/\ae [] w wr)
  case atStart=>exact ⟨rfl,rfl,ae.new _ _⟩
  case round =>
   obtain ⟨rfl,rfl,hq⟩:=hrel
   go_wp2_with (first | (go_at_call 112;refine (CN _ _).mono ?_;rintro e w1 ⟨rfl,rfl⟩) | fail)
   go_ret;exact ⟨_,rfl,World.ownsRow_nil _ _ _ _,hq⟩
 | some e =>
  obtain ⟨path,code⟩:=e;have h':dB lo hi w path code v:=h;have YK:path.length<=1000:=MR;have hw:w.heap.size<w.heap.size+1:=Mf;have hg0:(w.alloc (.cells #[.pointer none] 188)).heap[w.heap.size]?=some (.cells #[.pointer none] 188 (0,0)):=heap_alloc_new _ _;have HE:=lh hE;have JkE:=h'.only (ae.new w (.cells #[.pointer none] 188)) Mg;have hE':=hE.quiet (ae.new w (.cells #[.pointer none] 188));have Ni:=lh YK;have Hb:=lh Ww;have Jas:=Ww;clear h h' MR YK hE;go_enter Tryz.func48,Tryz.ntmps48;go_wp2
  go_loopg [5,3] path.length (fun k y x wr=>∃ (dn rest:List (ByteArray×Int)) (ptr:Option Addr),Hid (dn ++ rest=path)/\rest.length=k/\dB lo hi wr rest code y/\wr.heap[w.heap.size]?=some (.cells #[.pointer ptr] 188 (0,0)) /\
   wr.ownsRow (w.heap.size+1) 110 2 x dn.length (flat dn)/\bB (w.heap.size+1) x/\ae [] w wr)
  case atStart=>exact ⟨[],path,none,lh rfl,rfl,JkE,hg0,World.ownsRow_nil _ _ _ _,bB.nil _,ae.new _ _⟩
  case round =>
   obtain ⟨dn,rest,ptr,Hd,hk,hf,hg,MQ,Nx,hq⟩:=hrel;have hEr:=HE.quiet hq;cases rest with
   | nil =>
    have hv:_=Value.iface 36 (.int .i64 code):=hf;subst hv;have H:=lh (yV (g:=w.heap.size) (c:=code) hEr);have hdn:dn=path:=by have:=Hd.out;simpa using this
    subst hdn;clear hf hEr
    go_wp2_with (first | (go_at_call 112;refine H.mono ?_;rintro e w1 ⟨rfl,MP⟩) | fail)
    go_ret;exact ⟨_,rfl,iB MQ MP Mg,hq.q MP⟩
   | cons sn rest' =>
    obtain ⟨s,n⟩:=sn;obtain ⟨b,v',rfl,TY,Zm,hb3,hf'⟩:=hf;have H:=lh (Eo (lo:=0) (hi:=0) (b:=b) hg hEr);clear hEr hg
    go_wp2_with (first | (go_at_call 112;refine H.mono ?_;rintro e w3 ⟨rfl,Nb,Zo⟩) | fail)
    have hbb:b<w.heap.size:=by have:=Hb.out;omega
    have hb4:w3.heap[b]?=some (.cells #[.string s,n,v'] 191 (0,0)):=(Nb.block b (by have:=hq.size;omega) Mq).trans hb3;have p0:w3.cell? ⟨w.heap.size,0,none⟩=some (.pointer (some ⟨b,0,none⟩)):=by rw [cell_of_row _ _ _ _ _ _ Zo];rfl
    have q0:w3.cell? ⟨b,0,none⟩=some (.string s):=by rw [cell_of_row _ _ _ _ _ _ hb4];rfl
    have q1:w3.cell? ⟨b,1,none⟩=some (.int .i64 n):=by rw [cell_of_row _ _ _ _ _ _ hb4];rfl
    have q2:w3.cell? ⟨b,2,none⟩=some v':=by rw [cell_of_row _ _ _ _ _ _ hb4];rfl
    have hz3:w.heap.size<w3.heap.size:=(Array.getElem?_eq_some_iff.1 Zo).1;have hO2:ae [] w3 (w3.alloc (.cells #[.string s,n] 110)).drew:=(ae.new _ _).drew;have Jue:∀ g,u3.ownBlock=some g->g≠w.heap.size:=fun g hg=>by have:=Nx g hg;omega
    have Re:(w3.alloc (.cells #[.string s,n] 110)).drew.ownsRow (w.heap.size+1) 110 2 u3 dn.length (flat dn):=iB (iB MQ Nb (by simpa using fun e=>Jue _ e rfl)) hO2 Mg;have Oa:cT 2 w3.heap.size (w3.heap.size+1) (w3.alloc (.cells #[.string s,n] 110)).drew (.slice (some ⟨w3.heap.size,0,none⟩) 1 1) 1 (flat [(s,n)]):=(zi (size:=2) (n:=1) (xs:=flat [(s,n)]) rfl rfl Mo rfl:cT 2 w3.heap.size (w3.heap.size+1) (w3.alloc (.cells #[.string s,n] 110)) (.slice (some ⟨w3.heap.size,0,none⟩) 1 1) 1 (flat [(s,n)]))
    have Xf:∀ u∈flat [(s,n)],u.oneCell'=true:=by simp [flat];exact ⟨rfl,rfl⟩
    have SN:dn.length<=1000:=by have h1:=Ni.out;rw [<- Hd.out,Ln] at h1;omega
    have h63:dn.length+1<=maxLen:=by simp only [maxLen];omega
    have Qj:(dn.length+1)*24<=140737488355328:=Mf;have Pe:w.heap.size+1<=(w3.alloc (.cells #[.string s,n] 110)).drew.heap.size:=Mq;have P0:=hO2.cell p0 Mg;have Q2:=hO2.cell q2 Mg;have hbw:b<w.heap.size+1:=Mf;have hwl:w.heap.size<w.heap.size+1:=Mf;have HG3:=lh Zo;clear Zo hb4 hb3
    go_region_held3 (fun w'=>w'.cell? ⟨w.heap.size,0,none⟩=some (.pointer (some ⟨b,0,none⟩))/\w'.cell? ⟨b,0,none⟩=some (.string s)/\w'.cell? ⟨b,1,none⟩=some (.int .i64 n))
     (first
      | (go_split_ands;refine ⟨NH.cell Nx MG hwl,NH.cell Nx MG hbw,NH.cell Nx MG hbw⟩)
      | (simp [*,World.cell?_alloc_some,World.cell?_setCell_far,frozen?_alloc_cells,pF,World.frozen?_setCell])
      | fail)
     (first | (refine jf rfl (.tmp 14) (.tmp 24) 107 rfl ES Re rfl Oa rfl Xf h63 Qj Pe (fun v1 w1 MN NH=>?_);have P1:=NH.cell Nx P0 hwl;have Q1:=NH.cell Nx Q2 hbw) | fail)
    go_wp2_with fail;have hqq:ae [] w w3:=hq.trans Nb Mg Mg;have MP:ae [] w w1:=(hqq.q hO2).acc NH (fun g hg=>by have:=Nx g hg;omega)
    go_roundg (rest'.length)
    case measure=>have:=hk;simp at this;omega
    case rel =>
     refine ⟨dn ++ [(s,n)],rest',some ⟨b,0,none⟩,lh (by have:=Hd.out;simpa using this),rfl,dB.only hf' ((Nb.trans hO2 (U:=[w.heap.size]) Mg Mg).trans NH.only (U:=w.heap.size :: u3.ownBlock.toList) Mg (fun g hg _=>Lx _ hg)) ?_,?_,?_,NH.from_ Nx Pe,MP⟩
     ·intro g hg
      rcases List.mem_cons.1 hg with rfl | hg
      ·exact .inr Jas
      ·exact .inr (by have:=Nx g Mt;omega)
     ·exact (NH.only.block _ Mq (fun hg=>by have:=Nx w.heap.size Mt;omega)).trans ((hO2.block _ hz3 Mg).trans HG3)
     ·have:dn.length+1=(dn ++ [(s,n)]).length:=Mg
      rw [wN,<- this];exact MN
def Er (lo hi:Nat) (w:World) (v:Value) (c:Int) (p:List (ByteArray×Int)):Prop:=∃ sv,v=.agg #[c,sv]/\cT 2 lo hi w sv p.length (flat p)
theorem gT (c:Int) (w:World):Calls Tryz.prog 26 #[c] w fun e w'=>e=.returned (.agg #[c,JEu])/\ae [] w w':=by
 go_enter Tryz.func26,Tryz.ntmps26;go_wp2;refine bodyPost_ret (v:=.agg #[c,JEu]) (by simp [results,Tryz.results26,go_sem]) rfl ⟨rfl,ae.new _ _⟩
theorem ae.rowAt {S:List Nat} {w w':World} (h:ae S w w') {g:Nat} {o:Obj} (hr:w.heap[g]?=some o) (hn:g∉S):w'.heap[g]?=some o:=(h.block g (Array.getElem?_eq_some_iff.1 hr).1 hn).trans hr
theorem wO:∀ p:List (ByteArray×Int),∀ u∈flat p,u.oneCell'=true
 | [],u,h=>by simp [flat] at h
 | x :: p,u,h=>by
  have e:flat (x :: p)=.string x.1 :: .int .i64 x.2 :: flat p:=rfl;rw [e] at h;rcases List.mem_cons.1 h with rfl | h
  ·rfl
  rcases List.mem_cons.1 h with rfl | h
  ·rfl
  exact wO p u h
theorem KZ (w:World) (s:ByteArray) (n:Int):∀ B,((w.alloc (.cells #[.string s,n] 111)).alloc B).ownsRow w.heap.size 111 2 (.slice (some ⟨w.heap.size,0,none⟩) 1 1) 1 (flat [(s,n)]):=fun B =>
 iB (World.ownsRow_lit w _ 1 (Lm _) Mo rfl) (ae.new _ _) Mg
theorem KB (w:World):∀ A B,w.heap.size<=((w.alloc A).alloc B).heap.size:=fun A B=>by simp;omega
theorem Jd {lo hi:Nat} (s:ByteArray) (n c:Int) {sv:Value} {p:List (ByteArray×Int)} {w:World} (h:cT 2 lo hi w sv p.length (flat p)) (hc:c≠0) (hp:p.length<=1000) :
  Calls Tryz.prog 106 #[.string s,n,.agg #[c,sv]] w fun e w'=>∃ v',e=.returned v'/\Er w.heap.size w'.heap.size w' v' c ((s,n) :: p)/\ae [] w w':=by
 have H:=lh h;obtain ⟨hl,a,cap,rfl,Qq,PI,hcl⟩:=h;clear hcl;have Zn:(c == 0)=false:=by rw [beq_eq_false_iff_ne];exact hc
 have h0:((w.alloc (.cells #[c,.slice a p.length cap] 39)).alloc (.cells #[(),JEu] 39)).heap[w.heap.size]?=some (.cells #[c,.slice a p.length cap] 39 (0,0)):=(Below.heap_alloc _ _ _ Mg).trans (heap_alloc_new _ _);have h1:((w.alloc (.cells #[c,.slice a p.length cap] 39)).alloc (.cells #[(),JEu] 39)).heap[w.heap.size+1]?=some (.cells #[(),JEu] 39 (0,0)):=ak Mg;have hO:ae [] w ((w.alloc (.cells #[c,.slice a p.length cap] 39)).alloc (.cells #[(),JEu] 39)):=(ae.new _ _).q (ae.new _ _);have H0:=lh h0;have Xf:∀ u∈flat p,u.oneCell'=true:=wO p;have h63:1+p.length<=maxLen:=by simp only [maxLen];omega
 have Qj:(1+p.length)*24<=140737488355328:=Mf;have H1:=lh h1;have HO:=lh hO;clear h0 h1 hO;go_enter Tryz.func106,Tryz.ntmps106
 go_wp2_with (first
  | (go_at_call 37;refine (Gd _ _ _).mono ?_;rintro e w1 ⟨rfl,MP⟩;rw [Zn];have r0:=MP.rowAt H0 Mg;have r1:=MP.rowAt H1 Mg;have x0:w1.cell? ⟨w.heap.size,0,none⟩=some (.int .i64 c):=(by rw [cell_of_row _ _ _ _ _ _ r0];rfl);have x1:w1.cell? ⟨w.heap.size,1,none⟩=some (.slice a p.length cap):=(by rw [cell_of_row _ _ _ _ _ _ r0];rfl);have R1:=lh r1;have YT:w.heap.size+2<=w1.heap.size:=(by have:=MP.size;simp at this;omega);have hn1:w.heap.size<w1.heap.size:=Mf;have Nu:=KZ w1 s n;have RJ:=KB w1;clear r0 r1)
  | (at_builtin;refine im rfl (.tmp 19) (.tmp 21) 37 rfl EK (base:=w1.heap.size) (n:=1) (xs:=flat [(s,n)]) (Nu _) rfl (H.only ((HO.q MP).q ((ae.new _ _).q (ae.new _ _))) Mg) rfl Xf h63 Qj (RJ _ _) (fun v1 w2 Om OU WZ=>?_);obtain ⟨_,a2,Rj,rfl,_⟩:=cT.of_own Om;have r7:=OU.rowAt (g:=w1.heap.size+1) (ak Mg) (by simp [Value.ownBlock]);have r1:=OU.rowAt ((Below.heap_alloc _ _ _ Mq).trans ((Below.heap_alloc _ _ _ Mf).trans R1)) (by simp [Value.ownBlock];omega);have y0:w2.cell? ⟨w1.heap.size+1,0,none⟩=some (.int .i64 c):=(by rw [cell_of_row _ _ _ _ _ _ r7];rfl);have y1:w2.cell? ⟨w1.heap.size+1,1,none⟩=some (.slice (some ⟨w1.heap.size,0,none⟩) 1 1):=(by rw [cell_of_row _ _ _ _ _ _ r7];rfl);have y2:=frozen_of_row w2 (w1.heap.size+1) 1 _ _ r7;have z0:w2.cell? ⟨w.heap.size+1,0,none⟩=some (.int .i64 0):=(by rw [cell_of_row _ _ _ _ _ _ r1];rfl);have z1:w2.cell? ⟨w.heap.size+1,1,none⟩=some (.slice none 0 0):=(by rw [cell_of_row _ _ _ _ _ _ r1];rfl);have z2:=frozen_of_row w2 (w.heap.size+1) 0 _ _ r1;have z3:=frozen_of_row w2 (w.heap.size+1) 1 _ _ r1;clear r7 r1)
  | fail)
 refine bodyPost_ret (v:=.agg #[c,.slice a2 (1+p.length) Rj]) (by simp [results,Tryz.results106,go_sem,z0,z1,World.cell?_setCell_other]) rfl ?_;have hA:ae [] w w2:=((HO.q MP).q ((ae.new _ _).q (ae.new _ _))).trans OU Mg (by simp [Value.ownBlock];omega);have hS:∀ u0 u1 u2,ae [w1.heap.size+1,w.heap.size+1] w2 (((w2.setCell ⟨w1.heap.size+1,1,none⟩ u0).setCell ⟨w.heap.size+1,0,none⟩ u1).setCell ⟨w.heap.size+1,1,none⟩ u2):=fun _ _ _=>((((ae.refl _ _).setCell Mg _).setCell Mg _).setCell Mg _)
 have hap:∀ g∈[w1.heap.size+1,w.heap.size+1],(Value.slice a2 (1+p.length) Rj).ownBlock≠some g:=by
  intro g hg e;rcases WZ with h | h
  ·rw [h] at e;simp [Value.ownBlock] at e hg;omega
  ·rw [h] at e;simp at e hg;omega
 refine ⟨_,rfl,⟨_,rfl,?_⟩,hA.trans (hS _ _ _) Mg Mq⟩;rw [show ((s,n) :: p).length=1+p.length by simp [Nat.add_comm]];exact (cT.of_own (iB Om (hS _ _ _) hap)).mono (by omega:w.heap.size<=w1.heap.size) (Lm _)
theorem yS (s:ByteArray) (n c:Int) (w:World) (hc:c≠0) :
  Calls Tryz.prog 57 #[.string s,n,c] w fun e w'=>∃ v',e=.returned v'/\Er w.heap.size w'.heap.size w' v' c [(s,n)]/\ae [] w w':=by
 have H:=lh (fun (w:World)=>Jd s n c (p:=[]) (w:=w) (lo:=0) (hi:=0) (cT.nil 2 0 0 w) hc Mg);go_enter Tryz.func57,Tryz.ntmps57
 go_wp2_with (first
  | (go_at_call 26;refine (gT _ _).mono ?_;rintro e w1 ⟨rfl,MP⟩)
  | (go_at_call 106;refine (H.out w1).mono ?_;rintro e w2 ⟨v2,rfl,hk,MV⟩;obtain ⟨sv,rfl,TI⟩:=hk;obtain ⟨_,a2,Rj,rfl,_⟩:=id TI;have r0:=MV.rowAt (MP.rowAt (heap_alloc_new _ _) Mg) Mg;have x0:w2.cell? ⟨w.heap.size,0,none⟩=some (.int .i64 0):=(by rw [cell_of_row _ _ _ _ _ _ r0];rfl);have x1:w2.cell? ⟨w.heap.size,1,none⟩=some (.slice none 0 0):=(by rw [cell_of_row _ _ _ _ _ _ r0];rfl);have z2:=frozen_of_row w2 w.heap.size 0 _ _ r0;have z3:=frozen_of_row w2 w.heap.size 1 _ _ r0;clear r0)
  | fail)
 refine bodyPost_ret (v:=.agg #[c,.slice a2 1 Rj]) (by simp [results,Tryz.results57,go_sem,x0,x1,World.cell?_setCell_other]) rfl ?_;have hA:ae [] w w2:=(ae.new _ _).q (MP.q MV);have hS:∀ u0 u1,ae [w.heap.size] w2 ((w2.setCell ⟨w.heap.size,0,none⟩ u0).setCell ⟨w.heap.size,1,none⟩ u1):=fun _ _=>(((ae.refl _ _).setCell Mg _).setCell Mg _)
 have hz:=MP.size;simp only [World.size_alloc] at hz;exact ⟨_,rfl,⟨_,rfl,(TI.only (hS _ _) Mq).mono Mf (hS _ _).size⟩,hA.trans (hS _ _) Mg Mg⟩
theorem cT.steps {lo hi:Nat} {w:World} {v:Value} {p:List (ByteArray×Int)} (h:cT 2 lo hi w v p.length (flat p)):∃ (a:Option Addr) (cap:Nat),v=.slice a p.length cap /\
  ∀ i,i<p.length->∃ b off,a=some ⟨b,off,none⟩/\w.cell? ⟨b,off+i*2,none⟩=some (.string (p.getD i default).1)/\w.cell? ⟨b,off+i*2+1,none⟩=some (.int .i64 (p.getD i default).2):=by
 obtain ⟨_,a,cap,rfl,_,_,h5⟩:=h;refine ⟨a,cap,rfl,fun i hi=>?_⟩;obtain ⟨b,off,e,_,_,hc⟩:=h5 Mf;obtain ⟨h1,h2⟩:=Bk p i hi;exact ⟨b,off,e,hc _ _ h1,by rw [Nat.add_assoc];exact hc _ _ h2⟩
theorem rY {lo hi lo' hi':Nat} {v sv:Value} {o:Option Err} {c:Int} {p:List (ByteArray×Int)} {w:World} (h:nD lo hi w v o) (Ww:hi<=w.heap.size) (hE:kJ w) (MR:p.length<=1000) (g:cT 2 lo' hi' w sv p.length (flat p))
  (JhA:o.isNone=(c == 0)) (JdI:EC o=c) (hp:vr o=p) :
  Calls Tryz.prog 13 #[v,.agg #[c,sv]] w fun e w'=>e=.returned (.bool true)/\ae [] w w':=by
 obtain ⟨a,cap,hsv,Jed⟩:=g.steps;subst hsv;have r0:=heap_alloc_new w (.cells #[c,.slice a p.length cap] 39);have hO:=ae.new w (.cells #[c,.slice a p.length cap] 39);have x0:(w.alloc (.cells #[c,.slice a p.length cap] 39)).cell? ⟨w.heap.size,0,none⟩=some (.int .i64 c):=by rw [cell_of_row _ _ _ _ _ _ r0];rfl
 have x1:(w.alloc (.cells #[c,.slice a p.length cap] 39)).cell? ⟨w.heap.size,1,none⟩=some (.slice a p.length cap):=by rw [cell_of_row _ _ _ _ _ _ r0];rfl
 have HO:=lh hO;have HS:=lh Jed;have hOf:=fun w' (k:ae [] (w.alloc (.cells #[c,.slice a p.length cap] 39)) w')=>Kk (h.quiet (hO.q k)) (hE.quiet (hO.q k))
 have Jdv:=fun w' (k:ae [] (w.alloc (.cells #[c,.slice a p.length cap] 39)) w')=>Gk (h.quiet (hO.q k)) (by have:=(hO.q k).size;omega) (hE.quiet (hO.q k)) (by rw [hp];exact MR)
 rw [JdI] at hOf;rw [hp] at Jdv;have HOf:=lh hOf;have JmR:=lh Jdv;have XH:(v=.nilIface/\o=none)\/∃ t u,v=.iface t u/\∃ er,o=some er:=by
  cases o with
  | none=>exact .inl ⟨h,rfl⟩
  | some er=>obtain ⟨t,u,e⟩:=gN.held h;exact .inr ⟨t,u,e,er,rfl⟩
 have Jwe:=lh JdI;have JnG:=lh JhA;have Hp:=lh hp;have SH:=g.len_le;unfold maxLen at SH;have JBU:(p.length:Int)<=9223372036854775807:=Mf;clear h g Jed hO r0 hE hOf Jdv JhA JdI SH hp;rcases XH with ⟨rfl,rfl⟩ | ⟨t,u,rfl,er,rfl⟩
 all_goals
  have Zn:=JnG.symm;simp only [Option.isNone] at Zn;go_enter Tryz.func13,Tryz.ntmps13;go_wp2_with fail
  first | go_region_held3 (fun w'=>w'.cell? ⟨w.heap.size,0,none⟩=some (.int .i64 c)/\w'.cell? ⟨w.heap.size,1,none⟩=some (.slice a p.length cap))
   (first
    | (go_split_ands;refine ⟨MV.cell MG Mg,MV.cell MG Mg⟩)
    | (go_split_ands;refine ⟨MP.cell MG Mg,MP.cell MG Mg⟩)
    | (simp [*,World.cell?_alloc_some,World.cell?_setCell_far,frozen?_alloc_cells,pF,World.frozen?_setCell])
    | fail)
   (first
    | (go_at_call 37;refine (Gd _ _ _).mono ?_;rintro e w1 ⟨rfl,MP⟩;rw [Zn])
    | (go_at_call 47;refine (HOf.out w1 ((ae.refl _ _).drew.q MP)).mono ?_;rintro e w2 ⟨rfl,MV⟩)
    | fail) | fail
  go_wp2_with (first | (go_at_call 48;refine (JmR.out w2 (((ae.refl _ _).drew.q MP).q MV)).mono ?_;rintro e w3 ⟨pv,rfl,MQ,Nb⟩;obtain ⟨pa,NR,rfl,Tm⟩:=(cT.of_own MQ).steps;have z1:=Nb.cell (MV.cell (MP.cell x1 Mg) Mg) Mg;have Ws:=lh Tm;clear Tm) | fail)
  have hqA:ae [] w w3:=(HO.drew.q MP).q (MV.q Nb);clear x0 x1;go_loopw [6] (fun i wr=>∃ k:Nat,k<=p.length/\i=.int .i64 k/\ae [] w3 wr) (fun i _=>p.length-(intOf i).toNat)
  case atStart=>exact ⟨0,Mf,rfl,ae.refl _ _⟩
  case round =>
   obtain ⟨k,hk,rfl,hq⟩:=hrel;have z2:=hq.cell z1 Mg;by_cases MO:k<p.length
   ·obtain ⟨b,off,rfl,Sj,QZ⟩:=HS.out k MO
    obtain ⟨b',JgF,rfl,hd1,YE⟩:=Ws.out k MO;have c1:=(hqA.q hq).cell Sj Mg;have c2:=(hqA.q hq).cell QZ Mg;have d1:=hq.cell hd1 Mg;have d2:=hq.cell YE Mg;have hx:(0:Int)<=(k:Int):=Mf;have OB:(k:Int)<(p.length:Int):=Mf;clear Sj QZ hd1 YE;generalize p.getD k default=x at *
    obtain ⟨xs,xn⟩:=x;simp only at c1 c2 d1 d2;go_wp2
    go_quiet (fail)
    go_wp2;go_roundw
    case rel=>exact ⟨k+1,Mf,Mm,hq.drewN _⟩
    case measure=>simp [intOf];omega
   ·obtain rfl:k=p.length:=Mf
    have hx:¬ (p.length:Int)<(p.length:Int):=Mf;go_wp2;go_ret;exact ⟨rfl,hqA.q hq⟩
section
variable {k:IntKind} {e:TypeId} {g cap base:Nat} {w w':World} {l:List Int}
theorem Own.cellS {n:Nat} (h:Own k e base w (.slice (some ⟨g,0,none⟩) n cap) l) (hn:n=l.length) {i:Nat} (hi:i<l.length):w.cell? ⟨g,i,none⟩=some (.int k (l.getD i 0)):=by
 subst hn;have:=h.1.cellAt i Mf;rw [this,LG];simp [hi]
theorem Own.frzS {n:Nat} (h:Own k e base w (.slice (some ⟨g,0,none⟩) n cap) l) (hn:n=l.length) (j:Nat):w.frozen? ⟨g,j,none⟩=false:=by
 subst hn;exact h.1.frozenAt j
theorem Own.storeS {n:Nat} (h:Own k e base w (.slice (some ⟨g,0,none⟩) n cap) l) (hn:n=l.length) {x:Int} (hx:InK k x) (i:Nat) :
  Own k e base (w.setCell ⟨g,i,none⟩ (.int k x)) (.slice (some ⟨g,0,none⟩) n cap) (l.set i x)/\ae [g] w (w.setCell ⟨g,i,none⟩ (.int k x)):=by
 subst hn;obtain ⟨Tm,hgr⟩:=h.1.stored i (.int k x);refine ⟨⟨?_,fun y hy=>?_⟩,ae.of_grown hgr⟩
 ·rw [LK,List.map_set];exact Tm
 ·rcases List.mem_or_eq_of_mem_set hy with hy | rfl
  ·exact h.2 y hy
  ·exact hx
end
theorem InK.zero (k:IntKind):InK k 0:=by cases k <;> simp [InK]
theorem fD (k:IntKind) (t:TypeId) (w:World) (n:Nat) (hn:n<=maxLen) :
  Own k t w.heap.size (w.alloc (.cells (madeCells #[.int k 0] n) t)) (.slice (some ⟨w.heap.size,0,none⟩) n n) (List.replicate n 0):=by
 have h0:=World.ownsRow_lit w (base:=w.heap.size) (e:=t) (size:=1) (madeCells #[.int k 0] n) n (Lm _) hn (by rw [size_madeCells,Nat.mul_one]);rw [toList_madeCells_one] at h0;exact ⟨by simpa using h0,fun x hx=>by rw [(List.mem_replicate.1 hx).2];exact InK.zero k⟩
theorem Acc.row {a b:Value} {w w':World} {B g:Nat} {o:Obj} (h:Acc a w b w') (ha:bB B a) (hr:w.heap[g]?=some o) (hg:g<B):w'.heap[g]?=some o :=
 (h.only.block g (Array.getElem?_eq_some_iff.1 hr).1 (fun hm=>by have:=ha g Mu;omega)).trans hr
theorem ae.row {w w':World} {g:Nat} {o:Obj} (h:ae [] w w') (hr:w.heap[g]?=some o):w'.heap[g]?=some o :=
 (h.block g (Array.getElem?_eq_some_iff.1 hr).1 Mg).trans hr
theorem aJ {w:World} {g:Nat} {v0 v1:Value} {t:TypeId} (h:w.heap[g]?=some (.cells #[v0,v1] t (0,0))) :
  w.cell? ⟨g,0,none⟩=some v0/\w.cell? ⟨g,1,none⟩=some v1/\w.frozen? ⟨g,0,none⟩=false/\w.frozen? ⟨g,1,none⟩=false/\g<w.heap.size :=
 ⟨by rw [cell_of_row _ _ _ _ _ _ h];rfl,by rw [cell_of_row _ _ _ _ _ _ h];rfl,frozen_of_row _ _ _ _ _ h,frozen_of_row _ _ _ _ _ h,(Array.getElem?_eq_some_iff.1 h).1⟩
end Go.Proofs.YthcafdfdglfabaaGreatDoor
