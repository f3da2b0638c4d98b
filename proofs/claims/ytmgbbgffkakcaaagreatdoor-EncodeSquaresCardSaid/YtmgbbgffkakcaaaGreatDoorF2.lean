/- Joined texts: ELgt, EFew. Conditions: each part names its own. -/
import Derived.Test.YtmgbbgffkakcaaaGreatDoorT1
import Derived.Test.YtmgbbgffkakcaaaGreatDoorC1
import Derived.Test.YtmgbbgffkakcaaaGreatDoorK2
namespace Go.Proofs.YtmgbbgffkakcaaaGreatDoor
open Go.RowKit
set_option linter.unusedVariables false
set_option linter.unusedSimpArgs false
set_option maxRecDepth 100000
set_option maxHeartbeats 16000000
section
theorem light_any (c:Cfg) (W H n:Int) (w:World) :
  Calls Tryz.prog 20 #[c.v,.int .i64 W,.int .i64 H,.int .i64 n] w fun e w'=>(∃ b,e=.returned (.bool b))∧Only [] w w':=by
 refine hidQ fun Q HPost=>?_
 obtain ⟨a0,a1,a2,a3,a4,a5,a6,a7⟩:=c
 unfold Cfg.v
 have hq:=Only.new w (.cells #[.int .i64 a0,.int .i64 a1,.int .i64 a2,.int .i64 a3,.int .i64 a4,.int .i64 a5,.int .i64 a6,.int .i64 a7] 47)
 have HQ:=lh hq
 clear hq
 go_enter Tryz.func20,Tryz.ntmps20
 go_wp2_with fail
 all_goals
  exact HPost.out _ _ ⟨⟨_,rfl⟩,HQ.out⟩
end
instance:Inhabited FrameD:=⟨frame0⟩
def frEq (A B:FrameD):Bool:=decide (A.W=B.W) && decide (A.H=B.H) && eqB A.pix B.pix
/-- frames in memory -/
def FramesAt (lo hi:Nat) (w:World) (v:Value) (l:List FrameD):Prop :=
 ∃ f,Rows 3 lo hi w v l.length f∧∀ i,i<l.length→f i 0=.int .i64 (l.getD i default).W∧f i 1=.int .i64 (l.getD i default).H∧Ints .i64 lo hi w (f i 2) (l.getD i default).pix
theorem FramesAt.only {lo hi:Nat} {w w':World} {v:Value} {S:List Nat} {l:List FrameD} (h:FramesAt lo hi w v l) (o:Only S w w') (hS:∀ g∈S,g<lo∨hi≤g):FramesAt lo hi w' v l:=by
 obtain ⟨f,h1,h2⟩:=h
 exact ⟨f,h1.only o hS,fun i hi=>⟨(h2 i hi).1,(h2 i hi).2.1,(h2 i hi).2.2.only o hS⟩⟩
theorem FramesAt.quiet {lo hi:Nat} {w w':World} {v:Value} {l:List FrameD} (h:FramesAt lo hi w v l) (o:Only [] w w'):FramesAt lo hi w' v l:=h.only o (by simp)
theorem FramesAt.open {lo hi:Nat} {w:World} {v:Value} {l:List FrameD} (h:FramesAt lo hi w v l):∃ (a:Option Addr) (cap:Nat),v=.slice a l.length cap∧l.length≤cap∧cap≤maxLen ∧
  ∀ i,i<l.length→∃ b off dv,a=some ⟨b,off,none⟩∧lo≤b∧b<hi ∧
   w.cell? ⟨b,off+i*3,none⟩=some (.int .i64 (l.getD i default).W)∧w.cell? ⟨b,off+i*3+1,none⟩=some (.int .i64 (l.getD i default).H)∧w.cell? ⟨b,off+i*3+2,none⟩=some dv∧Ints .i64 lo hi w dv (l.getD i default).pix:=by
 obtain ⟨f,h1,h2⟩:=h
 obtain ⟨a,cap,rfl,x,y,hc⟩:=h1.open
 refine ⟨a,cap,rfl,x,y,fun i hi=>?_⟩
 obtain ⟨b,off,e,p,q,hj⟩:=hc i hi
 obtain ⟨e0,e1,e2⟩:=h2 i hi
 exact ⟨b,off,f i 2,e,p,q,by rw [← e0];exact hj 0 (by omega),by rw [← e1];exact hj 1 (by omega),hj 2 (by omega),e2⟩
section
theorem kframe_any {lo hi lo' hi':Nat} {pv pu:Value} {w:World} {A B:FrameD} (h:Ints .i64 lo hi w pv A.pix) (g:Ints .i64 lo' hi' w pu B.pix) :
  Calls Tryz.prog 17 #[.agg #[.int .i64 A.W,.int .i64 A.H,pv],.agg #[.int .i64 B.W,.int .i64 B.H,pu]] w fun e w'=>e=.returned (.bool (frEq A B))∧Only [] w w':=by
 obtain ⟨a,cap,rfl,-⟩:=h.open
 obtain ⟨b,bcap,rfl,-⟩:=g.open
 have hq1:=Only.new w (.cells #[.int .i64 A.W,.int .i64 A.H,.slice a A.pix.length cap] 24)
 have hq2:=hq1.q (Only.new _ (.cells #[.int .i64 B.W,.int .i64 B.H,.slice b B.pix.length bcap] 24))
 have HI:=lh (intsEq_any (h.quiet hq2) (g.quiet hq2))
 have HQ:=lh hq2
 have HR:Hid (frEq A B=(decide (A.W=B.W) && decide (A.H=B.H) && eqB A.pix B.pix)):=lh rfl
 clear h g hq1 hq2
 generalize frEq A B=r at *
 generalize eqB A.pix B.pix=bb at *
 generalize A.W=W1 at *
 generalize A.H=H1 at *
 generalize B.W=W2 at *
 generalize B.H=H2 at *
 by_cases hW:W1=W2
 ·by_cases hH:H1=H2
  ·subst hW;subst hH
   go_enter Tryz.func17,Tryz.ntmps17
   go_wp2_with fail
   go_at_call 55
   refine HI.out.mono ?_
   rintro e w2 ⟨rfl,hq3⟩
   have HQ3:=lh hq3
   clear hq3
   go_wp2_with fail
   go_ret
   exact ⟨ret_bool (by rw [HR.out];simp),HQ.out.q HQ3.out⟩
  ·have hb:(H1 == H2)=false:=by rw [beq_eq_false_iff_ne];exact hH
   subst hW
   have Hn:=lh hH
   clear hH
   go_enter Tryz.func17,Tryz.ntmps17
   go_wp2_with fail
   go_ret
   exact ⟨ret_bool (by rw [HR.out];simp [Hn.out]),HQ.out⟩
 ·have hb:(W1 == W2)=false:=by rw [beq_eq_false_iff_ne];exact hW
  have Hn:=lh hW
  clear hW
  go_enter Tryz.func17,Tryz.ntmps17
  go_wp2_with fail
  go_ret
  exact ⟨ret_bool (by rw [HR.out];simp [Hn.out]),HQ.out⟩
def pixSum (l:List FrameD):Int:=l.foldl (fun n c=>n+min (c.pix.length:Int) 20001) 0
def pixB (l:List FrameD):Bool:=decide (l.length≤40) && decide (pixSum (l.take 40)≤20000)
theorem pixSum_take {l:List FrameD} {k:Nat} (h:k<l.length):pixSum (l.take (k+1))=pixSum (l.take k)+min ((l.getD k default).pix.length:Int) 20001:=by
 rw [List.take_succ_eq_append_getElem h,pixSum,List.foldl_append];simp [pixSum,h]
theorem pixSum_range (l:List FrameD):0≤pixSum l∧pixSum l≤20001*l.length:=by
 have h:∀ (l:List FrameD) (n:Int),n≤l.foldl (fun n c=>n+min (c.pix.length:Int) 20001) n∧l.foldl (fun n c=>n+min (c.pix.length:Int) 20001) n≤n+20001*l.length:=by
  intro l
  induction l with
  | nil=>intro n;simp
  | cons c l ih =>
   intro n
   have:=ih (n+min (c.pix.length:Int) 20001)
   simp only [List.foldl_cons,List.length_cons]
   omega
 have:=h l 0
 unfold pixSum
 omega
theorem pix_any {lo hi:Nat} {v:Value} {l:List FrameD} {w:World} (h:FramesAt lo hi w v l) :
  Calls Tryz.prog 19 #[v] w fun e w'=>e=.returned (.bool (pixB l))∧w=w':=by
 obtain ⟨a,cap,rfl,hcap,hmax,hel⟩:=h.open
 have Hel:=lh hel
 have hll:(l.length:Int)≤9223372036854775807:=by unfold maxLen at hmax;omega
 clear h hel hmax hcap
 go_enter Tryz.func19,Tryz.ntmps19
 go_wp2
 go_loop [4,3] (fun i c=>∃ k:Nat,k≤l.length∧k≤40∧i=.int .i64 k∧c=.int .i64 (pixSum (l.take k))) (fun i _=>40-(intOf i).toNat)
 case atStart=>exact ⟨0,by omega,by omega,rfl,rfl⟩
 case round =>
  obtain ⟨k,hk,hk40,rfl,rfl⟩:=hrel
  have hs:=pixSum_range (l.take k)
  have hs2:pixSum (l.take k)≤800040:=by rw [List.length_take] at hs;omega
  by_cases hlt:k<l.length
  ·by_cases h40:k<40
   ·obtain ⟨b,off,dv,rfl,_,_,hc0,hc1,hc2,hd⟩:=Hel.out k hlt
    obtain ⟨da,dcap,rfl,_,hdm,_⟩:=hd.open
    have hn:=pixSum_take hlt
    have hx:(0:Int)≤(k:Int):=by omega
    have hx1:(k:Int)<(l.length:Int):=by omega
    have hx2:(k:Int)<40:=by omega
    have Hn:=lh hn
    have h0:=hs.1
    clear hn hs hd hc0 hc1
    generalize l.getD k default=x at *
    generalize pixSum (l.take k)=s at *
    have hdl:(x.pix.length:Int)≤9223372036854775807:=by unfold maxLen at hdm;omega
    go_wp2
    go_round
    case rel=>exact ⟨k+1,by omega,by omega,by go_num,by rw [Hn.out];first | rfl | exact congrArg (Value.int .i64) (by omega) | exact congrArg (Value.int .i64) (by split <;> omega)⟩
    case measure=>simp [intOf];omega
   ·obtain rfl:k=40:=by omega
    have hx1:((40:Nat):Int)<(l.length:Int):=by omega
    have hx2:¬ (((40:Nat):Int)<40):=by omega
    by_cases h40':l.length≤40
    ·omega
    have hr:pixB l=false:=by simp [pixB];omega
    go_wp2
    go_ret
    first | exact ⟨rfl,rfl⟩ | exact ⟨ret_bool (by rw [hr]),rfl⟩
  ·obtain rfl:k=l.length:=by omega
   have hx:¬ (l.length:Int)<(l.length:Int):=by omega
   have hr:pixB l=decide (pixSum l≤20000):=by
    have:l.take 40=l:=List.take_of_length_le hk40
    simp [pixB,hk40,this]
   have hxx:(l.length:Int)≤40:=by omega
   rw [List.take_length] at *
   have Hr:=lh hr
   clear hr hs
   generalize pixSum l=s at *
   by_cases hss:s≤20000
   all_goals
    go_wp2
    go_ret
    exact ⟨ret_bool (by rw [Hr.out];simp [hss]),rfl⟩
theorem few_any {lo hi:Nat} {v:Value} {l:List FrameD} {w:World} (reach:Int) (h:FramesAt lo hi w v l) (hl:0<l.length) :
  Calls Tryz.prog 12 #[v,.int .i64 reach] w fun e w'=>(∃ b,e=.returned (.bool b)∧(b=true→pixB l=true))∧Only [] w w':=by
 refine hidQ fun Q HPost=>?_
 have HP:=lh (fun (W:World) (o:Only [] w W)=>pix_any (h.quiet o))
 obtain ⟨a,cap,rfl,hcap,hmax,hel⟩:=h.open
 obtain ⟨b0,off,dv,rfl,_,_,h0,h1,-,-⟩:=hel 0 hl
 have HL:=lh (fun (W:World)=>light_any ⟨0,0,reach,0,0,0,0,0⟩ (l.getD 0 default).W (l.getD 0 default).H 1 W)
 unfold Cfg.v at HL
 rw [Nat.zero_mul,Nat.add_zero] at h0 h1
 generalize (l.getD 0 default).W=W at *
 generalize (l.getD 0 default).H=H at *
 generalize hP:pixB l=P at *
 obtain ⟨N,hN⟩:∃ z,z=l.length:=⟨_,rfl⟩
 rw [← hN] at HP hl ⊢
 have hx1:(0:Int)<(N:Int):=by omega
 clear h hel hmax hcap hP hN
 go_enter Tryz.func12,Tryz.ntmps12
 go_wp2_with fail
 cases P with
 | true =>
  refine wp_region_held_drew (S:=(fun w'=>w'.cell? ⟨b0,off,none⟩=some (.int .i64 W)∧w'.cell? ⟨b0,off+1,none⟩=some (.int .i64 H))) (by kernel_rfl) ?_ (fun hHeld=>?_)
  ·exact ⟨h0,h1⟩
  refine tk 0 5 ?_
  refine rdy (rdc 1 6 (fun K hK=>?_) .nil)
  go_simp
  go_at_call 19
  refine (HP.out _ (Only.refl _ _).drew).mono ?_
  rintro e w3 ⟨rfl,rfl⟩
  refine hK.out _ _ ?_ (fun hHeld=>?_)
  ·exact ⟨h0,h1⟩
  clear hK K
  try simp only [Act.put,List.setIfInBounds_toArray,List.set_cons_zero,List.set_cons_succ]
  refine tk 2 7 ?_
  refine tk 3 8 ?_
  refine tk 4 9 ?_
  refine tk 5 10 ?_
  refine tk 6 11 ?_
  refine tk 7 12 ?_
  refine tk 8 13 ?_
  refine tk 9 14 ?_
  refine tk 10 15 ?_
  refine tk 11 16 ?_
  refine tk 12 17 ?_
  refine rdy (rdc 13 18 (fun K hK=>?_) .nil)
  go_simp
  go_at_call 20
  refine (HL.out _).mono ?_
  rintro e w4 ⟨⟨bb,rfl⟩,hq4⟩
  have HQ4:Hid (Only [] w w4):=lh ((Only.refl [] w).drew.q hq4)
  clear hq4
  refine hK.out _ _ ?_ (fun hHeld=>?_)
  ·exact ⟨HQ4.out.cell h0 (by simp),HQ4.out.cell h1 (by simp)⟩
  clear hK K
  try simp only [Act.put,List.setIfInBounds_toArray,List.set_cons_zero,List.set_cons_succ]
  refine tk 14 19 ?_
  refine tk 15 4 ?_
  refine wpAnyH_done (by kernel_rfl) ?_ _
  go_wp2_with fail
  exact HPost.out _ _ ⟨⟨_,rfl,by first | trivial | simp⟩,HQ4.out⟩
 | false =>
  refine wp_region_held_drew (S:=(fun w'=>w'.cell? ⟨b0,off,none⟩=some (.int .i64 W)∧w'.cell? ⟨b0,off+1,none⟩=some (.int .i64 H))) (by kernel_rfl) ?_ (fun hHeld=>?_)
  ·exact ⟨h0,h1⟩
  refine tk 0 5 ?_
  refine rdy (rdc 1 6 (fun K hK=>?_) .nil)
  go_simp
  go_at_call 19
  refine (HP.out _ (Only.refl _ _).drew).mono ?_
  rintro e w3 ⟨rfl,rfl⟩
  refine hK.out _ _ ?_ (fun hHeld=>?_)
  ·exact ⟨h0,h1⟩
  clear hK K
  try simp only [Act.put,List.setIfInBounds_toArray,List.set_cons_zero,List.set_cons_succ]
  refine tk 2 7 ?_
  refine tkn 3 8 ?_
  refine tkn 4 9 ?_
  refine tkn 5 10 ?_
  refine tkn 6 11 ?_
  refine tkn 7 12 ?_
  refine tkn 8 13 ?_
  refine tkn 9 14 ?_
  refine tkn 10 15 ?_
  refine tkn 11 16 ?_
  refine tkn 12 17 ?_
  refine tkn 13 18 ?_
  refine tk 14 19 ?_
  refine tk 15 4 ?_
  refine wpAnyH_done (by kernel_rfl) ?_ _
  go_wp2_with fail
  exact HPost.out _ _ ⟨⟨_,rfl,by first | trivial | simp⟩,(Only.refl [] w).drew⟩
end
end Go.Proofs.YtmgbbgffkakcaaaGreatDoor
