/- Joined texts: Read, Few, New, Get. Conditions: each part names its own. -/
import Derived.Test.YthcafdfdglfabaaGreatDoorC1
import Derived.Deep.OwnRows
namespace Go.Proofs.YthcafdfdglfabaaGreatDoor
open Go.RowKit
set_option linter.unusedVariables false
set_option linter.unusedSimpArgs false
set_option maxRecDepth 100000
set_option maxHeartbeats 16000000
theorem ah.sub {k:IntKind} {lo hi b off cap:Nat} {w:World} {l:List Int} (h:ah k lo hi w (.slice (some ⟨b,off,none⟩) l.length cap) l) {i j:Nat} (hij:i<=j) (hj:j<=l.length) (Te:Nat) (hc:Te<=cap) (hjc:j-i<=Te) :
  ah k lo hi w (.slice (some ⟨b,off+i,none⟩) (j-i) Te) ((l.take j).drop i):=by
 obtain ⟨⟨h1,a,c,e,h3,h4,h5⟩,hk⟩:=h;injection e with e1 e2 e3
 subst e1;subst e3;have hl:((l.take j).drop i).length=j-i:=by rw [Lq,Lp,Nat.min_eq_left hj]
 refine ⟨?_,fun x hx=>hk x (List.mem_of_mem_take (List.mem_of_mem_drop hx))⟩;rw [hl];refine ⟨by rw [Lt,hl];omega,some ⟨b,off+i,none⟩,Te,rfl,hjc,Lz hc h4,fun hn=>?_⟩;obtain ⟨b',JgF,e,x,y,hcc⟩:=h5 (LN (LN hn (Nat.sub_le _ _)) hj);injection e with e
 injection e with e1 e2
 subst e1;subst e2;refine ⟨b,off+i,rfl,x,y,fun m u hu=>?_⟩;rw [Nat.add_assoc];refine hcc (i+m) u ?_;rw [LG,LH,LI] at hu;rw [LG]
 split at hu
 ·exact hu
 ·simp at hu
theorem pF (w:World) (a:Addr):w.drew.frozen? a=w.frozen? a:=rfl
section
variable {P:Program}
theorem pn {w:World} {ops:Array Oper} {o:Oper} {a:Act} {K:Act->World->Prop} {Q:Exit->Act->World->Prop} {E':Prop} (XE:o.guard=none) (s x:Operand) (t:TypeId)
  (ho:o.op=.call { callee:=.builtin .append,args:=#[s,x],argTypes:=#[t,t] })
  {k:IntKind} {e:TypeId} {z:Value} {bytes base lo hi:Nat} {v sv:Value} {l m:List Int} (E:kI P t e z 1 bytes)
  (MQ:Own k e base w v l) (hv:a.eval s=v) (hs:ah k lo hi w sv m) (hx:a.eval x=sv)
  (OQ:(l.length+m.length)*bytes<=140737488355328) (Pe:base<=w.heap.size)
  (h:∀ v' w',Own k e base w' v' (l ++ m)->Acc v w v' w'->K (a.put o.dst v') w'):if Region.wanted o (yielded ops a.tmps)=true then Oper.wp P o a w K Q else E':=by
 have hle:l.length+m.length<=140737488355328:=Lz (Nat.le_mul_of_pos_right _ E.bp) OQ;refine jf XE s x t ho E MQ.1 hv hs.1 hx (by simp only [List.mem_map];rintro u ⟨x,_,rfl⟩;rfl) (by simp only [maxLen];omega) OQ Pe fun v' w' h2 h3=>h v' w' ⟨?_,?_⟩ h3
 ·simpa using h2
 ·intro y hy
  rcases List.mem_append.1 hy with hy | hy
  ·exact MQ.2 y hy
  ·exact hs.2 y hy
end
def Iw (c:kH):Option Int :=
 if rj c.kind=false then some 13
 else if qC c.kind=true then (if 0<c.data.length then some 2 else none)
 else if c.data.length=0 then some 1
 else if 15<c.data.getD 0 0 then some 3
 else if 65536<c.data.length then some 5
 else none
def aX (l:List Int) (a b:Int):Bool:=l.all fun x=>decide (a<=x/\x<=b)
theorem vY {l:List Int} {k:Nat} {a b:Int} (h:k<l.length):aX (l.drop k) a b=(decide (a<=l.getD k 0/\l.getD k 0<=b) && aX (l.drop (k+1)) a b):=by
 rw [aX,LC h,List.all_cons];simp [aX,h]
theorem Iu {p:Prop} (h:p:=by
 go_wp2;go_ret
 first | exact ⟨rfl,rfl⟩ | exact ⟨aK (by rw [hr]),rfl⟩):p:=h
theorem bS {lo hi:Nat} {v:Value} {l:List Int} (x y:Int) {w:World} (h:ah .i64 lo hi w v l) :
  Calls Tryz.prog 61 #[v,x,y] w fun e w'=>e=.returned (.bool (aX l x y))/\w=w':=by
 obtain ⟨a,cap,rfl,Qq,PI,Pd,MZ⟩:=h.open;have Qn:(l.length:Int)<=9223372036854775807:=by unfold maxLen at PI;omega
 have Sp:=lh Pd;have NX:=lh MZ;clear h Pd MZ Qq PI;go_enter Tryz.func61,Tryz.ntmps61;go_wp2;go_loop [7] (fun i=>∃ k:Nat,k<=l.length/\i=.int .i64 k/\Hid (aX (l.drop k) x y=aX l x y)) (fun i=>l.length-(intOf i).toNat)
 case atStart=>exact ⟨0,Mf,rfl,lh rfl⟩
 case round =>
  obtain ⟨k,hk,rfl,Hk⟩:=hrel;by_cases MO:k<l.length
  ·obtain ⟨b,off,rfl,_,_⟩:=Sp.out k MO
   have hc:=NX.out b off rfl k MO;have Hd:=lh (vY (a:=x) (b:=y) MO);have hx:(0:Int)<=(k:Int):=Mf;have OB:(k:Int)<(l.length:Int):=Mf;generalize l.getD k 0=q at *
   by_cases h1:q<x
   ·have hr:aX l x y=false:=by rw [<- Hk.out,Hd.out];simp;omega
    exact Iu
   ·by_cases h2:y<q
    ·have hr:aX l x y=false:=by rw [<- Hk.out,Hd.out];simp;omega
     exact Iu
    ·have hr:aX (l.drop (k+1)) x y=aX l x y:=by rw [<- Hk.out,Hd.out];simp;omega
     have Hr:=lh hr;clear hr;go_wp2;go_round
     case rel=>exact ⟨k+1,Mf,Mm,Hr⟩
     case measure=>simp [intOf];omega
  ·obtain rfl:k=l.length:=Mf
   have hx:¬ (l.length:Int)<(l.length:Int):=Mf;have hr:aX l x y=true:=by rw [<- Hk.out,List.drop_length];rfl
   exact Iu
def io (W H V:Int):Bool:=eA W && eA H && iw V
theorem yC {b off n cap:Nat} {i:Int} (k:Nat) (hi:i=(k:Int)) (h:k<=cap) (W:World) :
  (Instr.slice 29 (.slice (some ⟨b,off,none⟩) n cap) none (some (.int .i64 i)) none).run Tryz.prog W=.ok (.slice (some ⟨b,off,none⟩) k cap) W:=by
 subst hi;have h1:¬ cap<k:=Mf;have h2:(k:Int)<=(cap:Int):=Mf;simp [Instr.slice,run_underlying Tryz.underlying29,Instr.sliceBounds,Instr.sliceBound,asIntOf,go_sem,h]
 try omega
end Go.Proofs.YthcafdfdglfabaaGreatDoor
