/- Joined texts: DOwnF, DFrames, DKFrs. Conditions: each part names its own. -/
import Derived.Test.YtmdobcffijnaoaaGreatDoorT1
import Derived.Test.YtmdobcffijnaoaaGreatDoorS7
import Derived.Test.YtmdobcffijnaoaaGreatDoorG6
import Derived.Test.YtmdobcffijnaoaaGreatDoorC3
import Derived.Test.YtmdobcffijnaoaaGreatDoorS5
namespace Go.Proofs.YtmdobcffijnaoaaGreatDoor
open Go.RowKit
set_option linter.unusedVariables false
set_option linter.unusedSimpArgs false
set_option maxRecDepth 100000
set_option maxHeartbeats 16000000
/-- what coded frames mean, from the i-th on -/
def framesGo (W H:Int):List Coded→Nat→FrameD→List FrameD→Except Err (List FrameD)
 | [],_,_,acc=>.ok acc
 | c :: l,i,prev,acc =>
  match frameD c prev W H with
  | .error e=>.error (inE sFrames i e)
  | .ok f=>framesGo W H l (i+1) f (acc ++ [f])
def framesD (l:List Coded) (W H:Int):Except Err (List FrameD):=if 16<l.length then .error ⟨[],5⟩ else framesGo W H l 0 frame0 []
theorem framesGo_bad {W H:Int} {c:Coded} {l:List Coded} {i:Nat} {prev:FrameD} {acc:List FrameD} {e:Err} (h:frameD c prev W H=.error e):framesGo W H (c :: l) i prev acc=.error (inE sFrames i e):=by rw [framesGo,h]
theorem framesGo_more {W H:Int} {c:Coded} {l:List Coded} {i:Nat} {prev f:FrameD} {acc:List FrameD} (h:frameD c prev W H=.ok f):framesGo W H (c :: l) i prev acc=framesGo W H l (i+1) f (acc ++ [f]):=by rw [framesGo,h]
/-- what the elements of a row of frames are: their samples lie in blocks of which B speaks -/
def ElF (B:Nat→Prop) (w:World) (xs:List Value) (l:List FrameD):Prop :=
 (∀ u∈xs,u.oneCell'=true)∧∀ i f,l[i]?=some f→xs[i*3]?=some (.int .i64 f.W)∧xs[i*3+1]?=some (.int .i64 f.H)∧∃ pv b,xs[i*3+2]?=some pv∧Ints .i64 b (b+1) w pv f.pix∧B b
def OwnF (base:Nat) (w:World) (v:Value) (l:List FrameD):Prop:=∃ xs,w.ownsRow base 70 3 v l.length xs∧ElF (fun b=>base≤b∧b<w.heap.size∧v.ownBlock≠some b) w xs l
section
variable {base:Nat} {w w':World} {v v':Value} {l m:List FrameD} {S:List Nat}
theorem OwnF.only (h:OwnF base w v l) (o:Only S w w') (hS:∀ g∈S,g<base):OwnF base w' v l:=by
 obtain ⟨xs,h1,h2,h3⟩:=h
 refine ⟨xs,owns_only h1 o (fun g hg e=>by have:=(h1.lt g e).1;have:=hS g hg;omega),h2,fun i f hf=>?_⟩
 obtain ⟨a,b,pv,c,d1,d2,d3⟩:=h3 i f hf
 exact ⟨a,b,pv,c,d1,d2.only o (fun g hg=>by have:=hS g hg;have:=d3.1;omega),d3.1,Nat.lt_of_lt_of_le d3.2.1 o.size,d3.2.2⟩
theorem OwnF.quiet (h:OwnF base w v l) (o:Only [] w w'):OwnF base w' v l:=h.only o (by simp)
theorem OwnF.nil (base:Nat) (w:World):OwnF base w (.slice none 0 0) []:=⟨[],World.ownsRow_nil _ _ _ _,by simp,by simp⟩
theorem OwnF.at (h:OwnF base w v l):∀ g,v.ownBlock=some g→base≤g∧g<w.heap.size:=by obtain ⟨xs,h1,_⟩:=h;exact h1.lt
theorem OwnF.isSlice (h:OwnF base w v l):∃ a cap,v=.slice a l.length cap:=by
 obtain ⟨xs,h1,_⟩:=h
 obtain ⟨_,a,cap,rfl,_⟩:=Cells.of_own h1
 exact ⟨a,cap,rfl⟩
theorem OwnF.lower {base':Nat} (h:OwnF base w v l) (hb:base'≤base):OwnF base' w v l:=by
 obtain ⟨xs,h1,h2,h3⟩:=h
 exact ⟨xs,owns_base h1 hb,h2,fun i f hf=>by obtain ⟨a,b,pv,c,d1,d2,d3⟩:=h3 i f hf;exact ⟨a,b,pv,c,d1,d2,by omega,d3.2⟩⟩
theorem OwnF.frames (h:OwnF base w v l):FramesAt base w.heap.size w v l:=by
 obtain ⟨xs,h1,_,h2⟩:=h
 have hlx:=h1.1
 refine ⟨fun i j=>xs.getD (i*3+j) undef,Rows.of_own h1 (fun i j hi hj=>?_),fun i hi=>?_⟩
 ·have:i*3+j<xs.length:=by omega
  simp [this]
 ·obtain ⟨a,b,pv,c,d1,d2,d3⟩:=h2 i (l.getD i default) (by simp [hi])
  refine ⟨?_,?_,?_⟩
  ·show xs.getD (i*3+0) undef=_
   rw [Nat.add_zero,List.getD_eq_getElem?_getD,a];rfl
  ·show xs.getD (i*3+1) undef=_
   rw [List.getD_eq_getElem?_getD,b];rfl
  ·show Ints .i64 base w.heap.size w (xs.getD (i*3+2) undef) _
   rw [List.getD_eq_getElem?_getD,d1]
   exact d2.mono d3.1 (by omega)
end
section
variable {P:Program}
theorem wpList_append_frame {w:World} {ops:Array Oper} {rest:List Oper} {o:Oper} {a:Act} {Q:Exit→Act→World→Prop} (hgd:o.guard=none) (s x:Operand) (t:TypeId)
  (ho:o.op=.call { callee:=.builtin .append,args:=#[s,x],argTypes:=#[t,t] })
  {z:Value} {bytes base lo2 hi2 b:Nat} {v sv pv:Value} {l:List FrameD} {f:FrameD} (E:Elem P t 70 z 3 bytes)
  (hown:OwnF base w v l) (hv:a.eval s=v) (hs:Cells 3 lo2 hi2 w sv 1 [.int .i64 f.W,.int .i64 f.H,pv]) (hp:Ints .i64 b (b+1) w pv f.pix) (hb:base≤b∧b<w.heap.size∧v.ownBlock≠some b) (hx:a.eval x=sv)
  (hbytes:(l.length+1)*bytes≤140737488355328) (hbase:base≤w.heap.size)
  (h:∀ v' w',OwnF base w' v' (l ++ [f])→Acc v w v' w'→wpList P ops Q rest (a.put o.dst v') w'):wpList P ops Q (o :: rest) a w:=by
 have hle:l.length+1≤140737488355328:=Nat.le_trans (Nat.le_mul_of_pos_right _ E.bp) hbytes
 obtain ⟨xs,h1,h2,h3⟩:=hown
 have hpv:pv.oneCell'=true:=by obtain ⟨a,cap,rfl,_⟩:=hp.open;rfl
 have hone:∀ u∈[Value.int .i64 f.W,.int .i64 f.H,pv],u.oneCell'=true:=by
  intro u hu
  simp only [List.mem_cons,List.not_mem_nil,or_false] at hu
  rcases hu with rfl | rfl | rfl
  ·rfl
  ·rfl
  ·exact hpv
 refine wpList_append_cells hgd s x t ho E h1 hv hs hx hone (by simp only [maxLen];omega) hbytes hbase fun v' w' h2' h3' h4=>?_
 have ha:Acc v w v' w':=⟨h3',h4.imp id fun e g hg=>by rw [e] at hg;injection hg with hg;omega⟩
 have hsz:=h3'.size
 have hblk:∀ c,base≤c∧c<w.heap.size∧v.ownBlock≠some c→base≤c∧c<w'.heap.size∧v'.ownBlock≠some c:=fun c hc=>⟨hc.1,by omega,fun e=>by
  rcases h4 with e' | e'
  ·exact hc.2.2 (e'.symm.trans e)
  ·rw [e'] at e;injection e with e;omega⟩
 refine h v' w' ⟨xs ++ [.int .i64 f.W,.int .i64 f.H,pv],by rw [List.length_append];exact h2',fun u hu=>(List.mem_append.1 hu).elim (h2 u) (hone u),fun i g hg=>?_⟩ ha
 have hlx:=h1.1
 by_cases hi:i<l.length
 ·rw [List.getElem?_append_left hi] at hg
  obtain ⟨e0,e1,q,c,d1,d2,d3⟩:=h3 i g hg
  exact ⟨by rw [List.getElem?_append_left (by omega)];exact e0,by rw [List.getElem?_append_left (by omega)];exact e1,q,c,by rw [List.getElem?_append_left (by omega)];exact d1,
   d2.only h3' (fun x hx=>by have hne:x≠c:=fun e=>d3.2.2 (by rw [← e];simpa using hx);omega),hblk c d3⟩
 ·rw [List.getElem?_append_right (by omega)] at hg
  have hlt:=(List.getElem?_eq_some_iff.1 hg).1
  have hi0:i=l.length:=by simp at hlt;omega
  subst hi0
  simp at hg
  subst hg
  refine ⟨?_,?_,pv,b,?_,hp.only h3' (fun x hx=>by have hne:x≠b:=fun e=>hb.2.2 (by rw [← e];simpa using hx);omega),hblk b hb⟩
  ·rw [List.getElem?_append_right (by omega),show l.length*3-xs.length=0 by omega];rfl
  ·rw [List.getElem?_append_right (by omega),show l.length*3+1-xs.length=1 by omega];rfl
  ·rw [List.getElem?_append_right (by omega),show l.length*3+2-xs.length=2 by omega];rfl
end
theorem EFr:Elem Tryz.prog 24 70 (.agg #[.int .i64 0,.int .i64 0,.slice none 0 0]) 3 40:=Elem.mk' Tryz.underlying24 (by kernel_rfl) rfl (by omega) (by omega)
def FramesP (w:World) (r:Except Err (List FrameD)) (e:Ending) (w':World):Prop :=
 Only [] w w'∧match r with
  | .ok fs=>∃ a cap,e=.returned (.tuple #[.slice a fs.length cap,.nilIface])∧FramesAt w.heap.size w'.heap.size w' (.slice a fs.length cap) fs
  | .error er=>∃ ev,e=.returned (.tuple #[.slice none 0 0,ev])∧ErrV w.heap.size w'.heap.size w' ev er
theorem dropC {l:List Coded} {k:Nat} (h:k<l.length):l.drop k=l.getD k default :: l.drop (k+1):=by
 rw [List.drop_eq_getElem_cons h,List.getD_eq_getElem?_getD,List.getElem?_eq_getElem h];rfl
theorem frames_any {lo hi:Nat} {v:Value} {w:World} {l:List Coded} (W H:Int) (h:CodedsAt lo hi w v l) :
  Calls Tryz.prog 12 #[v,.int .i64 W,.int .i64 H] w (FramesP w (framesD l W H)):=by
 refine hidQ fun Q HPost=>?_
 obtain ⟨a,cap,rfl,hcap,hmax,hel⟩:=h.open
 have Hel:=lh hel
 have hll:(l.length:Int)≤9223372036854775807:=by unfold maxLen at hmax;omega
 by_cases h16:16<l.length
 ·have hr:framesD l W H=.error ⟨[],5⟩:=by unfold framesD;rw [if_pos h16]
  rw [hr] at HPost
  have h16i:(16:Int)<(l.length:Int):=by omega
  clear h hel hcap hmax hr h16
  go_enter Tryz.func12,Tryz.ntmps12
  go_wp2_with fail
  exact HPost.out _ _ ⟨Only.refl _ _,_,rfl,ErrV.code _ _ _ _⟩
 ·have hr:framesD l W H=framesGo W H l 0 frame0 []:=by unfold framesD;rw [if_neg h16]
  rw [hr] at HPost
  have h16i:¬ (16:Int)<(l.length:Int):=by omega
  have h16n:l.length≤16:=by omega
  clear h hel hcap hmax hr h16
  go_enter Tryz.func12,Tryz.ntmps12
  go_wp2_with fail
  have HQ1:=lh (Only.new w (.cells #[.int .i64 0,.int .i64 0,.slice none 0 0] 70))
  have HRA:Hid ((w.alloc (.cells #[.int .i64 0,.int .i64 0,.slice none 0 0] 70)).heap[w.heap.size]?=some (.cells #[.int .i64 0,.int .i64 0,.slice none 0 0] 70 (0,0))):=lh (heap_alloc_new w _)
  have HZ1:Hid ((w.alloc (.cells #[.int .i64 0,.int .i64 0,.slice none 0 0] 70)).heap.size=w.heap.size+1):=lh (by simp)
  generalize hW1:World.alloc w _=W1 at *
  clear hW1
  go_loopw [20,8,10,11,12,13] (fun i r _ _ _ _ wr=>∃ (k:Nat) (prev:FrameD) (acc:List FrameD) (pv:Value) (b:Nat),k≤l.length∧i=.int .i64 k∧Hid (framesGo W H (l.drop k) k prev acc=framesGo W H l 0 frame0 [])∧Hid (acc.length=k)∧Hid (OwnF (w.heap.size+1) wr r acc)∧Hid (From (w.heap.size+1) r)∧Hid (wr.heap[w.heap.size]?=some (.cells #[.int .i64 prev.W,.int .i64 prev.H,pv] 70 (0,0)))∧Hid (Ints .i64 b (b+1) wr pv prev.pix)∧Hid (Only [] w wr)) (fun i _ _ _ _ _ _=>l.length-(intOf i).toNat)
  case atStart=>exact ⟨0,frame0,[],.slice none 0 0,0,by omega,rfl,lh rfl,lh rfl,lh (OwnF.nil _ _),lh (From.nil _),HRA,lh (Ints.nil _ _ _ _),HQ1⟩
  case round =>
   obtain ⟨k,prev,acc,pv,b,hk,rfl,Hgo,Hal,HOk,HFk,HRk,HIk,HQk⟩:=hrel
   obtain ⟨ra,rcap,rfl⟩:=HOk.out.isSlice
   rw [Hal.out] at HOk HFk ⊢
   by_cases hlt:k<l.length
   ·have hki:(k:Int)<(l.length:Int):=by omega
    have hk0:(0:Int)≤(k:Int):=by omega
    obtain ⟨cb,coff,dv,rfl,_,_,hc1,hc2,hik,hd⟩:=Hel.out k hlt
    have c0:=HQk.out.cell hc1 (by simp)
    have c1:=HQk.out.cell hc2 (by simp)
    have hgo:=Hgo.out
    rw [dropC hlt] at hgo
    generalize l.getD k default=c at *
    obtain ⟨pa,pcap,rfl,-⟩:=HIk.out.open
    obtain ⟨da,dcap,rfl,-⟩:=hd.open
    have HGo:=lh hgo
    have HD:=lh (hd.quiet HQk.out)
    have hzk:=HQk.out.size
    obtain ⟨r0,r1,r2⟩:=frame_cells HRk.out
    have n0:=block_lt_of_cell r0
    simp only at n0
    have n1:¬ wr.heap.size=w.heap.size:=by omega
    have n2:¬ w.heap.size=wr.heap.size:=by omega
    clear hgo hc1 hc2 hd hzk
    go_wp2_with fail
    clear r0 r1 r2 n0 n1 n2 c0 c1
    have hn2:=Only.new wr (.cells #[.int .i64 c.kind,.slice da c.data.length dcap] 83)
    have HQ2:=lh (HQk.out.q hn2)
    have HFr:=lh (frame_any (c:=c) (prev:=prev) W H (HD.out.quiet hn2) (HIk.out.quiet hn2))
    have HR2:=lh (hn2.row HRk.out)
    have HO2:=lh (HOk.out.quiet hn2)
    have hz2:=hn2.size
    have hzk:=HQk.out.size
    have HZ2:=lh hz2
    clear hn2
    generalize hW2:World.alloc wr _=W2 at *
    clear hW2
    go_at_call 27
    refine HFr.out.mono ?_
    rintro e W3 ⟨hq3,hm⟩
    have HQ3:=lh (HQ2.out.q hq3)
    have HR3:=lh (hq3.row HR2.out)
    have HO3:=lh (HO2.out.quiet hq3)
    have HZ3:=lh (And.intro hq3.size (And.intro hz2 hzk))
    have hn3:=block_lt_of_cell (frame_cells HR3.out).1
    have HN3:Hid (w.heap.size<W3.heap.size):=lh hn3
    clear hq3 hz2 hzk hn3
    cases hfr:frameD c prev W H with
    | error er =>
     rw [hfr] at hm
     obtain ⟨ev,rfl,hev⟩:=hm
     obtain ⟨et,eu,rfl⟩:=hev.held
     have hgo:=HGo.out
     rw [framesGo_bad hfr] at hgo
     have HGO:=lh hgo
     have hnw:=Only.new W3 (.cells #[.int .i64 0,.int .i64 0,.slice none 0 0] 70)
     have HEv:=lh ((hev.quiet hnw).mono (Nat.le_refl _) hnw.size)
     have HQ4:=lh (HQ3.out.q hnw)
     have HZ4:=lh hnw.size
     clear hgo hfr hev hnw
     go_wp2_with fail
     generalize hW4:World.alloc W3 _=W4 at *
     clear hW4
     go_at_call 26
     refine (in_any _ _ HEv.out (Nat.le_refl _) (by have:=HZ3.out;have:=HZ4.out;omega)).mono ?_
     rintro e W5 ⟨v5,rfl,he5,hq5⟩
     have HE5:=lh he5
     have HQ5:=lh (HQ4.out.q hq5)
     clear he5 hq5
     go_wp2_with fail
     refine HPost.out _ _ ?_
     rw [← HGO.out]
     exact ⟨HQ5.out,_,rfl,HE5.out.mono (by have:=HZ3.out;omega) (Nat.le_refl _)⟩
    | ok f =>
     rw [hfr] at hm
     obtain ⟨g,gcap,rfl,hown⟩:=hm
     have hff:=frameD_both (c:=c) (prev:=prev) (w:=W) (h:=H) HD.out.2
     obtain ⟨hok,hfw,hfh⟩:=hff.1 f hfr
     rw [hfw,hfh]
     have hgo:=HGo.out
     rw [framesGo_more hfr] at hgo
     have HGO:=lh hgo
     have hga:=hown.at g rfl
     have hgI:Ints .i64 g (g+1) W3 (.slice (some ⟨g,0,none⟩) f.pix.length gcap) f.pix:=by
      obtain ⟨⟨h1,a',c',e',h3,h4,h5⟩,hk'⟩:=hown.ints
      refine ⟨⟨h1,a',c',e',h3,h4,fun hp=>?_⟩,hk'⟩
      obtain ⟨b',off',e2,x,y,hc⟩:=h5 hp
      injection e' with q1 q2 q3
      rw [← q1] at e2
      injection e2 with e2
      injection e2 with e2 e3
      subst e2
      exact ⟨g,off',by rw [← q1,← e3],Nat.le_refl _,Nat.lt_succ_self _,hc⟩
     have hn4:=Only.new W3 (.cells #[.int .i64 W,.int .i64 H,.slice (some ⟨g,0,none⟩) f.pix.length gcap] 70)
     have hrT:=heap_alloc_new W3 (.cells #[.int .i64 W,.int .i64 H,.slice (some ⟨g,0,none⟩) f.pix.length gcap] 70)
     have hnotG:∀ x,(Value.slice ra k rcap).ownBlock=some x→x<wr.heap.size∧w.heap.size+1≤x:=fun x hx=>⟨(HOk.out.at x hx).2,(HOk.out.at x hx).1⟩
     have HnG:=lh hnotG
     have HQ4:=lh (HQ3.out.q hn4)
     have HR4:=lh (hn4.row HR3.out)
     have HT4:=lh hrT
     have HO4:=lh (HO3.out.quiet hn4)
     have HG4:=lh (hgI.quiet hn4)
     have HZ4:=lh (show g<W3.heap.size∧W2.heap.size≤g∧W3.heap.size<(W3.alloc (.cells #[.int .i64 W,.int .i64 H,.slice (some ⟨g,0,none⟩) f.pix.length gcap] 70)).heap.size from ⟨hga.2,hga.1,by simp⟩)
     have Hff:=lh (And.intro hfw hfh)
     clear hgo hfr hown hff hok hga hgI hn4 hrT hnotG hfw hfh
     have hn5:=Only.new (W3.alloc (.cells #[.int .i64 W,.int .i64 H,.slice (some ⟨g,0,none⟩) f.pix.length gcap] 70)) (.cells #[.int .i64 W,.int .i64 H,.slice (some ⟨g,0,none⟩) f.pix.length gcap] 70)
     have HCs:Hid (Cells 3 (W3.heap.size+1) (W3.heap.size+1+1) ((W3.alloc (.cells #[.int .i64 W,.int .i64 H,.slice (some ⟨g,0,none⟩) f.pix.length gcap] 70)).alloc (.cells #[.int .i64 W,.int .i64 H,.slice (some ⟨g,0,none⟩) f.pix.length gcap] 70)) (.slice (some ⟨W3.heap.size+1,0,none⟩) 1 1) 1 [.int .i64 f.W,.int .i64 f.H,.slice (some ⟨g,0,none⟩) f.pix.length gcap]):=lh (by
      rw [Hff.out.1,Hff.out.2]
      exact cells_newG rfl rfl (by simp [maxLen]) (by simp))
     have HO5:=lh (HO4.out.quiet hn5)
     have HG5:=lh (HG4.out.quiet hn5)
     have HT5:=lh (hn5.row HT4.out)
     have HR5:=lh (hn5.row HR4.out)
     have HQ5:=lh (HQ4.out.q hn5)
     have Hb5:Hid (w.heap.size+1≤g∧g<((W3.alloc (.cells #[.int .i64 W,.int .i64 H,.slice (some ⟨g,0,none⟩) f.pix.length gcap] 70)).alloc (.cells #[.int .i64 W,.int .i64 H,.slice (some ⟨g,0,none⟩) f.pix.length gcap] 70)).heap.size∧(Value.slice ra k rcap).ownBlock≠some g):=lh ⟨by have:=HZ4.out;have:=HZ3.out;have:=HZ2.out;have:=HN3.out;have h6:=HQk.out.size;have h7:=block_lt_of_cell (frame_cells HRk.out).1;simp only at h7;omega,by have:=HZ4.out;simp;omega,fun e=>by have:=(HnG.out g e).1;have:=HZ4.out;have:=HZ2.out;omega⟩
     have Hby:Hid ((acc.length+1)*40≤140737488355328):=lh (by rw [Hal.out];omega)
     have Hba:Hid (w.heap.size+1≤((W3.alloc (.cells #[.int .i64 W,.int .i64 H,.slice (some ⟨g,0,none⟩) f.pix.length gcap] 70)).alloc (.cells #[.int .i64 W,.int .i64 H,.slice (some ⟨g,0,none⟩) f.pix.length gcap] 70)).heap.size):=lh (by have:=HN3.out;simp;omega)
     have HTf:Hid (∀ v1 w6,Acc (.slice ra k rcap) ((W3.alloc (.cells #[.int .i64 W,.int .i64 H,.slice (some ⟨g,0,none⟩) f.pix.length gcap] 70)).alloc (.cells #[.int .i64 W,.int .i64 H,.slice (some ⟨g,0,none⟩) f.pix.length gcap] 70)) v1 w6→w6.heap[W3.heap.size]?=some (.cells #[.int .i64 W,.int .i64 H,.slice (some ⟨g,0,none⟩) f.pix.length gcap] 70 (0,0))):=lh (fun v1 w6 ho=>ho.only.rowAt HT5.out (fun hm=>by have:=(HnG.out _ (by simpa using hm)).1;have:=HZ3.out;have:=HZ2.out;omega))
     have HRf:Hid (∀ v1 w6,Acc (.slice ra k rcap) ((W3.alloc (.cells #[.int .i64 W,.int .i64 H,.slice (some ⟨g,0,none⟩) f.pix.length gcap] 70)).alloc (.cells #[.int .i64 W,.int .i64 H,.slice (some ⟨g,0,none⟩) f.pix.length gcap] 70)) v1 w6→w6.heap[w.heap.size]?=some (.cells #[.int .i64 prev.W,.int .i64 prev.H,.slice pa prev.pix.length pcap] 70 (0,0))):=lh (fun v1 w6 ho=>ho.only.rowAt HR5.out (fun hm=>by have:=(HnG.out _ (by simpa using hm)).2;omega))
     have HL:Hid ((acc ++ [f]).length=k+1):=lh (by rw [List.length_append,Hal.out];rfl)
     clear hn5
     go_wp2_with (first
      | (at_builtin;refine wpList_append_frame rfl (.tmp 38) (.tmp 40) _ rfl EFr HO5.out rfl HCs.out HG5.out Hb5.out rfl Hby.out Hba.out (fun v1 w6 hown1 ho1=>?_);obtain ⟨x1,x1cap,hx1⟩:=hown1.isSlice;subst hx1;rw [HL.out] at hown1 ho1 ⊢;obtain ⟨t0,t1,t2⟩:=frame_cells (HTf.out _ _ ho1);obtain ⟨z0,z1,z2⟩:=frame_cells (HRf.out _ _ ho1);have fz0:=frozen_of_row _ _ 0 _ _ (HRf.out _ _ ho1);have fz1:=frozen_of_row _ _ 1 _ _ (HRf.out _ _ ho1);have fz2:=frozen_of_row _ _ 2 _ _ (HRf.out _ _ ho1);have HO6:=lh hown1;have HA6:=lh ho1;clear hown1 ho1)
      | fail)
     obtain ⟨hrow,hon⟩:=row3_set (x:=.int .i64 W) (y:=.int .i64 H) (z:=.slice (some ⟨g,0,none⟩) f.pix.length gcap) (HRf.out _ _ HA6.out)
     have hq6:Only [] w w6:=HQ5.out.trans HA6.out.only (U:=[]) (by simp) (fun x hx hl=>by have:=(HnG.out x (by simpa using hx)).2;omega)
     refine ⟨⟨k+1,f,acc ++ [f],.slice (some ⟨g,0,none⟩) f.pix.length gcap,g,by omega,by go_num,HGO,HL,lh (HO6.out.only hon (by simp)),lh (HA6.out.from_ HFk.out Hba.out),lh ?_,lh ?_,lh (hq6.trans hon (by simp) (fun x hx hl=>by rw [mSg] at hx;omega))⟩,by simp [intOf];omega⟩
     ·rw [Hff.out.1,Hff.out.2];exact hrow
     ·refine (HG5.out.only HA6.out.only (fun x hx=>?_)).only hon (fun x hx=>?_)
      ·have hx1:=(HnG.out x (by simpa using hx)).1
       have:=HZ4.out
       have:=HZ2.out
       left;omega
      ·rw [mSg] at hx
       have:=Hb5.out.1
       left;omega
   ·obtain rfl:k=l.length:=by omega
    have hx:¬ (l.length:Int)<(l.length:Int):=by omega
    have hgo:=Hgo.out
    rw [List.drop_length,framesGo] at hgo
    have HGO:=lh hgo
    have hzz:=block_lt_of_cell (frame_cells HRk.out).1
    have HZZ:Hid (w.heap.size<wr.heap.size):=lh hzz
    clear hgo hzz
    go_wp2_with fail
    refine HPost.out _ _ ?_
    rw [← HGO.out]
    have hfr:=(HOk.out.lower (base':=w.heap.size) (by omega)).frames
    refine ⟨HQk.out,ra,rcap,by rw [Hal.out],?_⟩
    rw [Hal.out]
    exact hfr
theorem kframes_same {lo hi lo' hi':Nat} {v u:Value} {l:List FrameD} {w:World} (h:FramesAt lo hi w v l) (g:FramesAt lo' hi' w u l) :
  Calls Tryz.prog 8 #[v,u] w fun e w'=>e=.returned (.bool true)∧Only [] w w':=by
 refine hidQ fun Q HPost=>?_
 obtain ⟨a,cap,rfl,_,hmax,hel⟩:=h.open
 obtain ⟨a',cap',rfl,_,_,hel'⟩:=g.open
 have hll:(l.length:Int)≤9223372036854775807:=by unfold maxLen at hmax;omega
 have Hh:=lh hel
 have Hg:=lh hel'
 clear h g hel hel' hmax
 go_enter Tryz.func8,Tryz.ntmps8
 go_wp2_with fail
 go_loopw [5,17] (fun i _ wr=>∃ k:Nat,k≤l.length∧i=.int .i64 k∧Hid (Only [] w wr)) (fun i _ _=>l.length-(intOf i).toNat)
 case atStart=>exact ⟨0,by omega,rfl,lh (Only.refl _ _)⟩
 case round =>
  obtain ⟨k,hk,rfl,HQk⟩:=hrel
  by_cases hlt:k<l.length
  ·have hki:(k:Int)<(l.length:Int):=by omega
   have hk0:(0:Int)≤(k:Int):=by omega
   obtain ⟨b,off,dv,rfl,_,_,c0,c1,c2,hd⟩:=Hh.out k hlt
   obtain ⟨b',off',dv',rfl,_,_,c0',c1',c2',hd'⟩:=Hg.out k hlt
   generalize l.getD k default=x at *
   have d0:=HQk.out.cell c0 (by simp)
   have d1:=HQk.out.cell c1 (by simp)
   have d2:=HQk.out.cell c2 (by simp)
   have d3:=HQk.out.cell c0' (by simp)
   have d4:=HQk.out.cell c1' (by simp)
   have d5:=HQk.out.cell c2' (by simp)
   have hcmp:=fun (wx:World) (o:Only [] w wx)=>kframe_any (A:=x) (B:=x) (hd.quiet o) (hd'.quiet o)
   rw [show frEq x x=true by simp [frEq,eqB]] at hcmp
   have HCm:=lh hcmp
   obtain ⟨pa,pcap,rfl,-⟩:=hd.open
   obtain ⟨qa,qcap,rfl,-⟩:=hd'.open
   clear c0 c1 c2 c0' c1' c2' hd hd' hcmp
   go_wp2_with fail
   refine wp_region_held_drew (S:=(fun w'=>w'.cell? ⟨b,off+k*3,none⟩=some (.int .i64 x.W)∧w'.cell? ⟨b,off+k*3+1,none⟩=some (.int .i64 x.H)∧w'.cell? ⟨b,off+k*3+2,none⟩=some (.slice pa x.pix.length pcap)∧w'.cell? ⟨b',off'+k*3,none⟩=some (.int .i64 x.W)∧w'.cell? ⟨b',off'+k*3+1,none⟩=some (.int .i64 x.H)∧w'.cell? ⟨b',off'+k*3+2,none⟩=some (.slice qa x.pix.length qcap))) (by kernel_rfl) ?_ (fun hHeld=>?_)
   ·exact ⟨d0,d1,d2,d3,d4,d5⟩
   refine tk 0 17 ?_
   refine tk 1 18 ?_
   refine tk 2 19 ?_
   refine tk 3 20 ?_
   refine tk 4 21 ?_
   refine tk 5 22 ?_
   refine tk 6 23 ?_
   refine tk 7 24 ?_
   refine rdy (rdc 8 25 (fun K hK=>?_) .nil)
   go_simp
   go_at_call 22
   refine (HCm.out wr.drew HQk.out.drew).mono ?_
   rintro e wn ⟨rfl,hqn⟩
   have HQn:=lh ((Only.refl [] wr).drew.q hqn)
   have e0:=HQn.out.cell d0 (by simp)
   have e1:=HQn.out.cell d1 (by simp)
   have e2:=HQn.out.cell d2 (by simp)
   have e3:=HQn.out.cell d3 (by simp)
   have e4:=HQn.out.cell d4 (by simp)
   have e5:=HQn.out.cell d5 (by simp)
   clear hqn
   refine hK.out _ _ ?_ (fun hHeld=>?_)
   ·exact ⟨e0,e1,e2,e3,e4,e5⟩
   clear hK K
   try simp only [Act.put,List.setIfInBounds_toArray,List.set_cons_zero,List.set_cons_succ]
   refine tk 9 26 ?_
   refine wpAnyH_done (by kernel_rfl) ?_ _
   go_wp2_with fail
   exact ⟨⟨k+1,by omega,by go_num,lh (HQk.out.q HQn.out)⟩,by simp [intOf];omega⟩
  ·obtain rfl:k=l.length:=by omega
   have hx:¬ (l.length:Int)<(l.length:Int):=by omega
   go_wp2_with fail
   exact HPost.out _ _ ⟨rfl,HQk.out⟩
/-- the rest of a slice of rows -/
theorem Rows.drop {size lo hi:Nat} {w:World} {b off n cap:Nat} {f:Nat→Nat→Value} (h:Rows size lo hi w (.slice (some ⟨b,off,none⟩) n cap) n f) {k:Nat} (hk:k<n):Rows size lo hi w (.slice (some ⟨b,off+k*size,none⟩) (n-k) (cap-k)) (n-k) (fun i j=>f (k+i) j):=by
 obtain ⟨a,cap',e,h3,h4,h5⟩:=h
 injection e with e1 e2 e3
 subst e3
 obtain ⟨b',off',e',hl,hh,hc⟩:=h5 (by omega)
 rw [e'] at e1
 injection e1 with e1
 injection e1 with e4 e5
 subst e4;subst e5
 refine ⟨_,_,rfl,by omega,by omega,fun _=>⟨b,off+k*size,rfl,hl,hh,fun i j hi hj=>?_⟩⟩
 have:=hc (k+i) j (by omega) hj
 rw [show off+k*size+i*size+j=off+(k+i)*size+j by rw [Nat.add_mul];omega]
 exact this
/-- the first elements of a slice of rows -/
theorem Rows.take {size lo hi:Nat} {w:World} {a:Option Addr} {n cap:Nat} {f:Nat→Nat→Value} (h:Rows size lo hi w (.slice a n cap) n f) {k:Nat} (hk:k≤n):Rows size lo hi w (.slice a k cap) k f:=by
 obtain ⟨a',cap',e,h3,h4,h5⟩:=h
 injection e with e1 e2 e3
 subst e1;subst e3
 refine ⟨_,_,rfl,by omega,h4,fun hp=>?_⟩
 obtain ⟨b,off,e',hl,hh,hc⟩:=h5 (by omega)
 exact ⟨b,off,e',hl,hh,fun i j hi hj=>hc i j (by omega) hj⟩
theorem FramesAt.drop {lo hi:Nat} {w:World} {b off cap:Nat} {l:List FrameD} (h:FramesAt lo hi w (.slice (some ⟨b,off,none⟩) l.length cap) l) {k:Nat} (hk:k<l.length):FramesAt lo hi w (.slice (some ⟨b,off+k*3,none⟩) (l.length-k) (cap-k)) (l.drop k):=by
 obtain ⟨f,h1,h2⟩:=h
 refine ⟨_,by rw [List.length_drop];exact h1.drop hk,fun i hi=>?_⟩
 rw [List.length_drop] at hi
 have:=h2 (k+i) (by omega)
 rw [show (l.drop k).getD i default=l.getD (k+i) default by rw [List.getD_eq_getElem?_getD,List.getElem?_drop,List.getD_eq_getElem?_getD]]
 exact this
theorem FramesAt.take {lo hi:Nat} {w:World} {a:Option Addr} {cap:Nat} {l:List FrameD} (h:FramesAt lo hi w (.slice a l.length cap) l) {k:Nat} (hk:k≤l.length):FramesAt lo hi w (.slice a k cap) (l.take k):=by
 obtain ⟨f,h1,h2⟩:=h
 have hl:(l.take k).length=k:=by rw [List.length_take];omega
 refine ⟨f,by rw [hl];exact h1.take hk,fun i hi=>?_⟩
 rw [hl] at hi
 have:=h2 i (by omega)
 rw [show (l.take k).getD i default=l.getD i default by rw [List.getD_eq_getElem?_getD,List.getElem?_take,if_pos hi,List.getD_eq_getElem?_getD]]
 exact this
end Go.Proofs.YtmdobcffijnaoaaGreatDoor
