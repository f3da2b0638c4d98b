/- Joined texts: GJoin, GParse. Conditions: each part names its own. -/
import Derived.Test.YtkigikallkpbcaaGreatDoorT1
import Derived.Test.YtkigikallkpbcaaGreatDoorG4
import Derived.Test.YtkigikallkpbcaaGreatDoorG7
import Derived.Test.YtkigikallkpbcaaGreatDoorC1
import Derived.Test.YtkigikallkpbcaaGreatDoorC4
import Derived.Deep.DeepCutAuto
import Derived.Deep.CutBlock
namespace Go.Proofs.YtkigikallkpbcaaGreatDoor
open Go.RowKit
set_option linter.unusedVariables false
set_option linter.unusedSimpArgs false
set_option maxRecDepth 100000
set_option maxHeartbeats 16000000
theorem qGJoint0 {p:Prop} (h:p:=by intro wz hSw;obtain ⟨hS0,hS1,hS2,hS3⟩:=hSw;obtain ⟨u0,u1,u2,u3⟩:=row4_cells hS0;go_simp;try with_reducible rfl):p:=h
theorem qGJoint1 {p:Prop} (h:p:=by intro wz hSw;obtain ⟨t0,t1,-⟩:=row2 hSw;go_simp;try with_reducible rfl):p:=h
theorem jdrew {w:World} {g:Nat} {x} (h:w.heap[g]?=x):w.drew.heap[g]?=x:=h
theorem OwnKD.only' {lo hi base:Nat} {w w':World} {v:Value} {l:List Coded} {S:List Nat} (h:OwnKD lo hi base w v l) (o:Only S w w') (hS:∀ g∈S,(g<lo∨hi≤g)∧v.ownBlock≠some g):OwnKD lo hi base w' v l:=by
 obtain ⟨h0,xs,h1,h2,h3⟩:=h
 refine ⟨h0,xs,owns_only h1 o (fun g hg=>(hS g hg).2),h2,fun i c hc=>?_⟩
 obtain ⟨a,b,dv,d1,d2⟩:=h3 i c hc
 exact ⟨a,b,dv,d1,d2.only o (fun g hg=>(hS g hg).1)⟩
/-- what may have been written: the chunk, and blocks from base on -/
def JOnly (R base:Nat) (w w':World):Prop:=∃ S,Only S w w'∧∀ g∈S,g=R∨base≤g
theorem JOnly.mk' {R base:Nat} {w w':World} {S:List Nat} (h:Only S w w') (hS:∀ g∈S,g=R∨base≤g):JOnly R base w w':=⟨S,h,hS⟩
theorem JOnly.of {R base:Nat} {w w':World} (h:Only [] w w'):JOnly R base w w':=⟨[],h,by simp⟩
theorem JOnly.trans {R base:Nat} {a b c:World} (h:JOnly R base a b) (k:JOnly R base b c):JOnly R base a c:=by
 obtain ⟨S,h1,h2⟩:=h
 obtain ⟨T,k1,k2⟩:=k
 exact ⟨S ++ T,h1.trans k1 (fun g hg _=>by simp [hg]) (fun g hg _=>by simp [hg]),fun g hg=>(List.mem_append.1 hg).elim (h2 g) (k2 g)⟩
/-- what join hands back -/
def JoinP (R lo hi base:Nat) (k:Chunk) (n:Nat) (u:UnitD) (w:World) (e:Ending) (w':World):Prop :=
 JOnly R base w w'∧match joinE n k u with
  | .error c=>e=.returned (.iface 35 (.int .i64 c))
  | .ok k'=>e=.returned .nilIface∧∃ cv,w'.heap[R]?=some (.cells #[.int .i64 k'.number,.int .i64 k'.first,.int .i64 k'.count,cv] 26 (0,0))∧OwnKD lo hi base w' cv k'.coded
theorem JoinP.bad {R lo hi base:Nat} {k:Chunk} {n:Nat} {u:UnitD} {w w':World} {e:Ending} {c:Int} (h:joinE n k u=.error c) (he:e=.returned (.iface 35 (.int .i64 c))) (o:JOnly R base w w'):JoinP R lo hi base k n u w e w':=by
 unfold JoinP
 rw [h]
 exact ⟨o,he⟩
theorem JoinP.good {R lo hi base:Nat} {k k':Chunk} {n:Nat} {u:UnitD} {w w':World} {e:Ending} {cv:Value} {cells:Array Value} (h:joinE n k u=.ok k') (he:e=.returned .nilIface) (o:JOnly R base w w') (hc:cells=#[.int .i64 k'.number,.int .i64 k'.first,.int .i64 k'.count,cv])
  (hr:w'.heap[R]?=some (.cells cells 26 (0,0))) (ho:OwnKD lo hi base w' cv k'.coded):JoinP R lo hi base k n u w e w':=by
 unfold JoinP
 rw [h]
 subst hc
 exact ⟨o,he,cv,hr,ho⟩
section
variable {P:Program}
theorem wp_append_kD {w:World} {o:Oper} {a:Act} {K:Act→World→Prop} {Q:Exit→Act→World→Prop} (s x:Operand) (t:TypeId)
  (ho:o.op=.call { callee:=.builtin .append,args:=#[s,x],argTypes:=#[t,t] })
  {z:Value} {bytes base lo hi lo2 hi2:Nat} {v sv:Value} {l m:List Coded} {ys:List Value} (E:Elem P t 69 z 2 bytes)
  (hown:OwnKD lo hi base w v l) (hv:a.eval s=v) (hs:Cells 2 lo2 hi2 w sv m.length ys) (hel:ElKD lo hi w ys m) (hx:a.eval x=sv)
  (hbytes:(l.length+m.length)*bytes≤140737488355328) (hbase:base≤w.heap.size)
  (h:∀ v' w',OwnKD lo hi base w' v' (l ++ m)→Acc v w v' w'→K (a.put o.dst v') w'):o.wp P a w K Q:=by
 have hle:l.length+m.length≤140737488355328:=Nat.le_trans (Nat.le_mul_of_pos_right _ E.bp) hbytes
 obtain ⟨h0,xs,h1,h2⟩:=hown
 refine wp_append_cells s x t ho E h1 hv hs hx hel.1 (by simp only [maxLen];omega) hbytes hbase fun v' w' h2' h3' h4=>?_
 have ha:Acc v w v' w':=⟨h3',h4.imp id fun e g hg=>by rw [e] at hg;injection hg with hg;omega⟩
 refine h v' w' ⟨h0,xs ++ ys,by rw [List.length_append];exact h2',(h2.append h1.1 hel).only h3' (fun g hg=>?_)⟩ ha
 have:=(h1.lt g (by simpa using hg)).1
 omega
end
section
theorem join0_any {R lo hi base:Nat} {num fst cnt:Int} {cs:List Coded} {cv dv:Value} {uk:Int} {ud:List Int} {ua ue:Nat} {w:World} (hr:w.heap[R]?=some (.cells #[.int .i64 num,.int .i64 fst,.int .i64 cnt,cv] 26 (0,0))) (ho:OwnKD lo hi base w cv cs) (hb:R<base) (hhR:R<lo) (hbw:base≤w.heap.size)
  (hu:Ints .u8 lo hi w dv ud) (huk:InK .i64 uk) (hcs:cs.length≤100000000) :
  Calls Tryz.prog 52 #[.pointer (some ⟨R,0,none⟩),.int .i64 (0:Nat),.agg #[.int .i64 uk,dv,.int .i64 ua,.int .i64 ue]] w (JoinP R lo hi base (⟨num,fst,cnt,cs⟩:Chunk) 0 (⟨uk,ud,ua,ue⟩:UnitD) w):=by
 refine hidQ fun Q HPost=>?_
 obtain ⟨ca,cc,rfl⟩:=ho.isSlice
 obtain ⟨da,dc,rfl,-,-,hda,hdc⟩:=hu.open
 have HDa:=lh hda
 have HDc:=lh hdc
 have HU:=lh hu
 have HO:=lh ho
 have HR:=lh hr
 have HRb:=lh hb
 have HhR:Hid (R<lo):=lh hhR
 have HBw:=lh hbw
 have Huk:=lh huk
 have Hcs:=lh hcs
 have hq1:=Only.new w (.cells #[.int .i64 uk,.slice da ud.length dc,.int .i64 ua,.int .i64 ue] 105)
 have HQ1:=lh hq1
 have HU1:=lh (heap_alloc_new w (.cells #[.int .i64 uk,.slice da ud.length dc,.int .i64 ua,.int .i64 ue] 105))
 have HR1:=lh (hq1.row hr)
 have HZ1:Hid ((w.alloc (.cells #[.int .i64 uk,.slice da ud.length dc,.int .i64 ua,.int .i64 ue] 105)).heap.size=w.heap.size+1):=lh (by simp)
 have hRw:=block_lt_of_cell (row4_cells hr).1
 have HRw:Hid (R<w.heap.size):=lh hRw
 have hlu:(ud.length:Int)≤9223372036854775807:=by have:=hu.1.len_le;unfold maxLen at this;omega
 clear hr ho hb hhR hbw huk hcs hu hda hdc hq1 hRw
 by_cases h1:uk=32
 ·by_cases h2:ud.length=3
  ·obtain ⟨db,doff,rfl,hdbh,-⟩:=HDa.out 0 (by omega)
   have HNd:Hid (db≠R):=lh (by have:=HhR.out;omega)
   clear hdbh
   have hin:=HU.out.2
   have d0:=HDc.out db doff rfl 0 (by omega)
   have d1:=HDc.out db doff rfl 1 (by omega)
   have d2:=HDc.out db doff rfl 2 (by omega)
   rw [Nat.add_zero] at d0
   have d0:=HQ1.out.cell d0 (by simp)
   have d1:=HQ1.out.cell d1 (by simp)
   have d2:=HQ1.out.cell d2 (by simp)
   have e0:=HU.out.range (i:=0) (by omega)
   have e1:=HU.out.range (i:=1) (by omega)
   have e2:=HU.out.range (i:=2) (by omega)
   have HJ:Hid (joinE 0 (⟨num,fst,cnt,cs⟩:Chunk) (⟨uk,ud,ua,ue⟩:UnitD)=if headB (ud.getD 0 0) (ud.getD 1 0) (ud.getD 2 0)=true then .ok ⟨ud.getD 0 0,ud.getD 1 0,ud.getD 2 0,cs⟩ else .error 2):=lh (by
    unfold joinE
    rw [if_pos rfl]
    simp only [h1,h2,true_and])
   generalize ud.getD 0 0=x0 at *
   generalize ud.getD 1 0=x1 at *
   generalize ud.getD 2 0=x2 at *
   have w0:IntKind.i64.wrap x0=x0:=by rw [IntKind.wrap_i64];unfold InK at e0;omega
   have w1:IntKind.i64.wrap x1=x1:=by rw [IntKind.wrap_i64];unfold InK at e1;omega
   have w2:IntKind.i64.wrap x2=x2:=by rw [IntKind.wrap_i64];unfold InK at e2;omega
   obtain ⟨u0,u1,u2,u3⟩:=row4_cells HU1.out
   subst h1
   clear hin e0 e1 e2 HDa HDc HU hlu
   generalize ud.length=m at *
   subst h2
   go_enter Tryz.func52,Tryz.ntmps52
   go_upto_region 4 with (fail)
   generalize hW1:World.alloc w _=W1 at *
   clear hW1
   obtain ⟨r0,r1,r2,r3⟩:=row4_cells HR1.out
   have fz0:=frozen_of_row _ _ 0 _ _ HR1.out
   have HS4:Hid (∀ wx:World,Only [R] W1 wx→wx.heap[w.heap.size]?=some (.cells #[.int .i64 32,.slice (some ⟨db,doff,none⟩) 3 dc,.int .i64 ua,.int .i64 ue] 105 (0,0))∧wx.cell? ⟨db,doff,none⟩=some (.int .u8 x0)∧wx.cell? ⟨db,doff+1,none⟩=some (.int .u8 x1)∧wx.cell? ⟨db,doff+2,none⟩=some (.int .u8 x2)):=lh (fun wx o=>⟨o.rowAt HU1.out (by rw [mSg];have:=HRw.out;omega),o.cell d0 (by rw [mSg];exact HNd.out),o.cell d1 (by rw [mSg];exact HNd.out),o.cell d2 (by rw [mSg];exact HNd.out)⟩)
   clear d0 d1 d2 u0 u1 u2 u3
   refine wp_region_held_drew (S:=(fun wz=>wz.heap[w.heap.size]?=some (.cells #[.int .i64 32,.slice (some ⟨db,doff,none⟩) 3 dc,.int .i64 ua,.int .i64 ue] 105 (0,0))∧wz.cell? ⟨db,doff,none⟩=some (.int .u8 x0)∧wz.cell? ⟨db,doff+1,none⟩=some (.int .u8 x1)∧wz.cell? ⟨db,doff+2,none⟩=some (.int .u8 x2))) (by kernel_rfl) ?_ (fun hHeld=>?_)
   ·first | exact HS4.out _ (Only.refl _ _) | exact HS4.out _ (Only.refl _ _).drew
   refine tkw 0 22 ⟨rfl,qGJoint0⟩ ?_
   refine tkw 1 23 ⟨rfl,qGJoint0⟩ ?_
   refine tkw 2 24 ⟨rfl,qGJoint0⟩ ?_
   refine tkw 3 25 ⟨rfl,qGJoint0⟩ ?_
   refine tkw 4 26 ⟨rfl,qGJoint0⟩ ?_
   refine tkw 5 27 ⟨rfl,qGJoint0⟩ ?_
   refine tkw 6 28 ⟨rfl,qGJoint0⟩ ?_
   refine tkw 7 29 ⟨rfl,qGJoint0⟩ ?_
   refine tkw 8 30 ⟨rfl,qGJoint0⟩ ?_
   refine tkw 9 31 ⟨rfl,qGJoint0⟩ ?_
   refine tkw 10 32 ⟨rfl,qGJoint0⟩ ?_
   refine tkw 11 33 ⟨rfl,qGJoint0⟩ ?_
   refine tkw 12 34 ⟨rfl,qGJoint0⟩ ?_
   refine tkw 13 35 ⟨rfl,qGJoint0⟩ ?_
   refine tkw 14 36 ⟨rfl,qGJoint0⟩ ?_
   refine tkw 15 37 ⟨rfl,qGJoint0⟩ ?_
   refine tkw 16 38 ⟨rfl,qGJoint0⟩ ?_
   refine tkw 17 39 ⟨rfl,qGJoint0⟩ ?_
   refine tkw 18 40 ⟨rfl,qGJoint0⟩ ?_
   refine tkw 19 41 ⟨rfl,qGJoint0⟩ ?_
   refine rdy (rdn 20 (fun K hK=>?_) .nil)
   go_simp
   generalize hW3:World.setCell _ _ _=W3
   have o3:Only [R] W1 W3:=by rw [← hW3];first | exact (Only.refl [R] W1).setCell (p:=⟨R,0,none⟩) (by simp) (.int .i64 x0) | exact (Only.refl [R] W1).drew.setCell (p:=⟨R,0,none⟩) (by simp) (.int .i64 x0)
   have hr3:W3.heap[R]?=some (.cells #[.int .i64 x0,.int .i64 fst,.int .i64 cnt,.slice ca cs.length cc] 26 (0,0)):=by rw [← hW3];first | exact heap_setCell_same _ R 0 _ _ (.int .i64 x0) HR1.out | exact heap_setCell_same _ R 0 _ _ (.int .i64 x0) (jdrew HR1.out)
   have HO3:=lh o3
   have hr4:=heap_setCell_same _ R 1 _ _ (.int .i64 x1) hr3
   have hr5:=heap_setCell_same _ R 2 _ _ (.int .i64 x2) hr4
   have HR5:=lh hr5
   have o5:=((Only.refl [R] W3).setCell (p:=⟨R,1,none⟩) (by simp) (.int .i64 x1)).setCell (p:=⟨R,2,none⟩) (by simp) (.int .i64 x2)
   have HO5:=lh (o3.trans o5 (U:=[R]) (fun _ h _=>h) (fun _ h _=>h))
   obtain ⟨y0,y1,y2,y3⟩:=row4_cells hr3
   obtain ⟨z0,z1,z2,z3⟩:=row4_cells hr4
   have fy1:=frozen_of_row _ _ 1 _ _ hr3
   have fy2:=frozen_of_row _ _ 2 _ _ hr3
   have fz2:=frozen_of_row _ _ 2 _ _ hr4
   clear hW3 o3 hr3 hr4 hr5 o5
   refine hK.out _ _ ?_ (fun hHeld=>?_)
   ·exact HS4.out _ (by first | exact HO3.out | exact HO3.out.drew)
   clear hK K
   try simp only [Act.put,List.setIfInBounds_toArray,List.set_cons_zero,List.set_cons_succ]
   refine tkw 21 42 ⟨rfl,qGJoint0⟩ ?_
   refine tkw 22 43 ⟨rfl,qGJoint0⟩ ?_
   refine rdy (rdn 23 (fun K hK=>?_) .nil)
   go_simp
   generalize hW4:World.setCell _ _ _=W4
   have HO4:Hid (Only [R] W1 W4):=lh (by rw [← hW4];exact HO5.out)
   have HR4:Hid (W4.heap[R]?=some (.cells #[.int .i64 x0,.int .i64 x1,.int .i64 x2,.slice ca cs.length cc] 26 (0,0))):=lh (by rw [← hW4];exact HR5.out)
   clear hW4 y0 y1 y2 y3 z0 z1 z2 z3 fy1 fy2 fz2 HO5 HR5
   refine hK.out _ _ ?_ (fun hHeld=>?_)
   ·exact HS4.out _ (by first | exact HO4.out | exact HO4.out.drew)
   clear hK K
   try simp only [Act.put,List.setIfInBounds_toArray,List.set_cons_zero,List.set_cons_succ]
   refine wpAnyH_done (by kernel_rfl) ?_ _
   clear r0 r1 r2 r3 fz0
   obtain ⟨r0,r1,r2,r3⟩:=row4_cells HR4.out
   have HOn4:Hid (OwnKD lo hi base W4 (.slice ca cs.length cc) cs):=lh ((HO.out.quiet HQ1.out).only' HO4.out (fun g hg=>by rw [mSg] at hg;subst hg;exact ⟨.inl HhR.out,fun e=>by have:=HO.out.at _ e;have:=HRb.out;omega⟩))
   have HJO:Hid (JOnly R base w W4):=lh ((JOnly.of HQ1.out).trans (JOnly.mk' HO4.out (fun g hg=>.inl (by simpa using hg))))
   go_upto_region 5 with (fail)
   refine wp_region_held_drew (S:=(fun wz=>wz.cell? ⟨R,0,none⟩=some (.int .i64 x0)∧wz.cell? ⟨R,1,none⟩=some (.int .i64 x1)∧wz.cell? ⟨R,2,none⟩=some (.int .i64 x2))) (by kernel_rfl) ?_ (fun hHeld=>?_)
   ·exact ⟨r0,r1,r2⟩
   refine tk 0 44 ?_
   refine tk 1 45 ?_
   refine tk 2 46 ?_
   refine tk 3 47 ?_
   refine tk 4 48 ?_
   refine tk 5 49 ?_
   refine tk 6 50 ?_
   refine tk 7 51 ?_
   refine rdy (rdc 8 52 (fun K hK=>?_) .nil)
   go_simp
   go_at_call 42
   refine (ghead_any _ _ _ _).mono ?_
   rintro e w5 ⟨rfl,hq5⟩
   have HQ5:Hid (Only [] W4 w5):=lh (by first | exact hq5 | exact ((Only.refl _ _).drew).q hq5 | exact ((Only.refl _ _).drew.drew).q hq5)
   clear hq5
   refine hK.out _ _ ?_ (fun hHeld=>?_)
   ·exact ⟨HQ5.out.cell r0 (by simp),HQ5.out.cell r1 (by simp),HQ5.out.cell r2 (by simp)⟩
   clear hK K
   try simp only [Act.put,List.setIfInBounds_toArray,List.set_cons_zero,List.set_cons_succ]
   refine tk 9 53 ?_
   refine wpAnyH_done (by kernel_rfl) ?_ _
   cases hh:headB x0 x1 x2 with
   | true =>
    have Hh:=lh hh
    clear hh
    go_wp2_with fail
    refine HPost.out _ _ (JoinP.good (k':=⟨x0,x1,x2,cs⟩) (by rw [HJ.out,if_pos Hh.out]) rfl (HJO.out.trans (JOnly.of HQ5.out)) rfl (HQ5.out.row HR4.out) (HOn4.out.quiet HQ5.out))
   | false =>
    have Hh:=lh hh
    clear hh
    go_wp2_with fail
    exact HPost.out _ _ (JoinP.bad (by rw [HJ.out,if_neg (by rw [Hh.out];decide)]) rfl (HJO.out.trans (JOnly.of HQ5.out)))
  ·have q2:(((ud.length:Nat):Int) == 3)=false:=by rw [beq_eq_false_iff_ne];omega
   have HJ:Hid (joinE 0 (⟨num,fst,cnt,cs⟩:Chunk) (⟨uk,ud,ua,ue⟩:UnitD)=.error 2):=lh (by unfold joinE;rw [if_pos rfl,if_neg (fun h=>h2 h.2.1)])
   obtain ⟨u0,u1,u2,u3⟩:=row4_cells HU1.out
   subst h1
   clear h2
   go_enter Tryz.func52,Tryz.ntmps52
   go_wp2_with fail
   exact HPost.out _ _ (JoinP.bad HJ.out rfl (JOnly.of HQ1.out))
 ·have q1:(uk == 32)=false:=by rw [beq_eq_false_iff_ne];exact h1
  have HJ:Hid (joinE 0 (⟨num,fst,cnt,cs⟩:Chunk) (⟨uk,ud,ua,ue⟩:UnitD)=.error 2):=lh (by unfold joinE;rw [if_pos rfl,if_neg (fun h=>h1 h.1)])
  obtain ⟨u0,u1,u2,u3⟩:=row4_cells HU1.out
  clear h1
  go_enter Tryz.func52,Tryz.ntmps52
  go_wp2_with fail
  exact HPost.out _ _ (JoinP.bad HJ.out rfl (JOnly.of HQ1.out))
theorem qGJoin0 {p:Prop} (h:p:=by
 clear hK K
 try simp only [Act.put,List.setIfInBounds_toArray,List.set_cons_zero,List.set_cons_succ]
 refine rdy (rdc 7 95 (fun K hK=>?_) .nil)
 refine wp_append_kD (.tmp 92) (.tmp 94) _ rfl ECd HO7.out rfl (m:=[⟨uk,ud⟩]) HCs.out HE7.out rfl Hby.out HB7.out (fun v1 w8 hown1 ho1=>?_)
 obtain ⟨x1,x1c,hx1⟩:=hown1.isSlice
 subst hx1
 rw [HL1.out] at hown1 ho1
 have hnr:∀ g,g∈(Value.slice ca cs.length cc).ownBlock.toList→base≤g:=fun g hg=>(HOX.out.at g (by simpa using hg)).1
 have HO8:=lh hown1
 have HA8:=lh ho1
 have HR8:=lh (ho1.only.rowAt HR7.out (fun hm=>by have:=hnr _ hm;have:=HRb.out;omega))
 have HT8:=lh (ho1.only.rowAt HT7.out (fun hm=>by have:=(HO.out.at _ (by simpa using hm)).2;have:=HTb.out;omega))
 clear hown1 ho1 hnr
 obtain ⟨r0,r1,r2,r3⟩:=row4_cells HR8.out
 have fz3:=frozen_of_row _ _ 3 _ _ HR8.out
 refine hK.out _ _ ?_ (fun hHeld=>?_)
 ·exact HT8.out
 clear hK K
 try simp only [Act.put,List.setIfInBounds_toArray,List.set_cons_zero,List.set_cons_succ]
 refine tkw 8 96 ⟨rfl,qGJoint1⟩ ?_
 refine tkw 9 97 ⟨rfl,qGJoint1⟩ ?_
 refine rdy (rdn 10 (fun K hK=>?_) .nil)
 go_simp
 refine hK.out _ _ ?_ (fun hHeld=>?_)
 ·exact ((Only.refl [R] w8).setCell (p:=⟨R,3,none⟩) (by simp) _).rowAt HT8.out (by rw [mSg];exact HTR.out)
 clear hK K
 try simp only [Act.put,List.setIfInBounds_toArray,List.set_cons_zero,List.set_cons_succ]
 refine wpAnyH_done (by kernel_rfl) ?_ _
 go_wp2_with fail
 have hr9:=heap_setCell_same _ R 3 _ _ (.slice x1 (cs.length+1) x1c) HR8.out
 have ho9:=(Only.refl [R] w8).setCell (p:=⟨R,3,none⟩) (by simp) (.slice x1 (cs.length+1) x1c)
 refine HPost.out _ _ (JoinP.good HJ.out rfl ?_ rfl hr9 ?_)
 ·exact JOnly.trans (JOnly.of (HQX.out.q HQ7.out)) (JOnly.trans (JOnly.mk' (show Only (Value.slice ca cs.length cc).ownBlock.toList w7 w8 from by first | exact HA8.out.only | exact ((Only.refl [] w7).drew).trans HA8.out.only (by simp) (fun g hg _=>hg)) (fun g hg=>.inr (HOX.out.at g (by simpa using hg)).1)) (JOnly.mk' ho9 (fun g hg=>.inl (by simpa using hg))))
 ·have h:=HO8.out.only' ho9 (fun g hg=>⟨.inl (by have h0:g=R:=(by simpa using hg);have h3:=HhR.out;omega),fun e=>by have h0:g=R:=(by simpa using hg);have h1:=(HO8.out.at _ e).1;have h2:=HRb.out;omega⟩)
  exact h):p:=h
theorem qGJoin1 {p:Prop} (h:p:=by
 go_wp2_with fail
 exact HPost.out _ _ (JoinP.bad HJ.out rfl (JOnly.of HQX.out))):p:=h
theorem joinN_any {R lo hi base n:Nat} {num fst cnt:Int} {cs:List Coded} {cv dv:Value} {uk:Int} {ud:List Int} {ua ue:Nat} {w:World} (hr:w.heap[R]?=some (.cells #[.int .i64 num,.int .i64 fst,.int .i64 cnt,cv] 26 (0,0))) (ho:OwnKD lo hi base w cv cs) (hb:R<base) (hhR:R<lo) (hbw:base≤w.heap.size)
  (hu:Ints .u8 lo hi w dv ud) (huk:InK .i64 uk) (hn0:n≠0) (hn:n≤100000000) (hcs:cs.length≤100000000) :
  Calls Tryz.prog 52 #[.pointer (some ⟨R,0,none⟩),.int .i64 n,.agg #[.int .i64 uk,dv,.int .i64 ua,.int .i64 ue]] w (JoinP R lo hi base (⟨num,fst,cnt,cs⟩:Chunk) n (⟨uk,ud,ua,ue⟩:UnitD) w):=by
 refine hidQ fun Q HPost=>?_
 obtain ⟨ca,cc,rfl⟩:=ho.isSlice
 obtain ⟨da,dc,rfl,-,-,hda,hdc⟩:=hu.open
 have HDa:=lh hda
 have HDc:=lh hdc
 have HU:=lh hu
 have HO:=lh ho
 have HR:=lh hr
 have HRb:=lh hb
 have HhR:Hid (R<lo):=lh hhR
 have HBw:=lh hbw
 have Huk:=lh huk
 have Hcs:=lh hcs
 have hq1:=Only.new w (.cells #[.int .i64 uk,.slice da ud.length dc,.int .i64 ua,.int .i64 ue] 105)
 have HQ1:=lh hq1
 have HU1:=lh (heap_alloc_new w (.cells #[.int .i64 uk,.slice da ud.length dc,.int .i64 ua,.int .i64 ue] 105))
 have HR1:=lh (hq1.row hr)
 have HZ1:Hid ((w.alloc (.cells #[.int .i64 uk,.slice da ud.length dc,.int .i64 ua,.int .i64 ue] 105)).heap.size=w.heap.size+1):=lh (by simp)
 have hRw:=block_lt_of_cell (row4_cells hr).1
 have HRw:Hid (R<w.heap.size):=lh hRw
 have hlu:(ud.length:Int)≤9223372036854775807:=by have:=hu.1.len_le;unfold maxLen at this;omega
 clear hr ho hb hhR hbw huk hcs hu hda hdc hq1 hRw
 have q0:(((n:Nat):Int) == 0)=false:=by rw [beq_eq_false_iff_ne];omega
 have HJ0:Hid (joinE n (⟨num,fst,cnt,cs⟩:Chunk) (⟨uk,ud,ua,ue⟩:UnitD)=if cnt<(n:Int) then .error 5 else if n=1∧firstB uk=false then .error 2 else match readB ⟨uk,ud⟩ with
  | some e=>.error e
  | none=>.ok ⟨num,fst,cnt,cs ++ [⟨uk,ud⟩]⟩):=lh (by unfold joinE;rw [if_neg hn0];rfl)
 obtain ⟨u0,u1,u2,u3⟩:=row4_cells HU1.out
 clear hn0 HDa HDc
 go_enter Tryz.func52,Tryz.ntmps52
 go_upto_region 9 with (fail)
 have hn2:=Only.new (w.alloc (.cells #[.int .i64 uk,.slice da ud.length dc,.int .i64 ua,.int .i64 ue] 105)) (.cells #[.int .i64 uk,.slice da ud.length dc] 69)
 have HQ2:=lh (HQ1.out.q hn2)
 have HT2:Hid (((w.alloc (.cells #[.int .i64 uk,.slice da ud.length dc,.int .i64 ua,.int .i64 ue] 105)).alloc (.cells #[.int .i64 uk,.slice da ud.length dc] 69)).heap[(w.heap.size+1)]?=some (.cells #[.int .i64 uk,.slice da ud.length dc] 69 (0,0))):=lh (heap_alloc_new' (by simp))
 have HR2:=lh (hn2.row HR1.out)
 have HU2:=lh (hn2.row HU1.out)
 have HZ2:Hid (((w.alloc (.cells #[.int .i64 uk,.slice da ud.length dc,.int .i64 ua,.int .i64 ue] 105)).alloc (.cells #[.int .i64 uk,.slice da ud.length dc] 69)).heap.size=w.heap.size+1+1):=lh (by simp)
 clear hn2 u0 u1 u2 u3
 generalize hW2:World.alloc (World.alloc w _) _=W2 at *
 clear hW2
 obtain ⟨T,hT⟩:∃ z,z=w.heap.size+1:=⟨_,rfl⟩
 rw [← hT] at HT2 ⊢
 have HTz:Hid (T=w.heap.size+1):=lh hT
 clear hT
 obtain ⟨t0,t1,-⟩:=row2 HT2.out
 have HRe:=lh (read_any (k:=uk) (l:=ud) (HU.out.quiet HQ2.out))
 have HTb:Hid (w.heap.size<T):=lh (by have:=HTz.out;omega)
 have HTR:Hid (T≠R):=lh (by have:=HTz.out;have:=HRw.out;omega)
 go_wp2_with fail
 clear t0 t1
 go_at_call 32
 refine HRe.out.mono ?_
 rintro e w3 hm
 unfold HeadOr at hm
 obtain ⟨ev,he,hq3,hrd⟩:∃ ev:Value×Value×Value,(e=.returned (.tuple #[.agg #[ev.1,ev.2.1,ev.2.2],codeV (readB ⟨uk,ud⟩)])∧∃ a b,ev.1=.int .i64 a∧ev.2.1=.int .i64 b∧∃ s m c,ev.2.2=.slice s m c)∧Only [] W2 w3∧True:=by
  obtain ⟨h1,h2⟩:=hm
  cases hrr:readB ⟨uk,ud⟩ with
  | some k =>
   rw [hrr] at h2
   exact ⟨(.int .i64 0,.int .i64 0,.slice none 0 0),⟨h2,_,_,rfl,rfl,_,_,_,rfl⟩,h1,trivial⟩
  | none =>
   rw [hrr] at h2
   obtain ⟨dv2,h3,h4⟩:=h2
   obtain ⟨a4,c4,rfl,-⟩:=h4.open
   exact ⟨(_,_,_),⟨h3,_,_,rfl,rfl,_,_,_,rfl⟩,h1,trivial⟩
 obtain ⟨ev0,ev1,ev2⟩:=ev
 obtain ⟨rfl,x3,x4,h5,h6,x5,x6,x7,h7⟩:=he
 simp only at h5 h6 h7
 subst h5;subst h6;subst h7
 generalize hRB:readB ⟨uk,ud⟩=RB at *
 clear hRB hrd HRe
 have hnX:=Only.new w3 (.cells #[.int .i64 x3,.int .i64 x4,.slice x5 x6 x7] 75)
 have HQX:=lh (HQ2.out.q (hq3.q hnX))
 have HRX:=lh ((hq3.q hnX).row HR2.out)
 have HTX:=lh ((hq3.q hnX).row HT2.out)
 have HUX:=lh ((hq3.q hnX).row HU2.out)
 clear hnX hq3
 go_upto_region 10 with (fail)
 generalize hWX:World.alloc w3 _=WX at *
 clear hWX
 have HOX:=lh (HO.out.quiet HQX.out)
 have HEX:Hid (ElKD lo hi WX [.int .i64 uk,.slice da ud.length dc] [⟨uk,ud⟩]):=lh (ElKD.one Huk.out (HU.out.quiet HQX.out))
 have HBX:Hid (base≤WX.heap.size):=lh (Nat.le_trans HBw.out HQX.out.size)
 have Hby:Hid ((cs.length+[(⟨uk,ud⟩:Coded)].length)*32≤140737488355328):=lh (by have:=Hcs.out;simp;omega)
 have HL1:Hid ((cs ++ [(⟨uk,ud⟩:Coded)]).length=cs.length+1):=lh (by simp)
 obtain ⟨r0,r1,r2,r3⟩:=row4_cells HRX.out
 obtain ⟨u0,u1,u2,u3⟩:=row4_cells HUX.out
 by_cases hcn:cnt<(n:Int)
 ·have HJ:Hid (joinE n (⟨num,fst,cnt,cs⟩:Chunk) (⟨uk,ud,ua,ue⟩:UnitD)=.error 5):=lh (by rw [HJ0.out,if_pos hcn])
  exact qGJoin1
 ·have HCn:=lh hcn
  clear hcn
  obtain ⟨sb,hsb⟩:∃ z,z=(decide (n=1) && !firstB uk):=⟨_,rfl⟩
  have HSb:=lh hsb
  clear hsb
  go_upto_region 12 with (fail)
  go_cut [74] (fun s74 wx=>s74=.bool sb∧WX=wx)
  case first =>
   by_cases h1:n=1
   ·subst h1
    have Hf:Hid (sb=!firstB uk):=lh (by rw [HSb.out];simp)
    clear HSb
    go_wp2_with fail
    go_at_call 43
    refine (gfirst_any _ _).mono ?_
    rintro e w5 ⟨rfl,hw5⟩
    first | subst hw5 | skip
    generalize firstB uk=fb at *
    cases fb
    all_goals
     go_wp2_with fail
     go_meet
     exact ⟨by rw [Hf.out];rfl,rfl⟩
   ·have q1:(((n:Nat):Int) == 1)=false:=by rw [beq_eq_false_iff_ne];omega
    have Hf:Hid (sb=false):=lh (by rw [HSb.out];simp [h1])
    clear h1
    go_wp2_with fail
    go_meet
    exact ⟨by rw [Hf.out],rfl⟩
  case rest =>
   obtain ⟨rfl,rfl⟩:=hcut
   cases sb with
   | true =>
    have HJ:Hid (joinE n (⟨num,fst,cnt,cs⟩:Chunk) (⟨uk,ud,ua,ue⟩:UnitD)=.error 2):=lh (by
     have h:=HSb.out
     simp at h
     rw [HJ0.out,if_neg HCn.out,if_pos h])
    exact qGJoin1
   | false =>
    have HNf:Hid (¬ (n=1∧firstB uk=false)):=lh (by
     have h:=HSb.out
     simp at h
     exact fun e=>by have:=h e.1;rw [e.2] at this;cases this)
    clear hm
    cases RB with
    | some k =>
     have HJ:Hid (joinE n (⟨num,fst,cnt,cs⟩:Chunk) (⟨uk,ud,ua,ue⟩:UnitD)=.error k):=lh (by rw [HJ0.out,if_neg HCn.out,if_neg HNf.out])
     simp only [codeV]
     exact qGJoin1
    | none =>
     have HJ:Hid (joinE n (⟨num,fst,cnt,cs⟩:Chunk) (⟨uk,ud,ua,ue⟩:UnitD)=.ok ⟨num,fst,cnt,cs ++ [⟨uk,ud⟩]⟩):=lh (by rw [HJ0.out,if_neg HCn.out,if_neg HNf.out])
     simp only [codeV]
     go_upto_region 16 with (fail)
     clear HJ0
     refine wp_region_held_drew (S:=(fun wz=>wz.heap[T]?=some (.cells #[.int .i64 uk,.slice da ud.length dc] 69 (0,0)))) (by kernel_rfl) ?_ (fun hHeld=>?_)
     ·first | exact HTX.out | exact jdrew HTX.out
     refine tkw 0 88 ⟨rfl,qGJoint1⟩ ?_
     refine tkw 1 89 ⟨rfl,qGJoint1⟩ ?_
     refine tkw 2 90 ⟨rfl,qGJoint1⟩ ?_
     refine tkw 3 91 ⟨rfl,qGJoint1⟩ ?_
     refine tkw 5 93 ⟨rfl,qGJoint1⟩ ?_
     refine rdy (rdc 4 92 (fun K hK=>?_) (rdc 6 94 (fun K hK=>?_) .nil))
     ·go_simp
      refine hK.out _ _ ?_ (fun hHeld=>?_)
      ·first | exact HT7.out | exact HTX.out | exact jdrew HTX.out | exact jdrew HT7.out
      clear hK K
      try simp only [Act.put,List.setIfInBounds_toArray,List.set_cons_zero,List.set_cons_succ]
      refine rdy (rdc 6 94 (fun K hK=>?_) .nil)
      go_simp
      generalize hW:World.alloc _ _=w7
      have q7:Only [] WX w7:=by rw [← hW];first | exact Only.new _ _ | exact ((Only.refl _ _).drew).q (Only.new _ _)
      have HCs:Hid (Cells 2 WX.heap.size (WX.heap.size+1) w7 (.slice (some ⟨WX.heap.size,0,none⟩) 1 1) 1 [.int .i64 uk,.slice da ud.length dc]):=lh (by rw [← hW];exact cells_newG rfl rfl (by simp [maxLen]) (by simp))
      have HQ7:=lh q7
      have HR7:=lh (q7.row HRX.out)
      have HT7:=lh (q7.row HTX.out)
      have HO7:=lh (HOX.out.quiet q7)
      have HE7:=lh (HEX.out.only q7 (by simp))
      have HB7:Hid (base≤w7.heap.size):=lh (Nat.le_trans HBX.out q7.size)
      clear hW q7
      obtain ⟨r0,r1,r2,r3⟩:=row4_cells HR7.out
      refine hK.out _ _ ?_ (fun hHeld=>?_)
      ·exact HT7.out
      exact qGJoin0
     ·go_simp
      generalize hW:World.alloc _ _=w7
      have q7:Only [] WX w7:=by rw [← hW];first | exact Only.new _ _ | exact ((Only.refl _ _).drew).q (Only.new _ _)
      have HCs:Hid (Cells 2 WX.heap.size (WX.heap.size+1) w7 (.slice (some ⟨WX.heap.size,0,none⟩) 1 1) 1 [.int .i64 uk,.slice da ud.length dc]):=lh (by rw [← hW];exact cells_newG rfl rfl (by simp [maxLen]) (by simp))
      have HQ7:=lh q7
      have HR7:=lh (q7.row HRX.out)
      have HT7:=lh (q7.row HTX.out)
      have HO7:=lh (HOX.out.quiet q7)
      have HE7:=lh (HEX.out.only q7 (by simp))
      have HB7:Hid (base≤w7.heap.size):=lh (Nat.le_trans HBX.out q7.size)
      clear hW q7
      obtain ⟨r0,r1,r2,r3⟩:=row4_cells HR7.out
      refine hK.out _ _ ?_ (fun hHeld=>?_)
      ·exact HT7.out
      clear hK K
      try simp only [Act.put,List.setIfInBounds_toArray,List.set_cons_zero,List.set_cons_succ]
      refine rdy (rdc 4 92 (fun K hK=>?_) .nil)
      go_simp
      refine hK.out _ _ ?_ (fun hHeld=>?_)
      ·first | exact HT7.out | exact HTX.out | exact jdrew HTX.out | exact jdrew HT7.out
      exact qGJoin0
theorem join_any {R lo hi base n:Nat} {num fst cnt:Int} {cs:List Coded} {cv dv:Value} {uk:Int} {ud:List Int} {ua ue:Nat} {w:World} (hr:w.heap[R]?=some (.cells #[.int .i64 num,.int .i64 fst,.int .i64 cnt,cv] 26 (0,0))) (ho:OwnKD lo hi base w cv cs) (hb:R<base) (hhR:R<lo) (hbw:base≤w.heap.size)
  (hu:Ints .u8 lo hi w dv ud) (huk:InK .i64 uk) (hn:n≤100000000) (hcs:cs.length≤100000000) :
  Calls Tryz.prog 52 #[.pointer (some ⟨R,0,none⟩),.int .i64 n,.agg #[.int .i64 uk,dv,.int .i64 ua,.int .i64 ue]] w (JoinP R lo hi base (⟨num,fst,cnt,cs⟩:Chunk) n (⟨uk,ud,ua,ue⟩:UnitD) w):=by
 by_cases h:n=0
 ·subst h;exact join0_any hr ho hb hhR hbw hu huk hcs
 ·exact joinN_any hr ho hb hhR hbw hu huk h hn hcs
end
/-- what gop.Parse hands back -/
def ParseP (l:List Int) (w:World) (e:Ending) (w':World):Prop :=
 Only [] w w'∧∃ U E,SplAt l E 0 U∧match parseE U E with
  | .ok k=>∃ a cap,e=.returned (.tuple #[.agg #[.int .i64 k.number,.int .i64 k.first,.int .i64 k.count,.slice a k.coded.length cap],.nilIface])∧CodedsAt w.heap.size w'.heap.size w' (.slice a k.coded.length cap) k.coded
  | .error er=>∃ ev,e=.returned (.tuple #[.agg #[.int .i64 0,.int .i64 0,.int .i64 0,.slice none 0 0],ev])∧ErrV w.heap.size w'.heap.size w' ev er
theorem ParseP.bad {l:List Int} {w w':World} {e:Ending} {U:List UnitD} {E:Option Err} {er:Err} {ev:Value} (o:Only [] w w') (hs:SplAt l E 0 U) (hp:parseE U E=.error er) (he:e=.returned (.tuple #[.agg #[.int .i64 0,.int .i64 0,.int .i64 0,.slice none 0 0],ev])) (hv:ErrV w.heap.size w'.heap.size w' ev er):ParseP l w e w':=by
 refine ⟨o,U,E,hs,?_⟩
 rw [hp]
 exact ⟨ev,he,hv⟩
theorem ParseP.good {l:List Int} {w w':World} {e:Ending} {U:List UnitD} {E:Option Err} {k:Chunk} {a:Option Addr} {cap:Nat} (o:Only [] w w') (hs:SplAt l E 0 U) (hp:parseE U E=.ok k) (he:e=.returned (.tuple #[.agg #[.int .i64 k.number,.int .i64 k.first,.int .i64 k.count,.slice a k.coded.length cap],.nilIface])) (hv:CodedsAt w.heap.size w'.heap.size w' (.slice a k.coded.length cap) k.coded):ParseP l w e w':=by
 refine ⟨o,U,E,hs,?_⟩
 rw [hp]
 exact ⟨a,cap,he,hv⟩
theorem JOnly.out {R base:Nat} {w a b:World} (h:Only [] w a) (j:JOnly R base a b) (hR:w.heap.size≤R) (hb:w.heap.size≤base):Only [] w b:=by
 obtain ⟨S,h1,h2⟩:=j
 exact h.trans h1 (by simp) (fun g hg hlt=>by rcases h2 g hg with e | e <;> omega)
theorem JOnly.size {R base:Nat} {a b:World} (j:JOnly R base a b):a.heap.size≤b.heap.size:=by obtain ⟨S,h1,h2⟩:=j;exact h1.size
theorem JOnly.row {R base g:Nat} {a b:World} {o:Obj} (j:JOnly R base a b) (h:a.heap[g]?=some o) (hg:g≠R) (hb:g<base):b.heap[g]?=some o:=by
 obtain ⟨S,h1,h2⟩:=j
 exact h1.rowAt h (fun hm=>by rcases h2 g hm with e | e <;> omega)
theorem row4_set {w:World} {g:Nat} {a b c d x y z t:Value} {ty:TypeId} (h:w.heap[g]?=some (.cells #[a,b,c,d] ty (0,0))) :
  ((((w.setCell ⟨g,0,none⟩ x).setCell ⟨g,1,none⟩ y).setCell ⟨g,2,none⟩ z).setCell ⟨g,3,none⟩ t).heap[g]?=some (.cells #[x,y,z,t] ty (0,0))∧Only [g] w ((((w.setCell ⟨g,0,none⟩ x).setCell ⟨g,1,none⟩ y).setCell ⟨g,2,none⟩ z).setCell ⟨g,3,none⟩ t):=by
 have h1:=heap_setCell_same w g 0 _ _ x h
 have h2:=heap_setCell_same _ g 1 _ _ y h1
 have h3:=heap_setCell_same _ g 2 _ _ z h2
 have h4:=heap_setCell_same _ g 3 _ _ t h3
 exact ⟨h4,((((Only.refl _ _).setCell (by simp) _).setCell (by simp) _).setCell (by simp) _).setCell (by simp) _⟩
section
theorem qGParse0 {p:Prop} (h:p:=by
 clear h0
 go_wp2_with fail
 go_at_call 53
 refine (in_any _ _ (ErrV.code wr.heap.size wr.heap.size wr 1) (Nat.le_refl _) (Nat.le_refl _)).mono ?_
 rintro e w9 ⟨v9,rfl,he9,hq9⟩
 have HE9:=lh he9
 have HQ9:=lh hq9
 have HD9:=lh (hq9.row HD.out)
 obtain ⟨et9,eu9,rfl⟩:=he9.held
 clear he9 hq9
 obtain ⟨z0,z1,z2,z3⟩:=row4_cells HD9.out
 have f0:=frozen_of_row _ _ 0 _ _ HD9.out
 have f1:=frozen_of_row _ _ 1 _ _ HD9.out
 have f2:=frozen_of_row _ _ 2 _ _ HD9.out
 have f3:=frozen_of_row _ _ 3 _ _ HD9.out
 obtain ⟨hrow',hon'⟩:=row4_set (x:=.int .i64 0) (y:=.int .i64 0) (z:=.int .i64 0) (t:=.slice none 0 0) HD9.out
 have hRow:=lh hrow'
 have HOn:=lh hon'
 clear hrow' hon'
 go_wp2_with fail
 have hrow:=hRow.out
 refine bodyPost_ret (v:=.tuple #[.agg #[.int .i64 0,.int .i64 0,.int .i64 0,.slice none 0 0],.iface et9 eu9]) (results_cell_row2 Tryz.results23 _ _ (w.heap.size) _ _ _ _ _ rfl rfl hrow Tryz.underlying26 rfl (by kernel_rfl)) rfl (HPost.out _ _ ?_)
 exact ParseP.bad ((HQ.out.q HQ9.out).trans HOn.out (by simp) (fun g hg hlt=>by rw [mSg] at hg;omega)) HSpl.out HPe.out rfl ((HE9.out.only HOn.out (fun g hg=>by rw [mSg] at hg;have:=HZr.out;omega)).mono (Nat.le_of_lt HZr.out) HOn.out.size)):p:=h
theorem gparse_any {lo hi:Nat} {v:Value} {l:List Int} {w:World} (h:Ints .u8 lo hi w v l) (hl:l.length≤100000000) :
  Calls Tryz.prog 23 #[v] w (ParseP l w):=by
 refine hidQ fun Q HPost=>?_
 have HSp:=lh (fun (W:World) (o:Only [] w W)=>gsplit_any (h.quiet o) hl)
 have Hin:=lh h.2
 have Hl:=lh hl
 obtain ⟨a,cap,rfl,-⟩:=h.open
 obtain ⟨hb,HD2,HR2,HZ2⟩:=boxes2 w (.cells #[.int .i64 0,.int .i64 0,.int .i64 0,.slice none 0 0] 26) (.cells #[.int .i64 0,.int .i64 0,.int .i64 0,.slice none 0 0] 26)
 have HQ2:=lh hb
 clear h hl hb
 go_enter Tryz.func23,Tryz.ntmps23
 go_wp2_with fail
 generalize hW2:World.alloc (World.alloc w _) _=W2 at *
 clear hW2
 go_at_call 51
 refine (HSp.out _ HQ2.out).mono ?_
 rintro e w3 ⟨hq3,U,E,ua,uc,ev,rfl,hspl,hun,herr,hul⟩
 have HSpl:=lh hspl
 have HKd:=lh (spl_kind Hin.out hspl (Nat.zero_le _))
 have HQ3:=lh (HQ2.out.q hq3)
 have HD3:=lh (hq3.row HD2.out)
 have HR3:=lh (hq3.row HR2.out)
 have HUn:=lh hun
 have HEr:=lh herr
 have hz3:=hq3.size
 have hz2:=HZ2.out
 have HZ3:Hid (W2.heap.size=w.heap.size+1+1∧W2.heap.size≤w3.heap.size∧U.length≤100000000):=lh ⟨hz2,hz3,by have:=Hl.out;omega⟩
 have hUl:(U.length:Int)≤9223372036854775807:=by have:=Hl.out;omega
 clear hspl hq3 hun herr hul hz3 hz2 HSp
 go_wp2_with fail
 go_loopw [18,7,8,9] (fun i _ _ _ wr=>∃ (k:Nat) (c:Chunk) (cv:Value),k≤U.length∧i=.int .i64 k∧Hid (parseGo (U.drop k) k c=parseGo U 0 chunk0)∧Hid (wr.heap[w.heap.size+1]?=some (.cells #[.int .i64 c.number,.int .i64 c.first,.int .i64 c.count,cv] 26 (0,0)))∧Hid (OwnKD W2.heap.size w3.heap.size w3.heap.size wr cv c.coded)∧Hid (JOnly (w.heap.size+1) w3.heap.size w3 wr)∧Hid (c.coded.length≤k)) (fun i _ _ _ _=>U.length-(intOf i).toNat)
 case atStart=>exact ⟨0,chunk0,.slice none 0 0,by omega,rfl,lh rfl,HR3,lh (OwnKD.nil (Nat.le_refl _) _),lh (JOnly.of (Only.refl _ _)),lh (by simp [chunk0])⟩
 case round =>
  obtain ⟨k,c,cv,hk,rfl,HGo,HR,HO,HJ,HCl⟩:=hrel
  have HQ:Hid (Only [] w wr):=lh (JOnly.out HQ3.out HJ.out (by omega) HQ3.out.size)
  have HD:Hid (wr.heap[w.heap.size]?=some (.cells #[.int .i64 0,.int .i64 0,.int .i64 0,.slice none 0 0] 26 (0,0))):=lh (HJ.out.row HD3.out (by omega) (by have:=HZ3.out;omega))
  have HUr:Hid (UnitsAt W2.heap.size w3.heap.size wr (.slice ua U.length uc) U):=lh (by
   obtain ⟨S,h1,h2⟩:=HJ.out
   exact HUn.out.only h1 (fun g hg=>by have:=HZ3.out;rcases h2 g hg with e | e <;> omega))
  have HZ:Hid (w3.heap.size≤wr.heap.size):=lh HJ.out.size
  by_cases hlt:k<U.length
  ·have hki:(k:Int)<(U.length:Int):=by omega
   have hk0:(0:Int)≤(k:Int):=by omega
   obtain ⟨ua',uc',hue,-,-,hat⟩:=HUr.out.open
   injection hue with e1 e2 e3
   subst e1;subst e3
   obtain ⟨b,off,dv,rfl,-,-,c0,c1,c2,c3,hd⟩:=hat k U[k] (List.getElem?_eq_getElem hlt)
   have hgo:=HGo.out
   rw [List.drop_eq_getElem_cons hlt] at hgo
   have hkd:=HKd.out U[k] (List.getElem_mem _)
   generalize U[k]=u at *
   obtain ⟨da,dc,rfl,-⟩:=hd.open
   have hn:=Only.new wr (.cells #[.int .i64 u.kind,.slice da u.data.length dc,.int .i64 u.at_,.int .i64 u.end_] 105)
   have HJo:=lh (join_any (n:=k) (ua:=u.at_) (ue:=u.end_) (hn.row HR.out) (HO.out.quiet hn) (by have:=HZ3.out;omega) (by have:=HZ3.out;omega) (Nat.le_trans HZ.out hn.size) (hd.quiet hn) (uk:=u.kind) ⟨by omega,by omega⟩ (by have:=HZ3.out;omega) (by have:=HCl.out;have:=HZ3.out;omega))
   have HGo2:=lh hgo
   have HQ4:=lh (HQ.out.q hn)
   have HD4:=lh (hn.row HD.out)
   have HJ4:=lh (HJ.out.trans (JOnly.of hn))
   have HR4:=lh (hn.row HR.out)
   clear hat hd hgo hkd hn
   go_wp2_with fail
   clear c0 c1 c2 c3
   generalize hW4:World.alloc wr _=W4 at *
   clear hW4
   go_at_call 52
   refine HJo.out.mono ?_
   rintro e w5 ⟨hj5,hm⟩
   have HJ5:=lh (HJ4.out.trans hj5)
   have HQ5:Hid (Only [] w w5):=lh (JOnly.out HQ4.out hj5 (by omega) (by have:=HQ3.out.size;omega))
   have HD5:=lh (hj5.row HD4.out (by omega) (by have:=HZ3.out;omega))
   have HZ5:Hid (w.heap.size<w5.heap.size):=lh (by have:=HQ4.out.size;have:=hj5.size;have:=block_lt_of_cell (row4_cells HD5.out).1;exact this)
   clear hj5
   rw [show (⟨c.number,c.first,c.count,c.coded⟩:Chunk)=c from rfl,show (⟨u.kind,u.data,u.at_,u.end_⟩:UnitD)=u from rfl] at hm
   cases hje:joinE k c u with
   | error er =>
    rw [hje] at hm
    obtain rfl:=hm
    have HPe:Hid (parseE U E=.error (inE sGop k ⟨[],er⟩)):=lh (parseE_bad (by rw [← HGo2.out,parseGo_bad hje];rfl))
    clear hje
    go_wp2_with fail
    go_at_call 53
    refine (in_any _ _ (ErrV.code w5.heap.size w5.heap.size w5 er) (Nat.le_refl _) (Nat.le_refl _)).mono ?_
    rintro e w9 ⟨v9,rfl,he9,hq9⟩
    have HE9:=lh he9
    have HQ9:=lh hq9
    have HD9:=lh (hq9.row HD5.out)
    obtain ⟨et9,eu9,rfl⟩:=he9.held
    clear he9 hq9
    obtain ⟨z0,z1,z2,z3⟩:=row4_cells HD9.out
    have f0:=frozen_of_row _ _ 0 _ _ HD9.out
    have f1:=frozen_of_row _ _ 1 _ _ HD9.out
    have f2:=frozen_of_row _ _ 2 _ _ HD9.out
    have f3:=frozen_of_row _ _ 3 _ _ HD9.out
    obtain ⟨hrow',hon'⟩:=row4_set (x:=.int .i64 0) (y:=.int .i64 0) (z:=.int .i64 0) (t:=.slice none 0 0) HD9.out
    have hRow:=lh hrow'
    have HOn:=lh hon'
    clear hrow' hon'
    go_wp2_with fail
    have hrow:=hRow.out
    refine bodyPost_ret (v:=.tuple #[.agg #[.int .i64 0,.int .i64 0,.int .i64 0,.slice none 0 0],.iface et9 eu9]) (results_cell_row2 Tryz.results23 _ _ (w.heap.size) _ _ _ _ _ rfl rfl hrow Tryz.underlying26 rfl (by kernel_rfl)) rfl (HPost.out _ _ ?_)
    exact ParseP.bad ((HQ5.out.q HQ9.out).trans HOn.out (by simp) (fun g hg hlt=>by rw [mSg] at hg;omega)) HSpl.out HPe.out rfl ((HE9.out.only HOn.out (fun g hg=>by rw [mSg] at hg;have:=HZ5.out;omega)).mono HQ5.out.size HOn.out.size)
   | ok c2 =>
    rw [hje] at hm
    obtain ⟨rfl,cv2,hr2,ho2⟩:=hm
    have HGo3:Hid (parseGo (U.drop (k+1)) (k+1) c2=parseGo U 0 chunk0):=lh (by rw [← HGo2.out,parseGo_more hje])
    have HCl2:Hid (c2.coded.length≤k+1):=lh (by have:=joinE_len hje;have:=HCl.out;omega)
    have HR5:=lh hr2
    have HO5:=lh ho2
    clear hje hr2 ho2
    go_wp2_with fail
    exact ⟨⟨k+1,c2,cv2,by omega,by go_num,HGo3,HR5,HO5,HJ5,HCl2⟩,by simp [intOf];omega⟩
  ·obtain rfl:k=U.length:=by omega
   have hx:¬ (U.length:Int)<(U.length:Int):=by omega
   have HPk:Hid (parseGo U 0 chunk0=.ok c):=lh (by rw [← HGo.out,List.drop_length,parseGo])
   clear HGo
   obtain ⟨r0,r1,r2,r3⟩:=row4_cells HR.out
   cases E with
   | some er =>
    have hev:ErrV W2.heap.size w3.heap.size wr ev er:=by
     obtain ⟨S,h1,h2⟩:=HJ.out
     exact ErrV.only HEr.out h1 (fun g hg=>by have:=HZ3.out;rcases h2 g hg with e | e <;> omega)
    obtain ⟨et,eu,rfl⟩:=hev.held
    have HEv:=lh hev
    have HPe:Hid (parseE U (some er)=.error (inE sGop U.length er)):=lh (parseE_end HPk.out rfl)
    clear hev
    go_wp2_with fail
    go_at_call 53
    refine (in_any _ _ HEv.out (by have:=HZ.out;omega) (by have:=HZ3.out;have:=HZ.out;omega)).mono ?_
    rintro e w9 ⟨v9,rfl,he9,hq9⟩
    have HE9:=lh he9
    have HQ9:=lh hq9
    have HD9:=lh (hq9.row HD.out)
    obtain ⟨et9,eu9,rfl⟩:=he9.held
    clear he9 hq9
    obtain ⟨z0,z1,z2,z3⟩:=row4_cells HD9.out
    have f0:=frozen_of_row _ _ 0 _ _ HD9.out
    have f1:=frozen_of_row _ _ 1 _ _ HD9.out
    have f2:=frozen_of_row _ _ 2 _ _ HD9.out
    have f3:=frozen_of_row _ _ 3 _ _ HD9.out
    obtain ⟨hrow',hon'⟩:=row4_set (x:=.int .i64 0) (y:=.int .i64 0) (z:=.int .i64 0) (t:=.slice none 0 0) HD9.out
    have hRow:=lh hrow'
    have HOn:=lh hon'
    clear hrow' hon'
    go_wp2_with fail
    have hrow:=hRow.out
    refine bodyPost_ret (v:=.tuple #[.agg #[.int .i64 0,.int .i64 0,.int .i64 0,.slice none 0 0],.iface et9 eu9]) (results_cell_row2 Tryz.results23 _ _ (w.heap.size) _ _ _ _ _ rfl rfl hrow Tryz.underlying26 rfl (by kernel_rfl)) rfl (HPost.out _ _ ?_)
    exact ParseP.bad ((HQ.out.q HQ9.out).trans HOn.out (by simp) (fun g hg hlt=>by rw [mSg] at hg;omega)) HSpl.out HPe.out rfl ((HE9.out.only HOn.out (fun g hg=>by rw [mSg] at hg;have:=HZ3.out;omega)).mono (by have:=HZ3.out;omega) HOn.out.size)
   | none =>
    obtain rfl:=HEr.out
    have HZr:Hid (w.heap.size<wr.heap.size):=lh (block_lt_of_cell (row4_cells HD.out).1)
    by_cases h0:U.length=0
    ·have HPe:Hid (parseE U none=.error (inE sGop U.length ⟨[],1⟩)):=lh (parseE_end HPk.out (by unfold endE;simp only [];rw [if_pos (.inl h0)]))
     obtain rfl:U=[]:=List.eq_nil_of_length_eq_zero h0
     exact qGParse0
    ·have q0:((U.length:Int) == 0)=false:=by rw [beq_eq_false_iff_ne];omega
     by_cases hc:(U.length:Int)≤c.count
     ·have HPe:Hid (parseE U none=.error (inE sGop U.length ⟨[],1⟩)):=lh (parseE_end HPk.out (by unfold endE;simp only [];rw [if_pos (.inr hc)]))
      exact qGParse0
     ·have HPg:Hid (parseE U none=.ok c):=lh (parseE_good HPk.out (by unfold endE;simp only [];rw [if_neg (by rintro (e | e);exact h0 e;exact hc e)]))
      obtain ⟨ca,cc,rfl⟩:=HO.out.isSlice
      clear h0
      obtain ⟨z0,z1,z2,z3⟩:=row4_cells HD.out
      have f0:=frozen_of_row _ _ 0 _ _ HD.out
      have f1:=frozen_of_row _ _ 1 _ _ HD.out
      have f2:=frozen_of_row _ _ 2 _ _ HD.out
      have f3:=frozen_of_row _ _ 3 _ _ HD.out
      obtain ⟨hrow',hon'⟩:=row4_set (x:=.int .i64 c.number) (y:=.int .i64 c.first) (z:=.int .i64 c.count) (t:=.slice ca c.coded.length cc) HD.out
      have hRow:=lh hrow'
      have HOn:=lh hon'
      clear hrow' hon'
      go_wp2_with fail
      have hrow:=hRow.out
      refine bodyPost_ret (v:=.tuple #[.agg #[.int .i64 c.number,.int .i64 c.first,.int .i64 c.count,.slice ca c.coded.length cc],.nilIface]) (results_cell_row2 Tryz.results23 _ _ (w.heap.size) _ _ _ _ _ rfl rfl hrow Tryz.underlying26 rfl (by kernel_rfl)) rfl (HPost.out _ _ ?_)
      have hcd:=HO.out.codeds (by have:=HZ3.out;omega) HZ.out
      exact ParseP.good (HQ.out.trans HOn.out (by simp) (fun g hg hlt=>by rw [mSg] at hg;omega)) HSpl.out HPg.out rfl ((hcd.only HOn.out (fun g hg=>by rw [mSg] at hg;have:=HZ3.out;omega)).mono (by have:=HZ3.out;omega) HOn.out.size)
end
end Go.Proofs.YtkigikallkpbcaaGreatDoor
