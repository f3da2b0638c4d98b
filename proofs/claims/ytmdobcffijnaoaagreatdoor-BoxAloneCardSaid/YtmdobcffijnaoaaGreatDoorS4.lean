/- Joined texts: DLayB, DLayM. Conditions: each part names its own. -/
import Derived.Test.YtmdobcffijnaoaaGreatDoorT1
import Derived.Test.YtmdobcffijnaoaaGreatDoorS8
import Derived.Test.YtmdobcffijnaoaaGreatDoorS6
namespace Go.Proofs.YtmdobcffijnaoaaGreatDoor
open Go.RowKit
set_option linter.unusedVariables false
set_option linter.unusedSimpArgs false
set_option maxRecDepth 100000
set_option maxHeartbeats 16000000
/-- what laying a square wants of memory -/
structure LayIn (base g cap lo1 hi1 lo hi:Nat) (w:World) (f prev:FrameD) (pv:Value) (s:SqD) (lv:Value) (vs:List Value):Prop where
 own:Own .i64 3 base w (.slice (some ⟨g,0,none⟩) f.pix.length cap) f.pix
 prev:Ints .i64 lo1 hi1 w pv prev.pix
 sq:SqIn lo hi w lv vs s.large s.small
 apart:g<lo∨hi≤g
theorem SqIn.open {lo hi:Nat} {w:World} {lv:Value} {vs:List Value} {L:List Int} {S:List (List Int)} (h:SqIn lo hi w lv vs L S):∃ la lcap a0 c0 a1 c1 a2 c2 a3 c3,lv=.slice la L.length lcap∧vs=[.slice a0 (S.getD 0 []).length c0,.slice a1 (S.getD 1 []).length c1,.slice a2 (S.getD 2 []).length c2,.slice a3 (S.getD 3 []).length c3]:=by
 obtain ⟨la,lcap,e,-⟩:=h.large.open
 obtain ⟨v0,v1,v2,v3,rfl⟩:=len4 h.len
 obtain ⟨a0,c0,e0,-⟩:=(h.small 0 (by omega)).open
 obtain ⟨a1,c1,e1,-⟩:=(h.small 1 (by omega)).open
 obtain ⟨a2,c2,e2,-⟩:=(h.small 2 (by omega)).open
 obtain ⟨a3,c3,e3,-⟩:=(h.small 3 (by omega)).open
 have f0:v0=_:=e0
 have f1:v1=_:=e1
 have f2:v2=_:=e2
 have f3:v3=_:=e3
 exact ⟨la,lcap,a0,c0,a1,c1,a2,c2,a3,c3,e,by rw [f0,f1,f2,f3]⟩
theorem small_ok {f:FrameD} {s:SqD} {x y:Int} (hf:FrOk f) (hs:∀ i,i<4→(s.small.getD i []).length=16∧LevOk (s.small.getD i [])) (hx:0≤x) (hxn:x+8≤f.W) (hy:0≤y) (hyn:y+8≤f.H) (q:Nat) :
  ∀ k,k≤4→FrOk ((List.range k).foldl (smallD x y q s) f)∧((List.range k).foldl (smallD x y q s) f).W=f.W∧((List.range k).foldl (smallD x y q s) f).H=f.H
 | 0,_=>⟨hf,rfl,rfl⟩
 | k+1,hk=>by
  obtain ⟨a,b,c⟩:=small_ok hf hs hx hxn hy hyn q k (by omega)
  rw [List.range_succ,List.foldl_append]
  generalize (List.range k).foldl (smallD x y q s) f=F at *
  exact ⟨(show FrOk (oneD F (x+((k % 2:Nat):Int)*4) (y+((k / 2:Nat):Int)*4) 4 (s.modes.getD k 0) q (s.small.getD k [])) from oneD_ok a (by omega) (by omega) (by omega) (by omega) (hs k (by omega)).1 (by omega) _ _),b,c⟩
theorem qDLayMt0 {p:Prop} (h:p:=by intro wz hSw;(try dsimp only at hSw);obtain ⟨hSa,hSb⟩:=hSw;obtain ⟨p0,p1,p2⟩:=frame_cells hSa;obtain ⟨p3,p4,p5⟩:=frame_cells hSb;go_simp;try with_reducible rfl):p:=h
theorem qDLayMt1 {p:Prop} (h:p:=by intro wz hSw;(try dsimp only at hSw);obtain ⟨hSa,hSb,hSc⟩:=hSw;obtain ⟨p0,p1,p2⟩:=frame_cells hSa;obtain ⟨p3,p4,p5⟩:=frame_cells hSb;have p6:wz.cell? ⟨w.heap.size+1+1,6,none⟩=some (.int .i64 s.vx):=(by rw [cell_of_row _ _ _ _ _ _ hSc];rfl);have p7:wz.cell? ⟨w.heap.size+1+1,7,none⟩=some (.int .i64 s.vy):=(by rw [cell_of_row _ _ _ _ _ _ hSc];rfl);have p8:wz.cell? ⟨w.heap.size+1+1,8,none⟩=some (.slice la s.large.length lcap):=(by rw [cell_of_row _ _ _ _ _ _ hSc];rfl);go_simp;try with_reducible rfl):p:=h
theorem qDLayMt2 {p:Prop} (h:p:=by intro wz hSw;(try dsimp only at hSw);obtain ⟨hSa,hSc⟩:=hSw;obtain ⟨p0,p1,p2⟩:=frame_cells hSa;have p6:wz.cell? ⟨w.heap.size+1+1,2,none⟩=some (.int .i64 m0):=(by rw [cell_of_row _ _ _ _ _ _ hSc];rfl);go_simp;try with_reducible rfl):p:=h
theorem qDLayMt3 {p:Prop} (h:p:=by intro wz hSw;(try dsimp only at hSw);obtain ⟨hSa,hSc⟩:=hSw;obtain ⟨p0,p1,p2⟩:=frame_cells hSa;have p6:wz.cell? ⟨w.heap.size+1+1,3,none⟩=some (.int .i64 m1):=(by rw [cell_of_row _ _ _ _ _ _ hSc];rfl);go_simp;try with_reducible rfl):p:=h
theorem qDLayMt4 {p:Prop} (h:p:=by intro wz hSw;(try dsimp only at hSw);obtain ⟨hSa,hSc⟩:=hSw;obtain ⟨p0,p1,p2⟩:=frame_cells hSa;have p6:wz.cell? ⟨w.heap.size+1+1,4,none⟩=some (.int .i64 m2):=(by rw [cell_of_row _ _ _ _ _ _ hSc];rfl);go_simp;try with_reducible rfl):p:=h
theorem qDLayMt5 {p:Prop} (h:p:=by intro wz hSw;(try dsimp only at hSw);obtain ⟨hSa,hSc⟩:=hSw;obtain ⟨p0,p1,p2⟩:=frame_cells hSa;have p6:wz.cell? ⟨w.heap.size+1+1,5,none⟩=some (.int .i64 m3):=(by rw [cell_of_row _ _ _ _ _ _ hSc];rfl);go_simp;try with_reducible rfl):p:=h
/-- a square that may be laid: good in what its kind asks -/
structure SqMay (s:SqD):Prop where
 kind:s.kind≤3
 mode:s.kind=2→s.mode≤3
 large:s.kind=1∨s.kind=2→s.large.length=64∧LevOk s.large
 vec:s.kind=1→-15≤s.vx∧s.vx≤15∧-15≤s.vy∧s.vy≤15
 small:s.kind=3→s.modes.length=4∧s.small.length=4∧(∀ x∈s.modes,0≤x∧x≤3)∧∀ l∈s.small,l.length=16∧LevOk l
section
variable {base g cap lo1 hi1 lo hi:Nat} {w:World} {f prev:FrameD} {pv:Value} {s:SqD} {lv:Value} {vs:List Value} {x y:Int} {q:Nat} {mo:Int}
theorem lay_m0 (hk:s.kind=0) (hf:FrOk f) (h:LayIn base g cap lo1 hi1 lo hi w f prev pv s lv vs) (hpr:FrOk prev) (hs:SqMay s) (hml:s.modes.length=4) (hq:q≤15) (hx:0≤x) (hxn:x+8≤f.W) (hy:0≤y) (hyn:y+8≤f.H) :
  Calls Tryz.prog 53 #[.agg #[.int .i64 f.W,.int .i64 f.H,.slice (some ⟨g,0,none⟩) f.pix.length cap],.agg #[.int .i64 prev.W,.int .i64 prev.H,pv],.int .i64 x,.int .i64 y,.int .i64 q,.agg (sqL s.kind mo s.modes s.vx s.vy lv vs).toArray] w fun e w'=>e=.returned (.tuple #[])∧Own .i64 3 base w' (.slice (some ⟨g,0,none⟩) f.pix.length cap) (laySq f prev x y q s).pix∧Only [g] w w':=by
 refine hidQ fun Q HPost=>?_
 rw [hk]
 have HgL:=lh ((h.own.at g rfl).2)
 obtain ⟨pa,pcap,rfl,-⟩:=h.prev.open
 obtain ⟨la,lcap,a0,c0,a1,c1,a2,c2,a3,c3,rfl,rfl⟩:=h.sq.open
 obtain ⟨m0,m1,m2,m3,hms⟩:=len4 hml
 have Hms:=lh hms
 rw [hms]
 simp only [sqL,List.map_cons,List.map_nil,List.cons_append,List.nil_append,List.append_nil]
 rw [show ((0:Nat):Int)=0 from rfl]
 generalize hn0:(s.small.getD 0 []).length=n0 at h ⊢
 generalize hn1:(s.small.getD 1 []).length=n1 at h ⊢
 generalize hn2:(s.small.getD 2 []).length=n2 at h ⊢
 generalize hn3:(s.small.getD 3 []).length=n3 at h ⊢
 have Hns:=lh (And.intro hn0 (And.intro hn1 (And.intro hn2 hn3)))
 clear hn0 hn1 hn2 hn3
 obtain ⟨hq1,HB0,HB1,HB2,-⟩:=boxes3 w (.cells #[.int .i64 f.W,.int .i64 f.H,.slice (some ⟨g,0,none⟩) f.pix.length cap] 70) (.cells #[.int .i64 prev.W,.int .i64 prev.H,.slice pa prev.pix.length pcap] 70) (.cells #[.int .i64 0,.int .i64 mo,.int .i64 m0,.int .i64 m1,.int .i64 m2,.int .i64 m3,.int .i64 s.vx,.int .i64 s.vy,.slice la s.large.length lcap,.slice a0 n0 c0,.slice a1 n1 c1,.slice a2 n2 c2,.slice a3 n3 c3] 137)
 have k0:=cat (i:=0) (v:=.int .i64 0) HB2.out rfl
 have HQ1:=lh hq1
 have HOwn:=lh (h.own.quiet hq1)
 have HPrev:=lh (h.prev.quiet hq1)
 have HSq:=lh (h.sq.only hq1 (by simp))
 have Hap:=lh h.apart
 have HD:Hid (laySq f prev x y q s=layD f x y 8 (blockD prev x y 8 0 0)):=lh (by unfold laySq;rw [if_pos hk])
 have HBl:=lh (fun (W:World) (o:Ints .i64 lo1 hi1 W (.slice pa prev.pix.length pcap) prev.pix)=>mblock_any hpr o x y 0 0 (by have:=hf.w1;omega) (by have:=hf.h1;omega) (by omega) (by omega))
 have hbl:=blockD_len prev x y 8 0 0
 have hbs:=blockD_in hpr.sam x y 8 0 0
 have HBl2:=lh hbl
 have HLy:Hid (∀ (W:World) {l1:Nat} (v:Value),Only [] (((w.alloc (.cells #[.int .i64 f.W,.int .i64 f.H,.slice (some ⟨g,0,none⟩) f.pix.length cap] 70)).alloc (.cells #[.int .i64 prev.W,.int .i64 prev.H,.slice pa prev.pix.length pcap] 70)).alloc (.cells #[.int .i64 0,.int .i64 mo,.int .i64 m0,.int .i64 m1,.int .i64 m2,.int .i64 m3,.int .i64 s.vx,.int .i64 s.vy,.slice la s.large.length lcap,.slice a0 n0 c0,.slice a1 n1 c1,.slice a2 n2 c2,.slice a3 n3 c3] 137)) W→Own .i64 3 l1 W v (blockD prev x y 8 0 0)→g<l1→Calls Tryz.prog 100 #[.agg #[.int .i64 f.W,.int .i64 f.H,.slice (some ⟨g,0,none⟩) f.pix.length cap],.int .i64 x,.int .i64 y,.int .i64 8,v] W fun e w'=>e=.returned (.tuple #[])∧Own .i64 3 base w' (.slice (some ⟨g,0,none⟩) f.pix.length cap) (layD f x y 8 (blockD prev x y 8 0 0)).pix∧Only [g] W w') :=
  lh (fun W _ v o hb hlt=>play_lay hf (HOwn.out.quiet o) hb.ints (.inl hlt) (.inr rfl) (hbl) hx hxn hy hyn)
 clear hbl hbs
 clear hx hxn hy hyn hs hq
 clear h hms hml hk hq1
 go_enter Tryz.func53,Tryz.ntmps53
 go_wp2_with fail
 clear k0
 generalize hW3:World.alloc (World.alloc (World.alloc w _) _) _=W3 at *
 clear hW3
 have HgW:=lh (show g<W3.heap.size by have:=HQ1.out.size;have:=HgL.out;omega)
 refine wp_region_held_drew (S:=(fun w'=>w'.heap[w.heap.size]?=some (.cells #[.int .i64 f.W,.int .i64 f.H,.slice (some ⟨g,0,none⟩) f.pix.length cap] 70 (0,0))∧w'.heap[w.heap.size+1]?=some (.cells #[.int .i64 prev.W,.int .i64 prev.H,.slice pa prev.pix.length pcap] 70 (0,0)))) (by kernel_rfl) ?_ (fun hHeld=>?_)
 ·exact ⟨HB0.out,HB1.out⟩
 refine tkw 0 43 ⟨rfl,qDLayMt0⟩ ?_
 refine tkw 1 44 ⟨rfl,qDLayMt0⟩ ?_
 refine tkw 2 45 ⟨rfl,qDLayMt0⟩ ?_
 refine tkw 3 46 ⟨rfl,qDLayMt0⟩ ?_
 refine tkw 4 47 ⟨rfl,qDLayMt0⟩ ?_
 refine tkw 5 48 ⟨rfl,qDLayMt0⟩ ?_
 refine tkw 6 49 ⟨rfl,qDLayMt0⟩ ?_
 refine rdy (rdc 7 50 (fun K hK=>?_) .nil)
 go_simp
 go_at_call 101
 refine (HBl.out W3.drew (HPrev.out.quiet (Only.refl _ _).drew)).mono ?_
 rintro e w4 ⟨v4,rfl,hown4,hq4⟩
 obtain ⟨g4,cap4,rfl,hg4,hg4x⟩:=hown4.form (by have:=HBl2.out;omega)
 have HQ4:=lh ((Only.refl [] W3).drew.q hq4)
 have HO4:=lh hown4
 have hr40:=(HQ4.out).row HB0.out
 have hr41:=(HQ4.out).row HB1.out
 have hr42:=(HQ4.out).row HB2.out
 have HG4:=lh (show g<w4.heap.size∧g<W3.heap.size from ⟨Nat.lt_of_lt_of_le HgW.out HQ4.out.size,HgW.out⟩)
 clear hown4 hq4 hg4 hg4x
 refine hK.out _ _ ?_ (fun hHeld=>?_)
 ·exact ⟨hr40,hr41⟩
 clear hK K
 try simp only [Act.put,List.setIfInBounds_toArray,List.set_cons_zero,List.set_cons_succ]
 refine rdy (rdc 8 51 (fun K hK=>?_) .nil)
 go_simp
 go_at_call 100
 refine (HLy.out w4 _ HQ4.out HO4.out HgW.out).mono ?_
 rintro e w6 ⟨rfl,hown6,hq6⟩
 have HQ6:=lh hq6
 have HO6:=lh hown6
 have hr60:=hq6.rowAt hr40 (by rw [mSg];have:=HgL.out;omega)
 have hr61:=hq6.rowAt hr41 (by rw [mSg];have:=HgL.out;omega)
 have hr62:=hq6.rowAt hr42 (by rw [mSg];have:=HgL.out;omega)
 clear hown6 hq6
 refine hK.out _ _ ?_ (fun hHeld=>?_)
 ·exact ⟨hr60,hr61⟩
 clear hK K
 try simp only [Act.put,List.setIfInBounds_toArray,List.set_cons_zero,List.set_cons_succ]
 refine wpAnyH_done (by kernel_rfl) ?_ _
 go_wp2_with fail
 refine bodyPost_end (results_none Tryz.results53 _ _ _) rfl (HPost.out _ _ ⟨rfl,?_,(HQ1.out.q HQ4.out).trans HQ6.out (by simp) (fun g h _=>h)⟩)
 rw [HD.out]
 exact HO6.out
theorem lay_m1 (hk:s.kind=1) (hf:FrOk f) (h:LayIn base g cap lo1 hi1 lo hi w f prev pv s lv vs) (hpr:FrOk prev) (hs:SqMay s) (hml:s.modes.length=4) (hq:q≤15) (hx:0≤x) (hxn:x+8≤f.W) (hy:0≤y) (hyn:y+8≤f.H) :
  Calls Tryz.prog 53 #[.agg #[.int .i64 f.W,.int .i64 f.H,.slice (some ⟨g,0,none⟩) f.pix.length cap],.agg #[.int .i64 prev.W,.int .i64 prev.H,pv],.int .i64 x,.int .i64 y,.int .i64 q,.agg (sqL s.kind mo s.modes s.vx s.vy lv vs).toArray] w fun e w'=>e=.returned (.tuple #[])∧Own .i64 3 base w' (.slice (some ⟨g,0,none⟩) f.pix.length cap) (laySq f prev x y q s).pix∧Only [g] w w':=by
 refine hidQ fun Q HPost=>?_
 rw [hk]
 have HgL:=lh ((h.own.at g rfl).2)
 obtain ⟨pa,pcap,rfl,-⟩:=h.prev.open
 obtain ⟨la,lcap,a0,c0,a1,c1,a2,c2,a3,c3,rfl,rfl⟩:=h.sq.open
 obtain ⟨m0,m1,m2,m3,hms⟩:=len4 hml
 have Hms:=lh hms
 rw [hms]
 simp only [sqL,List.map_cons,List.map_nil,List.cons_append,List.nil_append,List.append_nil]
 rw [show ((1:Nat):Int)=1 from rfl]
 generalize hn0:(s.small.getD 0 []).length=n0 at h ⊢
 generalize hn1:(s.small.getD 1 []).length=n1 at h ⊢
 generalize hn2:(s.small.getD 2 []).length=n2 at h ⊢
 generalize hn3:(s.small.getD 3 []).length=n3 at h ⊢
 have Hns:=lh (And.intro hn0 (And.intro hn1 (And.intro hn2 hn3)))
 clear hn0 hn1 hn2 hn3
 obtain ⟨hq1,HB0,HB1,HB2,-⟩:=boxes3 w (.cells #[.int .i64 f.W,.int .i64 f.H,.slice (some ⟨g,0,none⟩) f.pix.length cap] 70) (.cells #[.int .i64 prev.W,.int .i64 prev.H,.slice pa prev.pix.length pcap] 70) (.cells #[.int .i64 1,.int .i64 mo,.int .i64 m0,.int .i64 m1,.int .i64 m2,.int .i64 m3,.int .i64 s.vx,.int .i64 s.vy,.slice la s.large.length lcap,.slice a0 n0 c0,.slice a1 n1 c1,.slice a2 n2 c2,.slice a3 n3 c3] 137)
 have k0:=cat (i:=0) (v:=.int .i64 1) HB2.out rfl
 have HQ1:=lh hq1
 have HOwn:=lh (h.own.quiet hq1)
 have HPrev:=lh (h.prev.quiet hq1)
 have HSq:=lh (h.sq.only hq1 (by simp))
 have Hap:=lh h.apart
 have HD:Hid (laySq f prev x y q s=layD f x y 8 (addD (blockD prev x y 8 s.vx s.vy) s.large q)):=lh (by unfold laySq;rw [if_neg (by omega),if_pos hk])
 obtain ⟨h64,hlev⟩:=hs.large (.inl hk)
 have HBl:=lh (fun (W:World) (o:Ints .i64 lo1 hi1 W (.slice pa prev.pix.length pcap) prev.pix)=>mblock_any hpr o x y s.vx s.vy (by have:=hf.w1;omega) (by have:=hf.h1;omega) ⟨(hs.vec hk).1,(hs.vec hk).2.1⟩ (hs.vec hk).2.2)
 have hbl:=blockD_len prev x y 8 s.vx s.vy
 have hbs:=blockD_in hpr.sam x y 8 s.vx s.vy
 have HBl2:=lh hbl
 have hal:(addD (blockD prev x y 8 s.vx s.vy) s.large q).length=64:=by rw [addD_len (by rw [hbl,h64])];exact hbl
 have HAl:=lh hal
 have HAd:Hid (∀ (W:World) {l1 h1:Nat} (v:Value),Only [] (((w.alloc (.cells #[.int .i64 f.W,.int .i64 f.H,.slice (some ⟨g,0,none⟩) f.pix.length cap] 70)).alloc (.cells #[.int .i64 prev.W,.int .i64 prev.H,.slice pa prev.pix.length pcap] 70)).alloc (.cells #[.int .i64 1,.int .i64 mo,.int .i64 m0,.int .i64 m1,.int .i64 m2,.int .i64 m3,.int .i64 s.vx,.int .i64 s.vy,.slice la s.large.length lcap,.slice a0 n0 c0,.slice a1 n1 c1,.slice a2 n2 c2,.slice a3 n3 c3] 137)) W→Ints .i64 l1 h1 W v (blockD prev x y 8 s.vx s.vy)→Calls Tryz.prog 102 #[v,.slice la s.large.length lcap,.int .i64 q] W fun e w'=>∃ v',e=.returned v'∧Own .i64 3 W.heap.size w' v' (addD (blockD prev x y 8 s.vx s.vy) s.large q)∧Only [] W w') :=
  lh (fun W _ _ v o hb=>add_dec_any hb (HSq.out.large.quiet o) (.inr h64) (by rw [hbl,h64]) hbs hlev q hq)
 have HLy:Hid (∀ (W:World) {l1:Nat} (v:Value),Only [] (((w.alloc (.cells #[.int .i64 f.W,.int .i64 f.H,.slice (some ⟨g,0,none⟩) f.pix.length cap] 70)).alloc (.cells #[.int .i64 prev.W,.int .i64 prev.H,.slice pa prev.pix.length pcap] 70)).alloc (.cells #[.int .i64 1,.int .i64 mo,.int .i64 m0,.int .i64 m1,.int .i64 m2,.int .i64 m3,.int .i64 s.vx,.int .i64 s.vy,.slice la s.large.length lcap,.slice a0 n0 c0,.slice a1 n1 c1,.slice a2 n2 c2,.slice a3 n3 c3] 137)) W→Own .i64 3 l1 W v (addD (blockD prev x y 8 s.vx s.vy) s.large q)→g<l1→Calls Tryz.prog 100 #[.agg #[.int .i64 f.W,.int .i64 f.H,.slice (some ⟨g,0,none⟩) f.pix.length cap],.int .i64 x,.int .i64 y,.int .i64 8,v] W fun e w'=>e=.returned (.tuple #[])∧Own .i64 3 base w' (.slice (some ⟨g,0,none⟩) f.pix.length cap) (layD f x y 8 (addD (blockD prev x y 8 s.vx s.vy) s.large q)).pix∧Only [g] W w') :=
  lh (fun W _ v o hb hlt=>play_lay hf (HOwn.out.quiet o) hb.ints (.inl hlt) (.inr rfl) (hal) hx hxn hy hyn)
 clear hbl hbs hal h64 hlev
 clear hx hxn hy hyn hs hq
 clear h hms hml hk hq1
 go_enter Tryz.func53,Tryz.ntmps53
 go_wp2_with fail
 clear k0
 generalize hW3:World.alloc (World.alloc (World.alloc w _) _) _=W3 at *
 clear hW3
 have HgW:=lh (show g<W3.heap.size by have:=HQ1.out.size;have:=HgL.out;omega)
 refine wp_region_held_drew (S:=(fun w'=>w'.heap[w.heap.size]?=some (.cells #[.int .i64 f.W,.int .i64 f.H,.slice (some ⟨g,0,none⟩) f.pix.length cap] 70 (0,0))∧w'.heap[w.heap.size+1]?=some (.cells #[.int .i64 prev.W,.int .i64 prev.H,.slice pa prev.pix.length pcap] 70 (0,0))∧w'.heap[w.heap.size+1+1]?=some (.cells #[.int .i64 1,.int .i64 mo,.int .i64 m0,.int .i64 m1,.int .i64 m2,.int .i64 m3,.int .i64 s.vx,.int .i64 s.vy,.slice la s.large.length lcap,.slice a0 n0 c0,.slice a1 n1 c1,.slice a2 n2 c2,.slice a3 n3 c3] 137 (0,0)))) (by kernel_rfl) ?_ (fun hHeld=>?_)
 ·exact ⟨HB0.out,HB1.out,HB2.out⟩
 refine tkw 0 54 ⟨rfl,qDLayMt1⟩ ?_
 refine tkw 1 55 ⟨rfl,qDLayMt1⟩ ?_
 refine tkw 2 56 ⟨rfl,qDLayMt1⟩ ?_
 refine tkw 3 57 ⟨rfl,qDLayMt1⟩ ?_
 refine tkw 4 58 ⟨rfl,qDLayMt1⟩ ?_
 refine tkw 5 59 ⟨rfl,qDLayMt1⟩ ?_
 refine tkw 6 60 ⟨rfl,qDLayMt1⟩ ?_
 refine tkw 7 61 ⟨rfl,qDLayMt1⟩ ?_
 refine tkw 9 63 ⟨rfl,qDLayMt1⟩ ?_
 refine tkw 10 64 ⟨rfl,qDLayMt1⟩ ?_
 refine tkw 11 65 ⟨rfl,qDLayMt1⟩ ?_
 refine rdy (rdc 8 62 (fun K hK=>?_) .nil)
 go_simp
 go_at_call 101
 refine (HBl.out W3.drew (HPrev.out.quiet (Only.refl _ _).drew)).mono ?_
 rintro e w4 ⟨v4,rfl,hown4,hq4⟩
 obtain ⟨g4,cap4,rfl,hg4,hg4x⟩:=hown4.form (by have:=HBl2.out;omega)
 have HQ4:=lh ((Only.refl [] W3).drew.q hq4)
 have HO4:=lh hown4
 have hr40:=(HQ4.out).row HB0.out
 have hr41:=(HQ4.out).row HB1.out
 have hr42:=(HQ4.out).row HB2.out
 have HG4:=lh (show g<w4.heap.size∧g<W3.heap.size from ⟨Nat.lt_of_lt_of_le HgW.out HQ4.out.size,HgW.out⟩)
 clear hown4 hq4 hg4 hg4x
 refine hK.out _ _ ?_ (fun hHeld=>?_)
 ·exact ⟨hr40,hr41,hr42⟩
 clear hK K
 try simp only [Act.put,List.setIfInBounds_toArray,List.set_cons_zero,List.set_cons_succ]
 refine rdy (rdc 12 66 (fun K hK=>?_) .nil)
 go_simp
 go_at_call 102
 refine (HAd.out w4 _ HQ4.out HO4.out.ints).mono ?_
 rintro e w5 ⟨v5,rfl,hown5,hq5⟩
 obtain ⟨g5,cap5,rfl,hg5,hg5x⟩:=hown5.form (by have:=HAl.out;omega)
 have HQ5:=lh (HQ4.out.q hq5)
 have HO5:=lh hown5
 have hr50:=(HQ5.out).row HB0.out
 have hr51:=(HQ5.out).row HB1.out
 have hr52:=(HQ5.out).row HB2.out
 clear hown5 hq5 hg5 hg5x
 refine hK.out _ _ ?_ (fun hHeld=>?_)
 ·exact ⟨hr50,hr51,hr52⟩
 clear hK K
 try simp only [Act.put,List.setIfInBounds_toArray,List.set_cons_zero,List.set_cons_succ]
 refine rdy (rdc 13 67 (fun K hK=>?_) .nil)
 go_simp
 go_at_call 100
 refine (HLy.out w5 _ HQ5.out HO5.out HG4.out.1).mono ?_
 rintro e w6 ⟨rfl,hown6,hq6⟩
 have HQ6:=lh hq6
 have HO6:=lh hown6
 have hr60:=hq6.rowAt hr50 (by rw [mSg];have:=HgL.out;omega)
 have hr61:=hq6.rowAt hr51 (by rw [mSg];have:=HgL.out;omega)
 have hr62:=hq6.rowAt hr52 (by rw [mSg];have:=HgL.out;omega)
 clear hown6 hq6
 refine hK.out _ _ ?_ (fun hHeld=>?_)
 ·exact ⟨hr60,hr61,hr62⟩
 clear hK K
 try simp only [Act.put,List.setIfInBounds_toArray,List.set_cons_zero,List.set_cons_succ]
 refine wpAnyH_done (by kernel_rfl) ?_ _
 go_wp2_with fail
 refine bodyPost_end (results_none Tryz.results53 _ _ _) rfl (HPost.out _ _ ⟨rfl,?_,(HQ1.out.q HQ5.out).trans HQ6.out (by simp) (fun g h _=>h)⟩)
 rw [HD.out]
 exact HO6.out
theorem lay_m2 (hk:s.kind=2) (hf:FrOk f) (h:LayIn base g cap lo1 hi1 lo hi w f prev pv s lv vs) (hs:SqMay s) (hml:s.modes.length=4) (hq:q≤15) (hx:0≤x) (hxn:x+8≤f.W) (hy:0≤y) (hyn:y+8≤f.H) :
  Calls Tryz.prog 53 #[.agg #[.int .i64 f.W,.int .i64 f.H,.slice (some ⟨g,0,none⟩) f.pix.length cap],.agg #[.int .i64 prev.W,.int .i64 prev.H,pv],.int .i64 x,.int .i64 y,.int .i64 q,.agg (sqL s.kind s.mode s.modes s.vx s.vy lv vs).toArray] w fun e w'=>e=.returned (.tuple #[])∧Own .i64 3 base w' (.slice (some ⟨g,0,none⟩) f.pix.length cap) (laySq f prev x y q s).pix∧Only [g] w w':=by
 refine hidQ fun Q HPost=>?_
 rw [hk]
 have HgL:=lh ((h.own.at g rfl).2)
 obtain ⟨pa,pcap,rfl,-⟩:=h.prev.open
 obtain ⟨la,lcap,a0,c0,a1,c1,a2,c2,a3,c3,rfl,rfl⟩:=h.sq.open
 obtain ⟨m0,m1,m2,m3,hms⟩:=len4 hml
 have Hms:=lh hms
 rw [hms]
 simp only [sqL,List.map_cons,List.map_nil,List.cons_append,List.nil_append,List.append_nil]
 rw [show ((2:Nat):Int)=2 from rfl]
 generalize hn0:(s.small.getD 0 []).length=n0 at h ⊢
 generalize hn1:(s.small.getD 1 []).length=n1 at h ⊢
 generalize hn2:(s.small.getD 2 []).length=n2 at h ⊢
 generalize hn3:(s.small.getD 3 []).length=n3 at h ⊢
 have Hns:=lh (And.intro hn0 (And.intro hn1 (And.intro hn2 hn3)))
 clear hn0 hn1 hn2 hn3
 obtain ⟨hq1,HB0,HB1,HB2,-⟩:=boxes3 w (.cells #[.int .i64 f.W,.int .i64 f.H,.slice (some ⟨g,0,none⟩) f.pix.length cap] 70) (.cells #[.int .i64 prev.W,.int .i64 prev.H,.slice pa prev.pix.length pcap] 70) (.cells #[.int .i64 2,.int .i64 s.mode,.int .i64 m0,.int .i64 m1,.int .i64 m2,.int .i64 m3,.int .i64 s.vx,.int .i64 s.vy,.slice la s.large.length lcap,.slice a0 n0 c0,.slice a1 n1 c1,.slice a2 n2 c2,.slice a3 n3 c3] 137)
 have k0:=cat (i:=0) (v:=.int .i64 2) HB2.out rfl
 have HQ1:=lh hq1
 have HOwn:=lh (h.own.quiet hq1)
 have HPrev:=lh (h.prev.quiet hq1)
 have HSq:=lh (h.sq.only hq1 (by simp))
 have Hap:=lh h.apart
 have HD:Hid (laySq f prev x y q s=oneD f x y 8 s.mode q s.large):=lh (by unfold laySq;rw [if_neg (by omega),if_neg (by omega),if_pos hk])
 obtain ⟨h64,hlev⟩:=hs.large (.inr hk)
 have hmd:=hs.mode hk
 have HOne:Hid (Calls Tryz.prog 103 #[.agg #[.int .i64 f.W,.int .i64 f.H,.slice (some ⟨g,0,none⟩) f.pix.length cap],.int .i64 x,.int .i64 y,.int .i64 8,.int .i64 s.mode,.int .i64 q,.slice la s.large.length lcap] (((w.alloc (.cells #[.int .i64 f.W,.int .i64 f.H,.slice (some ⟨g,0,none⟩) f.pix.length cap] 70)).alloc (.cells #[.int .i64 prev.W,.int .i64 prev.H,.slice pa prev.pix.length pcap] 70)).alloc (.cells #[.int .i64 2,.int .i64 s.mode,.int .i64 m0,.int .i64 m1,.int .i64 m2,.int .i64 m3,.int .i64 s.vx,.int .i64 s.vy,.slice la s.large.length lcap,.slice a0 n0 c0,.slice a1 n1 c1,.slice a2 n2 c2,.slice a3 n3 c3] 137)) fun e w'=>e=.returned (.tuple #[])∧Own .i64 3 base w' (.slice (some ⟨g,0,none⟩) f.pix.length cap) (oneD f x y 8 s.mode q s.large).pix∧Only [g] (((w.alloc (.cells #[.int .i64 f.W,.int .i64 f.H,.slice (some ⟨g,0,none⟩) f.pix.length cap] 70)).alloc (.cells #[.int .i64 prev.W,.int .i64 prev.H,.slice pa prev.pix.length pcap] 70)).alloc (.cells #[.int .i64 2,.int .i64 s.mode,.int .i64 m0,.int .i64 m1,.int .i64 m2,.int .i64 m3,.int .i64 s.vx,.int .i64 s.vy,.slice la s.large.length lcap,.slice a0 n0 c0,.slice a1 n1 c1,.slice a2 n2 c2,.slice a3 n3 c3] 137)) w') :=
  lh (one_any hf HOwn.out HSq.out.large Hap.out (.inr rfl) h64 hlev hq (by omega) hx hxn hy hyn)
 obtain ⟨r0,r1,r2⟩:=frame_cells HB0.out
 have e1:(((w.alloc (.cells #[.int .i64 f.W,.int .i64 f.H,.slice (some ⟨g,0,none⟩) f.pix.length cap] 70)).alloc (.cells #[.int .i64 prev.W,.int .i64 prev.H,.slice pa prev.pix.length pcap] 70)).alloc (.cells #[.int .i64 2,.int .i64 s.mode,.int .i64 m0,.int .i64 m1,.int .i64 m2,.int .i64 m3,.int .i64 s.vx,.int .i64 s.vy,.slice la s.large.length lcap,.slice a0 n0 c0,.slice a1 n1 c1,.slice a2 n2 c2,.slice a3 n3 c3] 137)).cell? ⟨w.heap.size+1+1,1,none⟩=some (.int .i64 s.mode):=by rw [cell_of_row _ _ _ _ _ _ HB2.out];rfl
 have e8:(((w.alloc (.cells #[.int .i64 f.W,.int .i64 f.H,.slice (some ⟨g,0,none⟩) f.pix.length cap] 70)).alloc (.cells #[.int .i64 prev.W,.int .i64 prev.H,.slice pa prev.pix.length pcap] 70)).alloc (.cells #[.int .i64 2,.int .i64 s.mode,.int .i64 m0,.int .i64 m1,.int .i64 m2,.int .i64 m3,.int .i64 s.vx,.int .i64 s.vy,.slice la s.large.length lcap,.slice a0 n0 c0,.slice a1 n1 c1,.slice a2 n2 c2,.slice a3 n3 c3] 137)).cell? ⟨w.heap.size+1+1,8,none⟩=some (.slice la s.large.length lcap):=by rw [cell_of_row _ _ _ _ _ _ HB2.out];rfl
 clear h64 hlev hmd hf
 clear hx hxn hy hyn hs hq
 clear h hms hml hk hq1
 go_enter Tryz.func53,Tryz.ntmps53
 go_wp2_with fail
 clear k0
 generalize hW3:World.alloc (World.alloc (World.alloc w _) _) _=W3 at *
 clear hW3
 have HgW:=lh (show g<W3.heap.size by have:=HQ1.out.size;have:=HgL.out;omega)
 go_at_call 103
 refine HOne.out.mono ?_
 rintro e w6 ⟨rfl,hown6,hq6⟩
 have HQ6:=lh hq6
 have HO6:=lh hown6
 clear hown6 hq6 r0 r1 r2 e1 e8
 go_wp2_with fail
 refine bodyPost_end (results_none Tryz.results53 _ _ _) rfl (HPost.out _ _ ⟨rfl,?_,HQ1.out.trans HQ6.out (by simp) (fun g h _=>h)⟩)
 rw [HD.out]
 exact HO6.out
theorem lay_m3 (hk:s.kind=3) (hf:FrOk f) (h:LayIn base g cap lo1 hi1 lo hi w f prev pv s lv vs) (hs:SqMay s) (hml:s.modes.length=4) (hq:q≤15) (hx:0≤x) (hxn:x+8≤f.W) (hy:0≤y) (hyn:y+8≤f.H) :
  Calls Tryz.prog 53 #[.agg #[.int .i64 f.W,.int .i64 f.H,.slice (some ⟨g,0,none⟩) f.pix.length cap],.agg #[.int .i64 prev.W,.int .i64 prev.H,pv],.int .i64 x,.int .i64 y,.int .i64 q,.agg (sqL s.kind mo s.modes s.vx s.vy lv vs).toArray] w fun e w'=>e=.returned (.tuple #[])∧Own .i64 3 base w' (.slice (some ⟨g,0,none⟩) f.pix.length cap) (laySq f prev x y q s).pix∧Only [g] w w':=by
 refine hidQ fun Q HPost=>?_
 rw [hk]
 have HgL:=lh ((h.own.at g rfl).2)
 obtain ⟨pa,pcap,rfl,-⟩:=h.prev.open
 obtain ⟨la,lcap,a0,c0,a1,c1,a2,c2,a3,c3,rfl,rfl⟩:=h.sq.open
 obtain ⟨m0,m1,m2,m3,hms⟩:=len4 hml
 have Hms:=lh hms
 rw [hms]
 simp only [sqL,List.map_cons,List.map_nil,List.cons_append,List.nil_append,List.append_nil]
 rw [show ((3:Nat):Int)=3 from rfl]
 generalize hn0:(s.small.getD 0 []).length=n0 at h ⊢
 generalize hn1:(s.small.getD 1 []).length=n1 at h ⊢
 generalize hn2:(s.small.getD 2 []).length=n2 at h ⊢
 generalize hn3:(s.small.getD 3 []).length=n3 at h ⊢
 have Hns:=lh (And.intro hn0 (And.intro hn1 (And.intro hn2 hn3)))
 clear hn0 hn1 hn2 hn3
 obtain ⟨hq1,HB0,HB1,HB2,-⟩:=boxes3 w (.cells #[.int .i64 f.W,.int .i64 f.H,.slice (some ⟨g,0,none⟩) f.pix.length cap] 70) (.cells #[.int .i64 prev.W,.int .i64 prev.H,.slice pa prev.pix.length pcap] 70) (.cells #[.int .i64 3,.int .i64 mo,.int .i64 m0,.int .i64 m1,.int .i64 m2,.int .i64 m3,.int .i64 s.vx,.int .i64 s.vy,.slice la s.large.length lcap,.slice a0 n0 c0,.slice a1 n1 c1,.slice a2 n2 c2,.slice a3 n3 c3] 137)
 have k0:=cat (i:=0) (v:=.int .i64 3) HB2.out rfl
 have HQ1:=lh hq1
 have HOwn:=lh (h.own.quiet hq1)
 have HPrev:=lh (h.prev.quiet hq1)
 have HSq:=lh (h.sq.only hq1 (by simp))
 have Hap:=lh h.apart
 have HD:Hid (laySq f prev x y q s=(List.range 4).foldl (smallD x y q s) f):=lh (by unfold laySq;rw [if_neg (by omega),if_neg (by omega),if_neg (by omega)])
 obtain ⟨q1,q2,q3,q4⟩:=hs.small hk
 have HS3:Hid (∀ i,i<4→(s.small.getD i []).length=16∧LevOk (s.small.getD i [])):=lh (fun i hi=>q4 _ (by rw [List.getD_eq_getElem?_getD,List.getElem?_eq_getElem (by omega)];exact List.getElem_mem _))
 have Hq:=lh hq
 have HFk:Hid (∀ k,k≤4→FrOk ((List.range k).foldl (smallD x y q s) f)∧((List.range k).foldl (smallD x y q s) f).W=f.W∧((List.range k).foldl (smallD x y q s) f).H=f.H):=lh (fun k hk=>small_ok hf HS3.out hx hxn hy hyn q k hk)
 have hW1:=hf.w1
 have hH1:=hf.h1
 have hfL:=hf.len
 have HMd:Hid (∀ i,i<4→0≤s.modes.getD i 0∧s.modes.getD i 0≤3):=lh (fun i hi=>q3 _ (by rw [List.getD_eq_getElem?_getD,List.getElem?_eq_getElem (by omega)];exact List.getElem_mem _))
 have d9:(((w.alloc (.cells #[.int .i64 f.W,.int .i64 f.H,.slice (some ⟨g,0,none⟩) f.pix.length cap] 70)).alloc (.cells #[.int .i64 prev.W,.int .i64 prev.H,.slice pa prev.pix.length pcap] 70)).alloc (.cells #[.int .i64 3,.int .i64 mo,.int .i64 m0,.int .i64 m1,.int .i64 m2,.int .i64 m3,.int .i64 s.vx,.int .i64 s.vy,.slice la s.large.length lcap,.slice a0 n0 c0,.slice a1 n1 c1,.slice a2 n2 c2,.slice a3 n3 c3] 137)).cell? ⟨w.heap.size+1+1,9,none⟩=some (.slice a0 n0 c0):=by rw [cell_of_row _ _ _ _ _ _ HB2.out];rfl
 have d10:(((w.alloc (.cells #[.int .i64 f.W,.int .i64 f.H,.slice (some ⟨g,0,none⟩) f.pix.length cap] 70)).alloc (.cells #[.int .i64 prev.W,.int .i64 prev.H,.slice pa prev.pix.length pcap] 70)).alloc (.cells #[.int .i64 3,.int .i64 mo,.int .i64 m0,.int .i64 m1,.int .i64 m2,.int .i64 m3,.int .i64 s.vx,.int .i64 s.vy,.slice la s.large.length lcap,.slice a0 n0 c0,.slice a1 n1 c1,.slice a2 n2 c2,.slice a3 n3 c3] 137)).cell? ⟨w.heap.size+1+1,10,none⟩=some (.slice a1 n1 c1):=by rw [cell_of_row _ _ _ _ _ _ HB2.out];rfl
 have d11:(((w.alloc (.cells #[.int .i64 f.W,.int .i64 f.H,.slice (some ⟨g,0,none⟩) f.pix.length cap] 70)).alloc (.cells #[.int .i64 prev.W,.int .i64 prev.H,.slice pa prev.pix.length pcap] 70)).alloc (.cells #[.int .i64 3,.int .i64 mo,.int .i64 m0,.int .i64 m1,.int .i64 m2,.int .i64 m3,.int .i64 s.vx,.int .i64 s.vy,.slice la s.large.length lcap,.slice a0 n0 c0,.slice a1 n1 c1,.slice a2 n2 c2,.slice a3 n3 c3] 137)).cell? ⟨w.heap.size+1+1,11,none⟩=some (.slice a2 n2 c2):=by rw [cell_of_row _ _ _ _ _ _ HB2.out];rfl
 have d12:(((w.alloc (.cells #[.int .i64 f.W,.int .i64 f.H,.slice (some ⟨g,0,none⟩) f.pix.length cap] 70)).alloc (.cells #[.int .i64 prev.W,.int .i64 prev.H,.slice pa prev.pix.length pcap] 70)).alloc (.cells #[.int .i64 3,.int .i64 mo,.int .i64 m0,.int .i64 m1,.int .i64 m2,.int .i64 m3,.int .i64 s.vx,.int .i64 s.vy,.slice la s.large.length lcap,.slice a0 n0 c0,.slice a1 n1 c1,.slice a2 n2 c2,.slice a3 n3 c3] 137)).cell? ⟨w.heap.size+1+1,12,none⟩=some (.slice a3 n3 c3):=by rw [cell_of_row _ _ _ _ _ _ HB2.out];rfl
 clear q1 q2 q3 q4
 clear h hms hml hk hq1
 go_enter Tryz.func53,Tryz.ntmps53
 go_wp2_with fail
 clear k0
 generalize hW3:World.alloc (World.alloc (World.alloc w _) _) _=W3 at *
 clear hW3
 have HgW:=lh (show g<W3.heap.size by have:=HQ1.out.size;have:=HgL.out;omega)
 clear d9 d10 d11 d12
 go_loopw [18,12,13] (fun i _ _ wr=>∃ (k:Nat),k≤4∧i=.int .i64 k∧Hid (Own .i64 3 base wr (.slice (some ⟨g,0,none⟩) f.pix.length cap) ((List.range k).foldl (smallD x y q s) f).pix)∧Hid (Only [g] W3 wr)) (fun i _ _ _=>4-(intOf i).toNat)
 case atStart=>exact ⟨0,by omega,rfl,HOwn,lh (Only.refl _ _)⟩
 case round =>
  obtain ⟨k,hk,rfl,HOk,HQk⟩:=hrel
  have hrA:=HQk.out.rowAt HB0.out (by rw [mSg];have:=HgL.out;omega)
  have hrC:=HQk.out.rowAt HB2.out (by rw [mSg];have:=HgL.out;omega)
  obtain ⟨hfk,hfw,hfh⟩:=HFk.out k hk
  by_cases hlt:k<4
  ·generalize hFK:(List.range k).foldl (smallD x y q s) f=FK at *
   have hfl:FK.pix.length=f.pix.length:=by
    have e:=hfk.len
    rw [hfw,hfh] at e
    omega
   rcases (by omega:k=0∨k=1∨k=2∨k=3) with rfl | rfl | rfl | rfl
   ·have hsm:=HSq.out.small 0 (by omega)
    have hC:=one_any (f:=FK) (x:=x) (y:=y) (n:=4) (mode:=m0) (q:=q) (w:=wr.drew) hfk (by rw [hfl];exact HOk.out.quiet (Only.refl _ _).drew) ((hsm.only HQk.out (by rw [List.forall_mem_singleton];exact Hap.out)).quiet (Only.refl _ _).drew) Hap.out (.inl rfl) (HS3.out 0 (by omega)).1 (HS3.out 0 (by omega)).2 Hq.out (by have:=HMd.out 0 (by omega);rw [Hms.out] at this;exact this) (by omega) (by rw [hfw];omega) (by omega) (by rw [hfh];omega)
    rw [hfw,hfh,hfl] at hC
    have HC:Hid (Calls Tryz.prog 103 #[.agg #[.int .i64 f.W,.int .i64 f.H,.slice (some ⟨g,0,none⟩) f.pix.length cap],.int .i64 (x),.int .i64 (y),.int .i64 4,.int .i64 m0,.int .i64 q,.slice a0 n0 c0] wr.drew fun e w'=>e=.returned (.tuple #[])∧Own .i64 3 base w' (.slice (some ⟨g,0,none⟩) f.pix.length cap) (oneD FK (x) (y) 4 m0 q (s.small.getD 0 [])).pix∧Only [g] wr.drew w'):=lh hC
    clear hC hsm
    have HMo:Hid ((List.range (0+1)).foldl (smallD x y q s) f=oneD FK (x) (y) 4 m0 q (s.small.getD 0 [])):=lh (by rw [List.range_succ,List.foldl_append,hFK];show oneD FK (x+((0 % 2:Nat):Int)*4) (y+((0 / 2:Nat):Int)*4) 4 (s.modes.getD 0 0) q (s.small.getD 0 [])=_;rw [Hms.out];simp)
    clear hFK
    have hidx:∀ W:World,(Instr.index 135 (.agg #[.slice a0 n0 c0,.slice a1 n1 c1,.slice a2 n2 c2,.slice a3 n3 c3]) (.int .i64 0)).run Tryz.prog W=.ok (.slice a0 n0 c0) W:=fun W=>by kernel_rfl
    rw [show ((0:Nat):Int)=0 from rfl]
    have ex:IntKind.i64.wrap x=x:=by rw [IntKind.wrap_i64];omega
    have ey:IntKind.i64.wrap y=y:=by rw [IntKind.wrap_i64];omega
    have w0:IntKind.i64.wrap 0=0:=by rw [IntKind.wrap_i64];omega
    have w1:IntKind.i64.wrap 1=1:=by rw [IntKind.wrap_i64];omega
    have w4:IntKind.i64.wrap 4=4:=by rw [IntKind.wrap_i64];omega
    go_wp2_with fail
    refine wp_region_held_drew (S:=(fun w'=>w'.heap[w.heap.size]?=some (.cells #[.int .i64 f.W,.int .i64 f.H,.slice (some ⟨g,0,none⟩) f.pix.length cap] 70 (0,0))∧w'.heap[w.heap.size+1+1]?=some (.cells #[.int .i64 3,.int .i64 mo,.int .i64 m0,.int .i64 m1,.int .i64 m2,.int .i64 m3,.int .i64 s.vx,.int .i64 s.vy,.slice la s.large.length lcap,.slice a0 n0 c0,.slice a1 n1 c1,.slice a2 n2 c2,.slice a3 n3 c3] 137 (0,0)))) (by kernel_rfl) ?_ (fun hHeld=>?_)
    ·exact ⟨hrA,hrC⟩
    refine tkw 0 22 ⟨rfl,qDLayMt2⟩ ?_
    refine tkw 1 23 ⟨rfl,qDLayMt2⟩ ?_
    refine tkw 2 24 ⟨rfl,qDLayMt2⟩ ?_
    refine tkw 3 25 ⟨rfl,qDLayMt2⟩ ?_
    refine tkw 4 26 ⟨rfl,qDLayMt2⟩ ?_
    refine tkw 5 27 ⟨rfl,qDLayMt2⟩ ?_
    refine tkw 6 28 ⟨rfl,qDLayMt2⟩ ?_
    refine tkw 7 29 ⟨rfl,qDLayMt2⟩ ?_
    refine tkw 8 30 ⟨rfl,qDLayMt2⟩ ?_
    refine tkw 9 31 ⟨rfl,qDLayMt2⟩ ?_
    refine tkw 10 32 ⟨rfl,qDLayMt2⟩ ?_
    refine tkw 11 33 ⟨rfl,qDLayMt2⟩ ?_
    refine tkw 12 34 ⟨rfl,qDLayMt2⟩ ?_
    refine tkw 13 35 ⟨rfl,qDLayMt2⟩ ?_
    refine tkw 14 36 ⟨rfl,qDLayMt2⟩ ?_
    refine tkw 15 37 ⟨rfl,qDLayMt2⟩ ?_
    refine tkw 16 38 ⟨rfl,qDLayMt2⟩ ?_
    refine rdy (rdc 17 39 (fun K hK=>?_) .nil)
    go_simp
    go_at_call 103
    refine (HC.out).mono ?_
    rintro e w6 ⟨rfl,hown6,hq6⟩
    have HQ6:=lh hq6
    have HO6:=lh hown6
    have hr60:=hq6.rowAt hrA (by rw [mSg];have:=HgL.out;omega)
    have hr62:=hq6.rowAt hrC (by rw [mSg];have:=HgL.out;omega)
    clear hown6 hq6
    refine hK.out _ _ ?_ (fun hHeld=>?_)
    ·exact ⟨hr60,hr62⟩
    clear hK K
    try simp only [Act.put,List.setIfInBounds_toArray,List.set_cons_zero,List.set_cons_succ]
    refine wpAnyH_done (by kernel_rfl) ?_ _
    go_wp2_with fail
    refine ⟨⟨0+1,by omega,rfl,lh (by rw [HMo.out];exact HO6.out),lh (HQk.out.trans ((Only.refl [g] wr).drew.trans HQ6.out (fun _ h _=>h) (fun _ h _=>h)) (fun _ h _=>h) (fun _ h _=>h))⟩,by simp [intOf]⟩
   ·have hsm:=HSq.out.small 1 (by omega)
    have hC:=one_any (f:=FK) (x:=x+4) (y:=y) (n:=4) (mode:=m1) (q:=q) (w:=wr.drew) hfk (by rw [hfl];exact HOk.out.quiet (Only.refl _ _).drew) ((hsm.only HQk.out (by rw [List.forall_mem_singleton];exact Hap.out)).quiet (Only.refl _ _).drew) Hap.out (.inl rfl) (HS3.out 1 (by omega)).1 (HS3.out 1 (by omega)).2 Hq.out (by have:=HMd.out 1 (by omega);rw [Hms.out] at this;exact this) (by omega) (by rw [hfw];omega) (by omega) (by rw [hfh];omega)
    rw [hfw,hfh,hfl] at hC
    have HC:Hid (Calls Tryz.prog 103 #[.agg #[.int .i64 f.W,.int .i64 f.H,.slice (some ⟨g,0,none⟩) f.pix.length cap],.int .i64 (x+4),.int .i64 (y),.int .i64 4,.int .i64 m1,.int .i64 q,.slice a1 n1 c1] wr.drew fun e w'=>e=.returned (.tuple #[])∧Own .i64 3 base w' (.slice (some ⟨g,0,none⟩) f.pix.length cap) (oneD FK (x+4) (y) 4 m1 q (s.small.getD 1 [])).pix∧Only [g] wr.drew w'):=lh hC
    clear hC hsm
    have HMo:Hid ((List.range (1+1)).foldl (smallD x y q s) f=oneD FK (x+4) (y) 4 m1 q (s.small.getD 1 [])):=lh (by rw [List.range_succ,List.foldl_append,hFK];show oneD FK (x+((1 % 2:Nat):Int)*4) (y+((1 / 2:Nat):Int)*4) 4 (s.modes.getD 1 0) q (s.small.getD 1 [])=_;rw [Hms.out];simp)
    clear hFK
    have hidx:∀ W:World,(Instr.index 135 (.agg #[.slice a0 n0 c0,.slice a1 n1 c1,.slice a2 n2 c2,.slice a3 n3 c3]) (.int .i64 1)).run Tryz.prog W=.ok (.slice a1 n1 c1) W:=fun W=>by kernel_rfl
    rw [show ((1:Nat):Int)=1 from rfl]
    have ex:IntKind.i64.wrap (x+4)=x+4:=by rw [IntKind.wrap_i64];omega
    have ex1:wrap64 (x+4)=x+4:=by unfold wrap64;omega
    have ey:IntKind.i64.wrap y=y:=by rw [IntKind.wrap_i64];omega
    have w0:IntKind.i64.wrap 0=0:=by rw [IntKind.wrap_i64];omega
    have w1:IntKind.i64.wrap 1=1:=by rw [IntKind.wrap_i64];omega
    have w4:IntKind.i64.wrap 4=4:=by rw [IntKind.wrap_i64];omega
    go_wp2_with fail
    refine wp_region_held_drew (S:=(fun w'=>w'.heap[w.heap.size]?=some (.cells #[.int .i64 f.W,.int .i64 f.H,.slice (some ⟨g,0,none⟩) f.pix.length cap] 70 (0,0))∧w'.heap[w.heap.size+1+1]?=some (.cells #[.int .i64 3,.int .i64 mo,.int .i64 m0,.int .i64 m1,.int .i64 m2,.int .i64 m3,.int .i64 s.vx,.int .i64 s.vy,.slice la s.large.length lcap,.slice a0 n0 c0,.slice a1 n1 c1,.slice a2 n2 c2,.slice a3 n3 c3] 137 (0,0)))) (by kernel_rfl) ?_ (fun hHeld=>?_)
    ·exact ⟨hrA,hrC⟩
    refine tkw 0 22 ⟨rfl,qDLayMt3⟩ ?_
    refine tkw 1 23 ⟨rfl,qDLayMt3⟩ ?_
    refine tkw 2 24 ⟨rfl,qDLayMt3⟩ ?_
    refine tkw 3 25 ⟨rfl,qDLayMt3⟩ ?_
    refine tkw 4 26 ⟨rfl,qDLayMt3⟩ ?_
    refine tkw 5 27 ⟨rfl,qDLayMt3⟩ ?_
    refine tkw 6 28 ⟨rfl,qDLayMt3⟩ ?_
    refine tkw 7 29 ⟨rfl,qDLayMt3⟩ ?_
    refine tkw 8 30 ⟨rfl,qDLayMt3⟩ ?_
    refine tkw 9 31 ⟨rfl,qDLayMt3⟩ ?_
    refine tkw 10 32 ⟨rfl,qDLayMt3⟩ ?_
    refine tkw 11 33 ⟨rfl,qDLayMt3⟩ ?_
    refine tkw 12 34 ⟨rfl,qDLayMt3⟩ ?_
    refine tkw 13 35 ⟨rfl,qDLayMt3⟩ ?_
    refine tkw 14 36 ⟨rfl,qDLayMt3⟩ ?_
    refine tkw 15 37 ⟨rfl,qDLayMt3⟩ ?_
    refine tkw 16 38 ⟨rfl,qDLayMt3⟩ ?_
    refine rdy (rdc 17 39 (fun K hK=>?_) .nil)
    go_simp
    go_at_call 103
    refine (HC.out).mono ?_
    rintro e w6 ⟨rfl,hown6,hq6⟩
    have HQ6:=lh hq6
    have HO6:=lh hown6
    have hr60:=hq6.rowAt hrA (by rw [mSg];have:=HgL.out;omega)
    have hr62:=hq6.rowAt hrC (by rw [mSg];have:=HgL.out;omega)
    clear hown6 hq6
    refine hK.out _ _ ?_ (fun hHeld=>?_)
    ·exact ⟨hr60,hr62⟩
    clear hK K
    try simp only [Act.put,List.setIfInBounds_toArray,List.set_cons_zero,List.set_cons_succ]
    refine wpAnyH_done (by kernel_rfl) ?_ _
    go_wp2_with fail
    refine ⟨⟨1+1,by omega,rfl,lh (by rw [HMo.out];exact HO6.out),lh (HQk.out.trans ((Only.refl [g] wr).drew.trans HQ6.out (fun _ h _=>h) (fun _ h _=>h)) (fun _ h _=>h) (fun _ h _=>h))⟩,by simp [intOf]⟩
   ·have hsm:=HSq.out.small 2 (by omega)
    have hC:=one_any (f:=FK) (x:=x) (y:=y+4) (n:=4) (mode:=m2) (q:=q) (w:=wr.drew) hfk (by rw [hfl];exact HOk.out.quiet (Only.refl _ _).drew) ((hsm.only HQk.out (by rw [List.forall_mem_singleton];exact Hap.out)).quiet (Only.refl _ _).drew) Hap.out (.inl rfl) (HS3.out 2 (by omega)).1 (HS3.out 2 (by omega)).2 Hq.out (by have:=HMd.out 2 (by omega);rw [Hms.out] at this;exact this) (by omega) (by rw [hfw];omega) (by omega) (by rw [hfh];omega)
    rw [hfw,hfh,hfl] at hC
    have HC:Hid (Calls Tryz.prog 103 #[.agg #[.int .i64 f.W,.int .i64 f.H,.slice (some ⟨g,0,none⟩) f.pix.length cap],.int .i64 (x),.int .i64 (y+4),.int .i64 4,.int .i64 m2,.int .i64 q,.slice a2 n2 c2] wr.drew fun e w'=>e=.returned (.tuple #[])∧Own .i64 3 base w' (.slice (some ⟨g,0,none⟩) f.pix.length cap) (oneD FK (x) (y+4) 4 m2 q (s.small.getD 2 [])).pix∧Only [g] wr.drew w'):=lh hC
    clear hC hsm
    have HMo:Hid ((List.range (2+1)).foldl (smallD x y q s) f=oneD FK (x) (y+4) 4 m2 q (s.small.getD 2 [])):=lh (by rw [List.range_succ,List.foldl_append,hFK];show oneD FK (x+((2 % 2:Nat):Int)*4) (y+((2 / 2:Nat):Int)*4) 4 (s.modes.getD 2 0) q (s.small.getD 2 [])=_;rw [Hms.out];simp)
    clear hFK
    have hidx:∀ W:World,(Instr.index 135 (.agg #[.slice a0 n0 c0,.slice a1 n1 c1,.slice a2 n2 c2,.slice a3 n3 c3]) (.int .i64 2)).run Tryz.prog W=.ok (.slice a2 n2 c2) W:=fun W=>by kernel_rfl
    rw [show ((2:Nat):Int)=2 from rfl]
    have ex:IntKind.i64.wrap x=x:=by rw [IntKind.wrap_i64];omega
    have ey:IntKind.i64.wrap (y+4)=y+4:=by rw [IntKind.wrap_i64];omega
    have w0:IntKind.i64.wrap 0=0:=by rw [IntKind.wrap_i64];omega
    have w1:IntKind.i64.wrap 1=1:=by rw [IntKind.wrap_i64];omega
    have w4:IntKind.i64.wrap 4=4:=by rw [IntKind.wrap_i64];omega
    go_wp2_with fail
    refine wp_region_held_drew (S:=(fun w'=>w'.heap[w.heap.size]?=some (.cells #[.int .i64 f.W,.int .i64 f.H,.slice (some ⟨g,0,none⟩) f.pix.length cap] 70 (0,0))∧w'.heap[w.heap.size+1+1]?=some (.cells #[.int .i64 3,.int .i64 mo,.int .i64 m0,.int .i64 m1,.int .i64 m2,.int .i64 m3,.int .i64 s.vx,.int .i64 s.vy,.slice la s.large.length lcap,.slice a0 n0 c0,.slice a1 n1 c1,.slice a2 n2 c2,.slice a3 n3 c3] 137 (0,0)))) (by kernel_rfl) ?_ (fun hHeld=>?_)
    ·exact ⟨hrA,hrC⟩
    refine tkw 0 22 ⟨rfl,qDLayMt4⟩ ?_
    refine tkw 1 23 ⟨rfl,qDLayMt4⟩ ?_
    refine tkw 2 24 ⟨rfl,qDLayMt4⟩ ?_
    refine tkw 3 25 ⟨rfl,qDLayMt4⟩ ?_
    refine tkw 4 26 ⟨rfl,qDLayMt4⟩ ?_
    refine tkw 5 27 ⟨rfl,qDLayMt4⟩ ?_
    refine tkw 6 28 ⟨rfl,qDLayMt4⟩ ?_
    refine tkw 7 29 ⟨rfl,qDLayMt4⟩ ?_
    refine tkw 8 30 ⟨rfl,qDLayMt4⟩ ?_
    refine tkw 9 31 ⟨rfl,qDLayMt4⟩ ?_
    refine tkw 10 32 ⟨rfl,qDLayMt4⟩ ?_
    refine tkw 11 33 ⟨rfl,qDLayMt4⟩ ?_
    refine tkw 12 34 ⟨rfl,qDLayMt4⟩ ?_
    refine tkw 13 35 ⟨rfl,qDLayMt4⟩ ?_
    refine tkw 14 36 ⟨rfl,qDLayMt4⟩ ?_
    refine tkw 15 37 ⟨rfl,qDLayMt4⟩ ?_
    refine tkw 16 38 ⟨rfl,qDLayMt4⟩ ?_
    refine rdy (rdc 17 39 (fun K hK=>?_) .nil)
    go_simp
    go_at_call 103
    refine (HC.out).mono ?_
    rintro e w6 ⟨rfl,hown6,hq6⟩
    have HQ6:=lh hq6
    have HO6:=lh hown6
    have hr60:=hq6.rowAt hrA (by rw [mSg];have:=HgL.out;omega)
    have hr62:=hq6.rowAt hrC (by rw [mSg];have:=HgL.out;omega)
    clear hown6 hq6
    refine hK.out _ _ ?_ (fun hHeld=>?_)
    ·exact ⟨hr60,hr62⟩
    clear hK K
    try simp only [Act.put,List.setIfInBounds_toArray,List.set_cons_zero,List.set_cons_succ]
    refine wpAnyH_done (by kernel_rfl) ?_ _
    go_wp2_with fail
    refine ⟨⟨2+1,by omega,rfl,lh (by rw [HMo.out];exact HO6.out),lh (HQk.out.trans ((Only.refl [g] wr).drew.trans HQ6.out (fun _ h _=>h) (fun _ h _=>h)) (fun _ h _=>h) (fun _ h _=>h))⟩,by simp [intOf]⟩
   ·have hsm:=HSq.out.small 3 (by omega)
    have hC:=one_any (f:=FK) (x:=x+4) (y:=y+4) (n:=4) (mode:=m3) (q:=q) (w:=wr.drew) hfk (by rw [hfl];exact HOk.out.quiet (Only.refl _ _).drew) ((hsm.only HQk.out (by rw [List.forall_mem_singleton];exact Hap.out)).quiet (Only.refl _ _).drew) Hap.out (.inl rfl) (HS3.out 3 (by omega)).1 (HS3.out 3 (by omega)).2 Hq.out (by have:=HMd.out 3 (by omega);rw [Hms.out] at this;exact this) (by omega) (by rw [hfw];omega) (by omega) (by rw [hfh];omega)
    rw [hfw,hfh,hfl] at hC
    have HC:Hid (Calls Tryz.prog 103 #[.agg #[.int .i64 f.W,.int .i64 f.H,.slice (some ⟨g,0,none⟩) f.pix.length cap],.int .i64 (x+4),.int .i64 (y+4),.int .i64 4,.int .i64 m3,.int .i64 q,.slice a3 n3 c3] wr.drew fun e w'=>e=.returned (.tuple #[])∧Own .i64 3 base w' (.slice (some ⟨g,0,none⟩) f.pix.length cap) (oneD FK (x+4) (y+4) 4 m3 q (s.small.getD 3 [])).pix∧Only [g] wr.drew w'):=lh hC
    clear hC hsm
    have HMo:Hid ((List.range (3+1)).foldl (smallD x y q s) f=oneD FK (x+4) (y+4) 4 m3 q (s.small.getD 3 [])):=lh (by rw [List.range_succ,List.foldl_append,hFK];show oneD FK (x+((3 % 2:Nat):Int)*4) (y+((3 / 2:Nat):Int)*4) 4 (s.modes.getD 3 0) q (s.small.getD 3 [])=_;rw [Hms.out];simp)
    clear hFK
    have hidx:∀ W:World,(Instr.index 135 (.agg #[.slice a0 n0 c0,.slice a1 n1 c1,.slice a2 n2 c2,.slice a3 n3 c3]) (.int .i64 3)).run Tryz.prog W=.ok (.slice a3 n3 c3) W:=fun W=>by kernel_rfl
    rw [show ((3:Nat):Int)=3 from rfl]
    have ex:IntKind.i64.wrap (x+4)=x+4:=by rw [IntKind.wrap_i64];omega
    have ex1:wrap64 (x+4)=x+4:=by unfold wrap64;omega
    have ey:IntKind.i64.wrap (y+4)=y+4:=by rw [IntKind.wrap_i64];omega
    have w0:IntKind.i64.wrap 0=0:=by rw [IntKind.wrap_i64];omega
    have w1:IntKind.i64.wrap 1=1:=by rw [IntKind.wrap_i64];omega
    have w4:IntKind.i64.wrap 4=4:=by rw [IntKind.wrap_i64];omega
    go_wp2_with fail
    refine wp_region_held_drew (S:=(fun w'=>w'.heap[w.heap.size]?=some (.cells #[.int .i64 f.W,.int .i64 f.H,.slice (some ⟨g,0,none⟩) f.pix.length cap] 70 (0,0))∧w'.heap[w.heap.size+1+1]?=some (.cells #[.int .i64 3,.int .i64 mo,.int .i64 m0,.int .i64 m1,.int .i64 m2,.int .i64 m3,.int .i64 s.vx,.int .i64 s.vy,.slice la s.large.length lcap,.slice a0 n0 c0,.slice a1 n1 c1,.slice a2 n2 c2,.slice a3 n3 c3] 137 (0,0)))) (by kernel_rfl) ?_ (fun hHeld=>?_)
    ·exact ⟨hrA,hrC⟩
    refine tkw 0 22 ⟨rfl,qDLayMt5⟩ ?_
    refine tkw 1 23 ⟨rfl,qDLayMt5⟩ ?_
    refine tkw 2 24 ⟨rfl,qDLayMt5⟩ ?_
    refine tkw 3 25 ⟨rfl,qDLayMt5⟩ ?_
    refine tkw 4 26 ⟨rfl,qDLayMt5⟩ ?_
    refine tkw 5 27 ⟨rfl,qDLayMt5⟩ ?_
    refine tkw 6 28 ⟨rfl,qDLayMt5⟩ ?_
    refine tkw 7 29 ⟨rfl,qDLayMt5⟩ ?_
    refine tkw 8 30 ⟨rfl,qDLayMt5⟩ ?_
    refine tkw 9 31 ⟨rfl,qDLayMt5⟩ ?_
    refine tkw 10 32 ⟨rfl,qDLayMt5⟩ ?_
    refine tkw 11 33 ⟨rfl,qDLayMt5⟩ ?_
    refine tkw 12 34 ⟨rfl,qDLayMt5⟩ ?_
    refine tkw 13 35 ⟨rfl,qDLayMt5⟩ ?_
    refine tkw 14 36 ⟨rfl,qDLayMt5⟩ ?_
    refine tkw 15 37 ⟨rfl,qDLayMt5⟩ ?_
    refine tkw 16 38 ⟨rfl,qDLayMt5⟩ ?_
    refine rdy (rdc 17 39 (fun K hK=>?_) .nil)
    go_simp
    go_at_call 103
    refine (HC.out).mono ?_
    rintro e w6 ⟨rfl,hown6,hq6⟩
    have HQ6:=lh hq6
    have HO6:=lh hown6
    have hr60:=hq6.rowAt hrA (by rw [mSg];have:=HgL.out;omega)
    have hr62:=hq6.rowAt hrC (by rw [mSg];have:=HgL.out;omega)
    clear hown6 hq6
    refine hK.out _ _ ?_ (fun hHeld=>?_)
    ·exact ⟨hr60,hr62⟩
    clear hK K
    try simp only [Act.put,List.setIfInBounds_toArray,List.set_cons_zero,List.set_cons_succ]
    refine wpAnyH_done (by kernel_rfl) ?_ _
    go_wp2_with fail
    refine ⟨⟨3+1,by omega,rfl,lh (by rw [HMo.out];exact HO6.out),lh (HQk.out.trans ((Only.refl [g] wr).drew.trans HQ6.out (fun _ h _=>h) (fun _ h _=>h)) (fun _ h _=>h) (fun _ h _=>h))⟩,by simp [intOf]⟩
  ·obtain rfl:k=4:=by omega
   rw [show ((4:Nat):Int)=4 from rfl]
   go_wp2_with fail
   refine bodyPost_end (results_none Tryz.results53 _ _ _) rfl (HPost.out _ _ ⟨rfl,?_,HQ1.out.trans HQk.out (by simp) (fun g h _=>h)⟩)
   rw [HD.out]
   exact HOk.out
theorem lay_m_any (hf:FrOk f) (h:LayIn base g cap lo1 hi1 lo hi w f prev pv s lv vs) (hpr:s.kind<2→FrOk prev) (hs:SqMay s) (hmo:s.kind=2→mo=s.mode) (hml:s.modes.length=4) (hq:q≤15) (hx:0≤x) (hxn:x+8≤f.W) (hy:0≤y) (hyn:y+8≤f.H) :
  Calls Tryz.prog 53 #[.agg #[.int .i64 f.W,.int .i64 f.H,.slice (some ⟨g,0,none⟩) f.pix.length cap],.agg #[.int .i64 prev.W,.int .i64 prev.H,pv],.int .i64 x,.int .i64 y,.int .i64 q,.agg (sqL s.kind mo s.modes s.vx s.vy lv vs).toArray] w fun e w'=>e=.returned (.tuple #[])∧Own .i64 3 base w' (.slice (some ⟨g,0,none⟩) f.pix.length cap) (laySq f prev x y q s).pix∧Only [g] w w':=by
 rcases (by have:=hs.kind;omega:s.kind=0∨s.kind=1∨s.kind=2∨s.kind=3) with hk | hk | hk | hk
 ·exact lay_m0 hk hf h (hpr (by omega)) hs hml hq hx hxn hy hyn
 ·exact lay_m1 hk hf h (hpr (by omega)) hs hml hq hx hxn hy hyn
 ·rw [hmo hk]
  exact lay_m2 hk hf h hs hml hq hx hxn hy hyn
 ·exact lay_m3 hk hf h hs hml hq hx hxn hy hyn
theorem lay_sq_any (hf:FrOk f) (h:LayIn base g cap lo1 hi1 lo hi w f prev pv s lv vs) (hpr:s.kind<2→FrOk prev) (hs:SqOk s) (hml:s.modes.length=4) (hq:q≤15) (hx:0≤x) (hxn:x+8≤f.W) (hy:0≤y) (hyn:y+8≤f.H) :
  Calls Tryz.prog 53 #[.agg #[.int .i64 f.W,.int .i64 f.H,.slice (some ⟨g,0,none⟩) f.pix.length cap],.agg #[.int .i64 prev.W,.int .i64 prev.H,pv],.int .i64 x,.int .i64 y,.int .i64 q,.agg (sqL s.kind s.mode s.modes s.vx s.vy lv vs).toArray] w fun e w'=>e=.returned (.tuple #[])∧Own .i64 3 base w' (.slice (some ⟨g,0,none⟩) f.pix.length cap) (laySq f prev x y q s).pix∧Only [g] w w':=by
 exact lay_m_any (mo:=s.mode) hf h hpr ⟨hs.kind,fun _=>hs.mode,hs.large,fun _=>hs.vec,hs.small⟩ (fun _=>rfl) hml hq hx hxn hy hyn
end
end Go.Proofs.YtmdobcffijnaoaaGreatDoor
