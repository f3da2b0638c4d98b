/- Joined texts: DFrA, DFrB, DFrC. Conditions: each part names its own. -/
import Derived.Test.YtmdobcffijnaoaaGreatDoorT1
import Derived.Test.YtmdobcffijnaoaaGreatDoorS5
import Derived.Test.YtmdobcffijnaoaaGreatDoorS4
import Derived.Test.YtmdobcffijnaoaaGreatDoorC3
import Derived.Test.YtmdobcffijnaoaaGreatDoorK1
import Derived.Test.YtmdobcffijnaoaaGreatDoorK6
namespace Go.Proofs.YtmdobcffijnaoaaGreatDoor
open Go.RowKit
set_option linter.unusedVariables false
set_option linter.unusedSimpArgs false
set_option maxRecDepth 100000
set_option maxHeartbeats 16000000
/-- what a frame is handed back as -/
def FrameP (w:World) (r:Except Err FrameD) (e:Ending) (w':World):Prop :=
 Only [] w w'∧match r with
  | .ok f=>∃ g cap,e=.returned (.tuple #[.agg #[.int .i64 f.W,.int .i64 f.H,.slice (some ⟨g,0,none⟩) f.pix.length cap],.nilIface])∧Own .i64 3 w.heap.size w' (.slice (some ⟨g,0,none⟩) f.pix.length cap) f.pix
  | .error er=>∃ ev,e=.returned (.tuple #[.agg #[.int .i64 0,.int .i64 0,.slice none 0 0],ev])∧ErrV w.heap.size w'.heap.size w' ev er
theorem FrameP.bad {w w':World} {er:Err} {e:Ending} {ev:Value} (o:Only [] w w') (he:e=.returned (.tuple #[.agg #[.int .i64 0,.int .i64 0,.slice none 0 0],ev])) (hv:ErrV w.heap.size w'.heap.size w' ev er):FrameP w (.error er) e w':=⟨o,ev,he,hv⟩
theorem row3_set {w:World} {g:Nat} {a b c x y z:Value} {t:TypeId} (h:w.heap[g]?=some (.cells #[a,b,c] t (0,0))) :
  (((w.setCell ⟨g,0,none⟩ x).setCell ⟨g,1,none⟩ y).setCell ⟨g,2,none⟩ z).heap[g]?=some (.cells #[x,y,z] t (0,0))∧Only [g] w (((w.setCell ⟨g,0,none⟩ x).setCell ⟨g,1,none⟩ y).setCell ⟨g,2,none⟩ z):=by
 have h1:=heap_setCell_same w g 0 _ _ x h
 have h2:=heap_setCell_same _ g 1 _ _ y h1
 have h3:=heap_setCell_same _ g 2 _ _ z h2
 exact ⟨h3,(((Only.refl _ _).setCell (by simp) _).setCell (by simp) _).setCell (by simp) _⟩
section
variable {lo hi lo' hi':Nat} {dv pv:Value} {w:World} {c:Coded} {prev:FrameD} {l:List Int} {W H:Int}
theorem frame_sides (hd:Ints .u8 lo hi w dv c.data) (hp:Ints .i64 lo' hi' w pv prev.pix) (hn:newB W H 128=false) :
  Calls Tryz.prog 27 #[.agg #[.int .i64 c.kind,dv],.agg #[.int .i64 prev.W,.int .i64 prev.H,pv],.int .i64 W,.int .i64 H] w (FrameP w (.error ⟨[],3⟩)):=by
 refine hidQ fun Q HPost=>?_
 obtain ⟨da,dcap,rfl,-⟩:=hd.open
 obtain ⟨pa,pcap,rfl,-⟩:=hp.open
 obtain ⟨hq1,HB0,HB1,HB2,-⟩:=boxes3 w (.cells #[.int .i64 c.kind,.slice da c.data.length dcap] 83) (.cells #[.int .i64 prev.W,.int .i64 prev.H,.slice pa prev.pix.length pcap] 70) (.cells #[.int .i64 0,.int .i64 0,.slice none 0 0] 70)
 have HQ1:=lh hq1
 have HD:=lh (hd.quiet hq1)
 have HPv:=lh (hp.quiet hq1)
 have HZ3:Hid (w.heap.size+1+1<(((w.alloc (.cells #[.int .i64 c.kind,.slice da c.data.length dcap] 83)).alloc (.cells #[.int .i64 prev.W,.int .i64 prev.H,.slice pa prev.pix.length pcap] 70)).alloc (.cells #[.int .i64 0,.int .i64 0,.slice none 0 0] 70)).heap.size):=lh (by simp)
 clear hd hp hq1
 go_enter Tryz.func27,Tryz.ntmps27
 go_wp2_with fail
 generalize hW3:World.alloc (World.alloc (World.alloc w _) _) _=W3 at *
 clear hW3
 go_at_call 29
 refine (pnew_any W H 128 W3).mono ?_
 rintro e W4 ⟨hq4,hm⟩
 rw [hn] at hm
 subst hm
 have HQ4:=lh (HQ1.out.q hq4)
 have hr:=hq4.row HB2.out
 have HR:=lh hr
 obtain ⟨z0,z1,z2⟩:=frame_cells hr
 have fz0:=frozen_of_row _ _ 0 _ _ hr
 have fz1:=frozen_of_row _ _ 1 _ _ hr
 have fz2:=frozen_of_row _ _ 2 _ _ hr
 have HZ4:=lh (Nat.lt_of_lt_of_le HZ3.out hq4.size)
 have n1:¬ W4.heap.size=w.heap.size+1+1:=by have:=HZ4.out;omega
 have n2:¬ w.heap.size+1+1=W4.heap.size:=by have:=HZ4.out;omega
 have n3:w.heap.size+1+1<W4.heap.size:=HZ4.out
 clear hq4 hn hr
 go_wp2_with fail
 obtain ⟨hrow,hon⟩:=row3_set (x:=(.int .i64 0)) (y:=(.int .i64 0)) (z:=(.slice none 0 0)) HR.out
 have hall:=HQ4.out.trans hon (U:=[]) (by simp) (fun g hg hlt=>by rw [mSg] at hg;omega)
 have hrow2:=(Only.new _ (.cells #[.int .i64 0,.int .i64 0,.slice none 0 0] 70)).row hrow
 have hall2:=hall.q (Only.new _ (.cells #[.int .i64 0,.int .i64 0,.slice none 0 0] 70))
 refine bodyPost_ret (v:=.tuple #[.agg #[(.int .i64 0),(.int .i64 0),(.slice none 0 0)],.iface 29 (.int .i64 3)]) (results_cell_row2 Tryz.results27 _ _ (w.heap.size+1+1) _ _ _ _ _ rfl rfl hrow2 Tryz.underlying70 rfl (by kernel_rfl)) rfl (HPost.out _ _ (FrameP.bad hall2 rfl (ErrV.code _ _ _ _)))
theorem frame_unit (hd:Ints .u8 lo hi w dv c.data) (hp:Ints .i64 lo' hi' w pv prev.pix) {k:Int} (hn:newB W H 128=true) (hk:readB c=some k) :
  Calls Tryz.prog 27 #[.agg #[.int .i64 c.kind,dv],.agg #[.int .i64 prev.W,.int .i64 prev.H,pv],.int .i64 W,.int .i64 H] w (FrameP w (.error ⟨[],k⟩)):=by
 refine hidQ fun Q HPost=>?_
 obtain ⟨da,dcap,rfl,-⟩:=hd.open
 obtain ⟨pa,pcap,rfl,-⟩:=hp.open
 obtain ⟨hq1,HB0,HB1,HB2,-⟩:=boxes3 w (.cells #[.int .i64 c.kind,.slice da c.data.length dcap] 83) (.cells #[.int .i64 prev.W,.int .i64 prev.H,.slice pa prev.pix.length pcap] 70) (.cells #[.int .i64 0,.int .i64 0,.slice none 0 0] 70)
 have HQ1:=lh hq1
 have HD:=lh (hd.quiet hq1)
 have HPv:=lh (hp.quiet hq1)
 have HZ3:Hid (w.heap.size+1+1<(((w.alloc (.cells #[.int .i64 c.kind,.slice da c.data.length dcap] 83)).alloc (.cells #[.int .i64 prev.W,.int .i64 prev.H,.slice pa prev.pix.length pcap] 70)).alloc (.cells #[.int .i64 0,.int .i64 0,.slice none 0 0] 70)).heap.size):=lh (by simp)
 clear hd hp hq1
 go_enter Tryz.func27,Tryz.ntmps27
 go_wp2_with fail
 generalize hW3:World.alloc (World.alloc (World.alloc w _) _) _=W3 at *
 clear hW3
 go_at_call 29
 refine (pnewD_any W H 128 W3 hn).mono ?_
 rintro e W4 ⟨g,gcap,rfl,hown,hq4⟩
 have HN:=lh hn
 have HF0:=lh (newF_ok hn)
 have HFe:Hid (newF W H 128=newF W H 128):=lh rfl
 have HFW:Hid ((newF W H 128).W=W∧(newF W H 128).H=H):=lh ⟨rfl,rfl⟩
 generalize hF0:newF W H 128=F0 at *
 have HFF:=lh hF0
 clear hF0 HFe
 have Hgat:=lh ((hown.at g rfl))
 have HOwn4:=lh hown
 have HQ4:=lh (HQ1.out.q hq4)
 have HZ4:=lh (Nat.lt_of_lt_of_le HZ3.out hq4.size)
 have b0:=hq4.row HB0.out
 obtain ⟨k0,k1⟩:=row2 b0
 have HR0:=lh b0
 have HR1:=lh (hq4.row HB1.out)
 have HR2:=lh (hq4.row HB2.out)
 have n1:¬ W4.heap.size=w.heap.size:=by have:=HZ4.out;omega
 have n2:¬ w.heap.size=W4.heap.size:=by have:=HZ4.out;omega
 have HD4:=lh (HD.out.quiet hq4)
 have HP4:=lh (HPv.out.quiet hq4)
 clear hq4 hn hown b0
 go_wp2_with fail
 have hnew:=Only.new W4 (.cells #[.int .i64 W,.int .i64 H,.slice (some ⟨g,0,none⟩) F0.pix.length gcap] 70)
 have HRT:Hid ((W4.alloc (.cells #[.int .i64 W,.int .i64 H,.slice (some ⟨g,0,none⟩) F0.pix.length gcap] 70)).heap[W4.heap.size]?=some (.cells #[.int .i64 W,.int .i64 H,.slice (some ⟨g,0,none⟩) F0.pix.length gcap] 70 (0,0))):=lh (heap_alloc_new W4 _)
 have HQ5:=lh (HQ4.out.q hnew)
 have HR05:=lh (hnew.row HR0.out)
 have HR15:=lh (hnew.row HR1.out)
 have HR25:=lh (hnew.row HR2.out)
 have HD5:=lh (HD4.out.quiet hnew)
 have HP5:=lh (HP4.out.quiet hnew)
 have HO5:=lh (HOwn4.out.quiet hnew)
 have HZ5:Hid (W4.heap.size<(W4.alloc (.cells #[.int .i64 W,.int .i64 H,.slice (some ⟨g,0,none⟩) F0.pix.length gcap] 70)).heap.size):=lh (by simp)
 clear hnew k0 k1 n1 n2
 generalize hW5:World.alloc W4 _=W5 at *
 clear hW5
 go_at_call 49
 refine (show Calls Tryz.prog 49 #[.agg #[.int .i64 c.kind,.slice da c.data.length dcap]] W5 (HeadOr W5 c) from read_any HD5.out).mono ?_
 rintro e W6 ⟨hq6,hm⟩
 rw [hk] at hm
 subst hm
 have HQ6:=lh (HQ5.out.q hq6)
 have HR06:=lh (hq6.row HR05.out)
 have HR16:=lh (hq6.row HR15.out)
 have HR26:=lh (hq6.row HR25.out)
 have HRT6:=lh (hq6.row HRT.out)
 have HP6:=lh (HP5.out.quiet hq6)
 have HO6:=lh (HO5.out.quiet hq6)
 have HZ6:=lh (show w.heap.size+1+1<W6.heap.size∧W4.heap.size<W6.heap.size∧g<W6.heap.size by have:=hq6.size;have:=HZ4.out;have:=HZ5.out;have:=Hgat.out.2;omega)
 have n1:¬ W6.heap.size=w.heap.size+1+1:=by have:=HZ6.out;omega
 have n2:¬ w.heap.size+1+1=W6.heap.size:=by have:=HZ6.out;omega
 have n3:w.heap.size+1+1<W6.heap.size:=HZ6.out.1
 have n4:¬ W6.heap.size=w.heap.size+1:=by have:=HZ6.out;omega
 have n5:¬ w.heap.size+1=W6.heap.size:=by have:=HZ6.out;omega
 have n6:w.heap.size+1<W6.heap.size:=by have:=HZ6.out;omega
 obtain ⟨z0,z1,z2⟩:=frame_cells HR26.out
 have fz0:=frozen_of_row _ _ 0 _ _ HR26.out
 have fz1:=frozen_of_row _ _ 1 _ _ HR26.out
 have fz2:=frozen_of_row _ _ 2 _ _ HR26.out
 clear hq6 hk
 go_wp2_with fail
 obtain ⟨hrow,hon⟩:=row3_set (x:=(.int .i64 0)) (y:=(.int .i64 0)) (z:=(.slice none 0 0)) HR26.out
 have hall:=HQ6.out.trans hon (U:=[]) (by simp) (fun g hg hlt=>by rw [mSg] at hg;omega)
 have hrow2:=(Only.new _ (.cells #[.int .i64 0,.int .i64 0,.slice none 0 0] 126)).row hrow
 have hall2:=hall.q (Only.new _ (.cells #[.int .i64 0,.int .i64 0,.slice none 0 0] 126))
 refine bodyPost_ret (v:=.tuple #[.agg #[(.int .i64 0),(.int .i64 0),(.slice none 0 0)],.iface 29 (.int .i64 k)]) (results_cell_row2 Tryz.results27 _ _ (w.heap.size+1+1) _ _ _ _ _ rfl rfl hrow2 Tryz.underlying70 rfl (by kernel_rfl)) rfl (HPost.out _ _ (FrameP.bad hall2 rfl (ErrV.code _ _ _ _)))
theorem qDFrA0 {p:Prop} (h:p:=by
 clear hnew7
 generalize hW7:World.alloc W6 _=W7 at *
 clear hW7
 go_at_call 50
 have hmt:=mates_any prev.W prev.H W H HP7.out
 rw [hma] at hmt
 have Hmt:=lh hmt
 clear hmt hma p0 p1 p2 k0 k1
 refine Hmt.out.mono ?_
 rintro e W8 ⟨rfl,hq8⟩
 have HQ8:=lh (HQ7.out.q hq8)
 have HR28:=lh (hq8.row HR27.out)
 obtain ⟨z0,z1,z2⟩:=frame_cells HR28.out
 have fz0:=frozen_of_row _ _ 0 _ _ HR28.out
 have fz1:=frozen_of_row _ _ 1 _ _ HR28.out
 have fz2:=frozen_of_row _ _ 2 _ _ HR28.out
 clear hq8 n1 n2 n3 n4 n5 n6
 go_wp2_with fail
 obtain ⟨hrow,hon⟩:=row3_set (x:=(.int .i64 0)) (y:=(.int .i64 0)) (z:=(.slice none 0 0)) HR28.out
 have hall:=HQ8.out.trans hon (U:=[]) (by simp) (fun g hg hlt=>by rw [mSg] at hg;omega)
 have hrow2:=hrow
 have hall2:=hall
 refine bodyPost_ret (v:=.tuple #[.agg #[(.int .i64 0),(.int .i64 0),(.slice none 0 0)],.iface 29 (.int .i64 12)]) (results_cell_row2 Tryz.results27 _ _ (w.heap.size+1+1) _ _ _ _ _ rfl rfl hrow2 Tryz.underlying70 rfl (by kernel_rfl)) rfl (HPost.out _ _ (FrameP.bad hall2 rfl (ErrV.code _ _ _ _)))):p:=h
theorem frame_mates2 (hd:Ints .u8 lo hi w dv l) (hp:Ints .i64 lo' hi' w pv prev.pix) (hn:newB W H 128=true) (hk:readB ⟨2,l⟩=none) (hma:matesB prev W H=false) :
  Calls Tryz.prog 27 #[.agg #[.int .i64 2,dv],.agg #[.int .i64 prev.W,.int .i64 prev.H,pv],.int .i64 W,.int .i64 H] w (FrameP w (.error ⟨[],12⟩)):=by
 refine hidQ fun Q HPost=>?_
 obtain ⟨da,dcap,rfl,-⟩:=hd.open
 obtain ⟨pa,pcap,rfl,-⟩:=hp.open
 obtain ⟨hq1,HB0,HB1,HB2,-⟩:=boxes3 w (.cells #[.int .i64 2,.slice da l.length dcap] 83) (.cells #[.int .i64 prev.W,.int .i64 prev.H,.slice pa prev.pix.length pcap] 70) (.cells #[.int .i64 0,.int .i64 0,.slice none 0 0] 70)
 have HQ1:=lh hq1
 have HD:=lh (hd.quiet hq1)
 have HPv:=lh (hp.quiet hq1)
 have HZ3:Hid (w.heap.size+1+1<(((w.alloc (.cells #[.int .i64 2,.slice da l.length dcap] 83)).alloc (.cells #[.int .i64 prev.W,.int .i64 prev.H,.slice pa prev.pix.length pcap] 70)).alloc (.cells #[.int .i64 0,.int .i64 0,.slice none 0 0] 70)).heap.size):=lh (by simp)
 clear hd hp hq1
 go_enter Tryz.func27,Tryz.ntmps27
 go_wp2_with fail
 generalize hW3:World.alloc (World.alloc (World.alloc w _) _) _=W3 at *
 clear hW3
 go_at_call 29
 refine (pnewD_any W H 128 W3 hn).mono ?_
 rintro e W4 ⟨g,gcap,rfl,hown,hq4⟩
 have HN:=lh hn
 have HF0:=lh (newF_ok hn)
 have HFe:Hid (newF W H 128=newF W H 128):=lh rfl
 have HFW:Hid ((newF W H 128).W=W∧(newF W H 128).H=H):=lh ⟨rfl,rfl⟩
 generalize hF0:newF W H 128=F0 at *
 have HFF:=lh hF0
 clear hF0 HFe
 have Hgat:=lh ((hown.at g rfl))
 have HOwn4:=lh hown
 have HQ4:=lh (HQ1.out.q hq4)
 have HZ4:=lh (Nat.lt_of_lt_of_le HZ3.out hq4.size)
 have b0:=hq4.row HB0.out
 obtain ⟨k0,k1⟩:=row2 b0
 have HR0:=lh b0
 have HR1:=lh (hq4.row HB1.out)
 have HR2:=lh (hq4.row HB2.out)
 have n1:¬ W4.heap.size=w.heap.size:=by have:=HZ4.out;omega
 have n2:¬ w.heap.size=W4.heap.size:=by have:=HZ4.out;omega
 have HD4:=lh (HD.out.quiet hq4)
 have HP4:=lh (HPv.out.quiet hq4)
 clear hq4 hn hown b0
 go_wp2_with fail
 have hnew:=Only.new W4 (.cells #[.int .i64 W,.int .i64 H,.slice (some ⟨g,0,none⟩) F0.pix.length gcap] 70)
 have HRT:Hid ((W4.alloc (.cells #[.int .i64 W,.int .i64 H,.slice (some ⟨g,0,none⟩) F0.pix.length gcap] 70)).heap[W4.heap.size]?=some (.cells #[.int .i64 W,.int .i64 H,.slice (some ⟨g,0,none⟩) F0.pix.length gcap] 70 (0,0))):=lh (heap_alloc_new W4 _)
 have HQ5:=lh (HQ4.out.q hnew)
 have HR05:=lh (hnew.row HR0.out)
 have HR15:=lh (hnew.row HR1.out)
 have HR25:=lh (hnew.row HR2.out)
 have HD5:=lh (HD4.out.quiet hnew)
 have HP5:=lh (HP4.out.quiet hnew)
 have HO5:=lh (HOwn4.out.quiet hnew)
 have HZ5:Hid (W4.heap.size<(W4.alloc (.cells #[.int .i64 W,.int .i64 H,.slice (some ⟨g,0,none⟩) F0.pix.length gcap] 70)).heap.size):=lh (by simp)
 clear hnew k0 k1 n1 n2
 generalize hW5:World.alloc W4 _=W5 at *
 clear hW5
 go_at_call 49
 refine (show Calls Tryz.prog 49 #[.agg #[.int .i64 2,.slice da l.length dcap]] W5 (HeadOr W5 ⟨2,l⟩) from read_any HD5.out).mono ?_
 rintro e W6 ⟨hq6,hm⟩
 rw [hk] at hm
 obtain ⟨dv2,rfl,hi2⟩:=hm
 obtain ⟨ea,ecap,rfl,-⟩:=hi2.open
 have HI2:=lh hi2
 generalize hel:(l.drop 1).length=el at *
 have Hel:=lh hel
 clear hel hi2
 generalize hq0:l.getD 0 0=q0 at *
 have Hq0:=lh hq0
 clear hq0
 have HQ6:=lh (HQ5.out.q hq6)
 have HR06:=lh (hq6.row HR05.out)
 have HR16:=lh (hq6.row HR15.out)
 have HR26:=lh (hq6.row HR25.out)
 have HRT6:=lh (hq6.row HRT.out)
 have HP6:=lh (HP5.out.quiet hq6)
 have HO6:=lh (HO5.out.quiet hq6)
 have HZ6:=lh (show w.heap.size+1+1<W6.heap.size∧W4.heap.size<W6.heap.size∧g<W6.heap.size by have:=hq6.size;have:=HZ4.out;have:=HZ5.out;have:=Hgat.out.2;omega)
 have n1:¬ W6.heap.size=w.heap.size+1+1:=by have:=HZ6.out;omega
 have n2:¬ w.heap.size+1+1=W6.heap.size:=by have:=HZ6.out;omega
 have n3:w.heap.size+1+1<W6.heap.size:=HZ6.out.1
 have n4:¬ W6.heap.size=w.heap.size+1:=by have:=HZ6.out;omega
 have n5:¬ w.heap.size+1=W6.heap.size:=by have:=HZ6.out;omega
 have n6:w.heap.size+1<W6.heap.size:=by have:=HZ6.out;omega
 obtain ⟨p0,p1,p2⟩:=frame_cells HR16.out
 clear hq6 hk
 obtain ⟨k0,k1⟩:=row2 HR06.out
 go_wp2_with fail
 have hnew7:=Only.new W6 (.cells #[.int .i64 2,.int .i64 q0,.slice ea el ecap] 126)
 have HQ7:=lh (HQ6.out.q hnew7)
 have HRH:Hid ((W6.alloc (.cells #[.int .i64 2,.int .i64 q0,.slice ea el ecap] 126)).heap[W6.heap.size]?=some (.cells #[.int .i64 2,.int .i64 q0,.slice ea el ecap] 126 (0,0))):=lh (heap_alloc_new W6 _)
 have HR07:=lh (hnew7.row HR06.out)
 have HR17:=lh (hnew7.row HR16.out)
 have HR27:=lh (hnew7.row HR26.out)
 have HRT7:=lh (hnew7.row HRT6.out)
 have HP7:=lh (HP6.out.quiet hnew7)
 have HO7:=lh (HO6.out.quiet hnew7)
 have HI7:=lh (HI2.out.quiet hnew7)
 have HZ7:Hid (W6.heap.size<(W6.alloc (.cells #[.int .i64 2,.int .i64 q0,.slice ea el ecap] 126)).heap.size):=lh (by simp)
 exact qDFrA0
theorem frame_mates3 (hd:Ints .u8 lo hi w dv l) (hp:Ints .i64 lo' hi' w pv prev.pix) (hn:newB W H 128=true) (hk:readB ⟨3,l⟩=none) (hma:matesB prev W H=false) :
  Calls Tryz.prog 27 #[.agg #[.int .i64 3,dv],.agg #[.int .i64 prev.W,.int .i64 prev.H,pv],.int .i64 W,.int .i64 H] w (FrameP w (.error ⟨[],12⟩)):=by
 refine hidQ fun Q HPost=>?_
 obtain ⟨da,dcap,rfl,-⟩:=hd.open
 obtain ⟨pa,pcap,rfl,-⟩:=hp.open
 obtain ⟨hq1,HB0,HB1,HB2,-⟩:=boxes3 w (.cells #[.int .i64 3,.slice da l.length dcap] 83) (.cells #[.int .i64 prev.W,.int .i64 prev.H,.slice pa prev.pix.length pcap] 70) (.cells #[.int .i64 0,.int .i64 0,.slice none 0 0] 70)
 have HQ1:=lh hq1
 have HD:=lh (hd.quiet hq1)
 have HPv:=lh (hp.quiet hq1)
 have HZ3:Hid (w.heap.size+1+1<(((w.alloc (.cells #[.int .i64 3,.slice da l.length dcap] 83)).alloc (.cells #[.int .i64 prev.W,.int .i64 prev.H,.slice pa prev.pix.length pcap] 70)).alloc (.cells #[.int .i64 0,.int .i64 0,.slice none 0 0] 70)).heap.size):=lh (by simp)
 clear hd hp hq1
 go_enter Tryz.func27,Tryz.ntmps27
 go_wp2_with fail
 generalize hW3:World.alloc (World.alloc (World.alloc w _) _) _=W3 at *
 clear hW3
 go_at_call 29
 refine (pnewD_any W H 128 W3 hn).mono ?_
 rintro e W4 ⟨g,gcap,rfl,hown,hq4⟩
 have HN:=lh hn
 have HF0:=lh (newF_ok hn)
 have HFe:Hid (newF W H 128=newF W H 128):=lh rfl
 have HFW:Hid ((newF W H 128).W=W∧(newF W H 128).H=H):=lh ⟨rfl,rfl⟩
 generalize hF0:newF W H 128=F0 at *
 have HFF:=lh hF0
 clear hF0 HFe
 have Hgat:=lh ((hown.at g rfl))
 have HOwn4:=lh hown
 have HQ4:=lh (HQ1.out.q hq4)
 have HZ4:=lh (Nat.lt_of_lt_of_le HZ3.out hq4.size)
 have b0:=hq4.row HB0.out
 obtain ⟨k0,k1⟩:=row2 b0
 have HR0:=lh b0
 have HR1:=lh (hq4.row HB1.out)
 have HR2:=lh (hq4.row HB2.out)
 have n1:¬ W4.heap.size=w.heap.size:=by have:=HZ4.out;omega
 have n2:¬ w.heap.size=W4.heap.size:=by have:=HZ4.out;omega
 have HD4:=lh (HD.out.quiet hq4)
 have HP4:=lh (HPv.out.quiet hq4)
 clear hq4 hn hown b0
 go_wp2_with fail
 have hnew:=Only.new W4 (.cells #[.int .i64 W,.int .i64 H,.slice (some ⟨g,0,none⟩) F0.pix.length gcap] 70)
 have HRT:Hid ((W4.alloc (.cells #[.int .i64 W,.int .i64 H,.slice (some ⟨g,0,none⟩) F0.pix.length gcap] 70)).heap[W4.heap.size]?=some (.cells #[.int .i64 W,.int .i64 H,.slice (some ⟨g,0,none⟩) F0.pix.length gcap] 70 (0,0))):=lh (heap_alloc_new W4 _)
 have HQ5:=lh (HQ4.out.q hnew)
 have HR05:=lh (hnew.row HR0.out)
 have HR15:=lh (hnew.row HR1.out)
 have HR25:=lh (hnew.row HR2.out)
 have HD5:=lh (HD4.out.quiet hnew)
 have HP5:=lh (HP4.out.quiet hnew)
 have HO5:=lh (HOwn4.out.quiet hnew)
 have HZ5:Hid (W4.heap.size<(W4.alloc (.cells #[.int .i64 W,.int .i64 H,.slice (some ⟨g,0,none⟩) F0.pix.length gcap] 70)).heap.size):=lh (by simp)
 clear hnew k0 k1 n1 n2
 generalize hW5:World.alloc W4 _=W5 at *
 clear hW5
 go_at_call 49
 refine (show Calls Tryz.prog 49 #[.agg #[.int .i64 3,.slice da l.length dcap]] W5 (HeadOr W5 ⟨3,l⟩) from read_any HD5.out).mono ?_
 rintro e W6 ⟨hq6,hm⟩
 rw [hk] at hm
 obtain ⟨dv2,rfl,hi2⟩:=hm
 obtain ⟨ea,ecap,rfl,-⟩:=hi2.open
 have HI2:=lh hi2
 generalize hel:(l.drop 1).length=el at *
 have Hel:=lh hel
 clear hel hi2
 generalize hq0:l.getD 0 0=q0 at *
 have Hq0:=lh hq0
 clear hq0
 have HQ6:=lh (HQ5.out.q hq6)
 have HR06:=lh (hq6.row HR05.out)
 have HR16:=lh (hq6.row HR15.out)
 have HR26:=lh (hq6.row HR25.out)
 have HRT6:=lh (hq6.row HRT.out)
 have HP6:=lh (HP5.out.quiet hq6)
 have HO6:=lh (HO5.out.quiet hq6)
 have HZ6:=lh (show w.heap.size+1+1<W6.heap.size∧W4.heap.size<W6.heap.size∧g<W6.heap.size by have:=hq6.size;have:=HZ4.out;have:=HZ5.out;have:=Hgat.out.2;omega)
 have n1:¬ W6.heap.size=w.heap.size+1+1:=by have:=HZ6.out;omega
 have n2:¬ w.heap.size+1+1=W6.heap.size:=by have:=HZ6.out;omega
 have n3:w.heap.size+1+1<W6.heap.size:=HZ6.out.1
 have n4:¬ W6.heap.size=w.heap.size+1:=by have:=HZ6.out;omega
 have n5:¬ w.heap.size+1=W6.heap.size:=by have:=HZ6.out;omega
 have n6:w.heap.size+1<W6.heap.size:=by have:=HZ6.out;omega
 obtain ⟨p0,p1,p2⟩:=frame_cells HR16.out
 clear hq6 hk
 obtain ⟨k0,k1⟩:=row2 HR06.out
 go_wp2_with fail
 have hnew7:=Only.new W6 (.cells #[.int .i64 3,.int .i64 q0,.slice ea el ecap] 126)
 have HQ7:=lh (HQ6.out.q hnew7)
 have HRH:Hid ((W6.alloc (.cells #[.int .i64 3,.int .i64 q0,.slice ea el ecap] 126)).heap[W6.heap.size]?=some (.cells #[.int .i64 3,.int .i64 q0,.slice ea el ecap] 126 (0,0))):=lh (heap_alloc_new W6 _)
 have HR07:=lh (hnew7.row HR06.out)
 have HR17:=lh (hnew7.row HR16.out)
 have HR27:=lh (hnew7.row HR26.out)
 have HRT7:=lh (hnew7.row HRT6.out)
 have HP7:=lh (HP6.out.quiet hnew7)
 have HO7:=lh (HO6.out.quiet hnew7)
 have HI7:=lh (HI2.out.quiet hnew7)
 have HZ7:Hid (W6.heap.size<(W6.alloc (.cells #[.int .i64 3,.int .i64 q0,.slice ea el ecap] 126)).heap.size):=lh (by simp)
 exact qDFrA0
theorem frame_flat4 (hd:Ints .u8 lo hi w dv l) (hp:Ints .i64 lo' hi' w pv prev.pix) (hn:newB W H 128=true) (hk:readB ⟨4,l⟩=none) :
  Calls Tryz.prog 27 #[.agg #[.int .i64 4,dv],.agg #[.int .i64 prev.W,.int .i64 prev.H,pv],.int .i64 W,.int .i64 H] w (FrameP w (.ok (newF W H 128))):=by
 refine hidQ fun Q HPost=>?_
 obtain ⟨da,dcap,rfl,-⟩:=hd.open
 obtain ⟨pa,pcap,rfl,-⟩:=hp.open
 obtain ⟨hq1,HB0,HB1,HB2,-⟩:=boxes3 w (.cells #[.int .i64 4,.slice da l.length dcap] 83) (.cells #[.int .i64 prev.W,.int .i64 prev.H,.slice pa prev.pix.length pcap] 70) (.cells #[.int .i64 0,.int .i64 0,.slice none 0 0] 70)
 have HQ1:=lh hq1
 have HD:=lh (hd.quiet hq1)
 have HPv:=lh (hp.quiet hq1)
 have HZ3:Hid (w.heap.size+1+1<(((w.alloc (.cells #[.int .i64 4,.slice da l.length dcap] 83)).alloc (.cells #[.int .i64 prev.W,.int .i64 prev.H,.slice pa prev.pix.length pcap] 70)).alloc (.cells #[.int .i64 0,.int .i64 0,.slice none 0 0] 70)).heap.size):=lh (by simp)
 clear hd hp hq1
 go_enter Tryz.func27,Tryz.ntmps27
 go_wp2_with fail
 generalize hW3:World.alloc (World.alloc (World.alloc w _) _) _=W3 at *
 clear hW3
 go_at_call 29
 refine (pnewD_any W H 128 W3 hn).mono ?_
 rintro e W4 ⟨g,gcap,rfl,hown,hq4⟩
 have HN:=lh hn
 have HF0:=lh (newF_ok hn)
 have HFe:Hid (newF W H 128=newF W H 128):=lh rfl
 have HFW:Hid ((newF W H 128).W=W∧(newF W H 128).H=H):=lh ⟨rfl,rfl⟩
 generalize hF0:newF W H 128=F0 at *
 have HFF:=lh hF0
 clear hF0 HFe
 have Hgat:=lh ((hown.at g rfl))
 have HOwn4:=lh hown
 have HQ4:=lh (HQ1.out.q hq4)
 have HZ4:=lh (Nat.lt_of_lt_of_le HZ3.out hq4.size)
 have b0:=hq4.row HB0.out
 obtain ⟨k0,k1⟩:=row2 b0
 have HR0:=lh b0
 have HR1:=lh (hq4.row HB1.out)
 have HR2:=lh (hq4.row HB2.out)
 have n1:¬ W4.heap.size=w.heap.size:=by have:=HZ4.out;omega
 have n2:¬ w.heap.size=W4.heap.size:=by have:=HZ4.out;omega
 have HD4:=lh (HD.out.quiet hq4)
 have HP4:=lh (HPv.out.quiet hq4)
 clear hq4 hn hown b0
 go_wp2_with fail
 have hnew:=Only.new W4 (.cells #[.int .i64 W,.int .i64 H,.slice (some ⟨g,0,none⟩) F0.pix.length gcap] 70)
 have HRT:Hid ((W4.alloc (.cells #[.int .i64 W,.int .i64 H,.slice (some ⟨g,0,none⟩) F0.pix.length gcap] 70)).heap[W4.heap.size]?=some (.cells #[.int .i64 W,.int .i64 H,.slice (some ⟨g,0,none⟩) F0.pix.length gcap] 70 (0,0))):=lh (heap_alloc_new W4 _)
 have HQ5:=lh (HQ4.out.q hnew)
 have HR05:=lh (hnew.row HR0.out)
 have HR15:=lh (hnew.row HR1.out)
 have HR25:=lh (hnew.row HR2.out)
 have HD5:=lh (HD4.out.quiet hnew)
 have HP5:=lh (HP4.out.quiet hnew)
 have HO5:=lh (HOwn4.out.quiet hnew)
 have HZ5:Hid (W4.heap.size<(W4.alloc (.cells #[.int .i64 W,.int .i64 H,.slice (some ⟨g,0,none⟩) F0.pix.length gcap] 70)).heap.size):=lh (by simp)
 clear hnew k0 k1 n1 n2
 generalize hW5:World.alloc W4 _=W5 at *
 clear hW5
 go_at_call 49
 refine (show Calls Tryz.prog 49 #[.agg #[.int .i64 4,.slice da l.length dcap]] W5 (HeadOr W5 ⟨4,l⟩) from read_any HD5.out).mono ?_
 rintro e W6 ⟨hq6,hm⟩
 rw [hk] at hm
 obtain ⟨dv2,rfl,hi2⟩:=hm
 obtain ⟨ea,ecap,rfl,-⟩:=hi2.open
 have HI2:=lh hi2
 generalize hel:(l.drop 1).length=el at *
 have Hel:=lh hel
 clear hel hi2
 generalize hq0:l.getD 0 0=q0 at *
 have Hq0:=lh hq0
 clear hq0
 have HQ6:=lh (HQ5.out.q hq6)
 have HR06:=lh (hq6.row HR05.out)
 have HR16:=lh (hq6.row HR15.out)
 have HR26:=lh (hq6.row HR25.out)
 have HRT6:=lh (hq6.row HRT.out)
 have HP6:=lh (HP5.out.quiet hq6)
 have HO6:=lh (HO5.out.quiet hq6)
 have HZ6:=lh (show w.heap.size+1+1<W6.heap.size∧W4.heap.size<W6.heap.size∧g<W6.heap.size by have:=hq6.size;have:=HZ4.out;have:=HZ5.out;have:=Hgat.out.2;omega)
 have n1:¬ W6.heap.size=w.heap.size+1+1:=by have:=HZ6.out;omega
 have n2:¬ w.heap.size+1+1=W6.heap.size:=by have:=HZ6.out;omega
 have n3:w.heap.size+1+1<W6.heap.size:=HZ6.out.1
 have n4:¬ W6.heap.size=w.heap.size+1:=by have:=HZ6.out;omega
 have n5:¬ w.heap.size+1=W6.heap.size:=by have:=HZ6.out;omega
 have n6:w.heap.size+1<W6.heap.size:=by have:=HZ6.out;omega
 clear hq6 hk
 obtain ⟨t0,t1,t2⟩:=frame_cells HRT6.out
 have n7:¬ W6.heap.size=W4.heap.size:=by have:=HZ6.out;omega
 have n8:¬ W4.heap.size=W6.heap.size:=by have:=HZ6.out;omega
 have n9:W4.heap.size<W6.heap.size:=by have:=HZ6.out;omega
 obtain ⟨z0,z1,z2⟩:=frame_cells HR26.out
 have fz0:=frozen_of_row _ _ 0 _ _ HR26.out
 have fz1:=frozen_of_row _ _ 1 _ _ HR26.out
 have fz2:=frozen_of_row _ _ 2 _ _ HR26.out
 obtain ⟨k0,k1⟩:=row2 HR06.out
 go_wp2_with fail
 obtain ⟨hrow,hon⟩:=row3_set (x:=(.int .i64 W)) (y:=(.int .i64 H)) (z:=(.slice (some ⟨g,0,none⟩) F0.pix.length gcap)) HR26.out
 have hall:=HQ6.out.trans hon (U:=[]) (by simp) (fun g hg hlt=>by rw [mSg] at hg;omega)
 have hrow2:=(Only.new _ (.cells #[.int .i64 4,.int .i64 q0,.slice ea el ecap] 126)).row hrow
 have hall2:=hall.q (Only.new _ (.cells #[.int .i64 4,.int .i64 q0,.slice ea el ecap] 126))
 refine bodyPost_ret (v:=.tuple #[.agg #[(.int .i64 W),(.int .i64 H),(.slice (some ⟨g,0,none⟩) F0.pix.length gcap)],.nilIface]) (results_cell_row2 Tryz.results27 _ _ (w.heap.size+1+1) _ _ _ _ _ rfl rfl hrow2 Tryz.underlying70 rfl (by kernel_rfl)) rfl (HPost.out _ _ ⟨hall2,g,gcap,?_,?_⟩)
 ·rw [HFW.out.1,HFW.out.2]
 ·have hgn:=Hgat.out.1
  have hz:=HQ1.out.size
  exact (((HO6.out.only hon (fun x hx=>by rw [mSg] at hx;subst hx;simp only [Value.ownBlock];intro e;injection e with e;have:=HZ3.out;omega)).quiet (Only.new _ _)).lower hz)
theorem frame_skip3 (hd:Ints .u8 lo hi w dv l) (hp:Ints .i64 lo' hi' w pv prev.pix) (hn:newB W H 128=true) (hk:readB ⟨3,l⟩=none) (hma:matesB prev W H=true) :
  Calls Tryz.prog 27 #[.agg #[.int .i64 3,dv],.agg #[.int .i64 prev.W,.int .i64 prev.H,pv],.int .i64 W,.int .i64 H] w (FrameP w (.ok ⟨W,H,prev.pix⟩)):=by
 refine hidQ fun Q HPost=>?_
 obtain ⟨da,dcap,rfl,-⟩:=hd.open
 obtain ⟨pa,pcap,rfl,-⟩:=hp.open
 obtain ⟨hq1,HB0,HB1,HB2,-⟩:=boxes3 w (.cells #[.int .i64 3,.slice da l.length dcap] 83) (.cells #[.int .i64 prev.W,.int .i64 prev.H,.slice pa prev.pix.length pcap] 70) (.cells #[.int .i64 0,.int .i64 0,.slice none 0 0] 70)
 have HQ1:=lh hq1
 have HD:=lh (hd.quiet hq1)
 have HPv:=lh (hp.quiet hq1)
 have HZ3:Hid (w.heap.size+1+1<(((w.alloc (.cells #[.int .i64 3,.slice da l.length dcap] 83)).alloc (.cells #[.int .i64 prev.W,.int .i64 prev.H,.slice pa prev.pix.length pcap] 70)).alloc (.cells #[.int .i64 0,.int .i64 0,.slice none 0 0] 70)).heap.size):=lh (by simp)
 have HPF:Hid (FrOk prev∧prev.W=W∧prev.H=H):=lh (by
  unfold matesB at hma
  rw [Bool.and_eq_true,Bool.and_eq_true,mayF_iff,decide_eq_true_iff,decide_eq_true_iff] at hma
  exact ⟨hma.1.1,hma.1.2,hma.2⟩)
 clear hd hp hq1
 go_enter Tryz.func27,Tryz.ntmps27
 go_wp2_with fail
 generalize hW3:World.alloc (World.alloc (World.alloc w _) _) _=W3 at *
 clear hW3
 go_at_call 29
 refine (pnewD_any W H 128 W3 hn).mono ?_
 rintro e W4 ⟨g,gcap,rfl,hown,hq4⟩
 have HN:=lh hn
 have HF0:=lh (newF_ok hn)
 have HFe:Hid (newF W H 128=newF W H 128):=lh rfl
 have HFW:Hid ((newF W H 128).W=W∧(newF W H 128).H=H):=lh ⟨rfl,rfl⟩
 generalize hF0:newF W H 128=F0 at *
 have HFF:=lh hF0
 clear hF0 HFe
 have Hgat:=lh ((hown.at g rfl))
 have HOwn4:=lh hown
 have HQ4:=lh (HQ1.out.q hq4)
 have HZ4:=lh (Nat.lt_of_lt_of_le HZ3.out hq4.size)
 have b0:=hq4.row HB0.out
 obtain ⟨k0,k1⟩:=row2 b0
 have HR0:=lh b0
 have HR1:=lh (hq4.row HB1.out)
 have HR2:=lh (hq4.row HB2.out)
 have n1:¬ W4.heap.size=w.heap.size:=by have:=HZ4.out;omega
 have n2:¬ w.heap.size=W4.heap.size:=by have:=HZ4.out;omega
 have HD4:=lh (HD.out.quiet hq4)
 have HP4:=lh (HPv.out.quiet hq4)
 clear hq4 hn hown b0
 go_wp2_with fail
 have hnew:=Only.new W4 (.cells #[.int .i64 W,.int .i64 H,.slice (some ⟨g,0,none⟩) F0.pix.length gcap] 70)
 have HRT:Hid ((W4.alloc (.cells #[.int .i64 W,.int .i64 H,.slice (some ⟨g,0,none⟩) F0.pix.length gcap] 70)).heap[W4.heap.size]?=some (.cells #[.int .i64 W,.int .i64 H,.slice (some ⟨g,0,none⟩) F0.pix.length gcap] 70 (0,0))):=lh (heap_alloc_new W4 _)
 have HQ5:=lh (HQ4.out.q hnew)
 have HR05:=lh (hnew.row HR0.out)
 have HR15:=lh (hnew.row HR1.out)
 have HR25:=lh (hnew.row HR2.out)
 have HD5:=lh (HD4.out.quiet hnew)
 have HP5:=lh (HP4.out.quiet hnew)
 have HO5:=lh (HOwn4.out.quiet hnew)
 have HZ5:Hid (W4.heap.size<(W4.alloc (.cells #[.int .i64 W,.int .i64 H,.slice (some ⟨g,0,none⟩) F0.pix.length gcap] 70)).heap.size):=lh (by simp)
 clear hnew k0 k1 n1 n2
 generalize hW5:World.alloc W4 _=W5 at *
 clear hW5
 go_at_call 49
 refine (show Calls Tryz.prog 49 #[.agg #[.int .i64 3,.slice da l.length dcap]] W5 (HeadOr W5 ⟨3,l⟩) from read_any HD5.out).mono ?_
 rintro e W6 ⟨hq6,hm⟩
 rw [hk] at hm
 obtain ⟨dv2,rfl,hi2⟩:=hm
 obtain ⟨ea,ecap,rfl,-⟩:=hi2.open
 have HI2:=lh hi2
 generalize hel:(l.drop 1).length=el at *
 have Hel:=lh hel
 clear hel hi2
 generalize hq0:l.getD 0 0=q0 at *
 have Hq0:=lh hq0
 clear hq0
 have HQ6:=lh (HQ5.out.q hq6)
 have HR06:=lh (hq6.row HR05.out)
 have HR16:=lh (hq6.row HR15.out)
 have HR26:=lh (hq6.row HR25.out)
 have HRT6:=lh (hq6.row HRT.out)
 have HP6:=lh (HP5.out.quiet hq6)
 have HO6:=lh (HO5.out.quiet hq6)
 have HZ6:=lh (show w.heap.size+1+1<W6.heap.size∧W4.heap.size<W6.heap.size∧g<W6.heap.size by have:=hq6.size;have:=HZ4.out;have:=HZ5.out;have:=Hgat.out.2;omega)
 have n1:¬ W6.heap.size=w.heap.size+1+1:=by have:=HZ6.out;omega
 have n2:¬ w.heap.size+1+1=W6.heap.size:=by have:=HZ6.out;omega
 have n3:w.heap.size+1+1<W6.heap.size:=HZ6.out.1
 have n4:¬ W6.heap.size=w.heap.size+1:=by have:=HZ6.out;omega
 have n5:¬ w.heap.size+1=W6.heap.size:=by have:=HZ6.out;omega
 have n6:w.heap.size+1<W6.heap.size:=by have:=HZ6.out;omega
 obtain ⟨p0,p1,p2⟩:=frame_cells HR16.out
 clear hq6 hk
 obtain ⟨k0,k1⟩:=row2 HR06.out
 go_wp2_with fail
 have hnew7:=Only.new W6 (.cells #[.int .i64 3,.int .i64 q0,.slice ea el ecap] 126)
 have HQ7:=lh (HQ6.out.q hnew7)
 have HRH:Hid ((W6.alloc (.cells #[.int .i64 3,.int .i64 q0,.slice ea el ecap] 126)).heap[W6.heap.size]?=some (.cells #[.int .i64 3,.int .i64 q0,.slice ea el ecap] 126 (0,0))):=lh (heap_alloc_new W6 _)
 have HR07:=lh (hnew7.row HR06.out)
 have HR17:=lh (hnew7.row HR16.out)
 have HR27:=lh (hnew7.row HR26.out)
 have HRT7:=lh (hnew7.row HRT6.out)
 have HP7:=lh (HP6.out.quiet hnew7)
 have HO7:=lh (HO6.out.quiet hnew7)
 have HI7:=lh (HI2.out.quiet hnew7)
 have HZ7:Hid (W6.heap.size<(W6.alloc (.cells #[.int .i64 3,.int .i64 q0,.slice ea el ecap] 126)).heap.size):=lh (by simp)
 clear hnew7
 generalize hW7:World.alloc W6 _=W7 at *
 clear hW7
 go_at_call 50
 have hmt:=mates_any prev.W prev.H W H HP7.out
 rw [hma] at hmt
 have Hmt:=lh hmt
 clear hmt hma p0 p1 p2 k0 k1
 refine Hmt.out.mono ?_
 rintro e W8 ⟨rfl,hq8⟩
 have HQ8:=lh (HQ7.out.q hq8)
 have HR08:=lh (hq8.row HR07.out)
 have HR18:=lh (hq8.row HR17.out)
 have HR28:=lh (hq8.row HR27.out)
 have HRT8:=lh (hq8.row HRT7.out)
 have HRH8:=lh (hq8.row HRH.out)
 have HP8:=lh (HP7.out.quiet hq8)
 have HO8:=lh (HO7.out.quiet hq8)
 have HI8:=lh (HI7.out.quiet hq8)
 have HZ8:=lh (show W6.heap.size<W8.heap.size from Nat.lt_of_lt_of_le HZ7.out hq8.size)
 clear hq8 n1 n2 n3 n4 n5 n6
 have hlen:prev.pix.length=F0.pix.length:=by
  have e1:=HPF.out.1.len
  have e2:=HF0.out.len
  rw [HPF.out.2.1,HPF.out.2.2] at e1
  rw [HFW.out.1,HFW.out.2] at e2
  omega
 have hpos:0<prev.pix.length:=by
  have e1:=HPF.out.1.len
  have h1:=HPF.out.1.w0
  have h2:=HPF.out.1.h0
  have:8*8≤prev.W*prev.H:=Int.mul_le_mul h1 h2 (by omega) (by omega)
  omega
 obtain ⟨a',cap',hv,hpc,-,hpat,hpcell⟩:=HP8.out.open
 injection hv with e1 e2 e3
 subst e1;subst e3
 obtain ⟨pb,poff,rfl,-,-⟩:=hpat 0 hpos
 obtain ⟨cur,hcur,hfit,hown',honly⟩:=HO8.out.splice rfl (m:=prev.pix) HP8.out.2 (off:=0) (by omega)
 rw [show rowD F0.pix 0 prev.pix=prev.pix by unfold rowD;rw [List.take_zero,List.nil_append,List.drop_eq_nil_of_le (by omega),List.append_nil]] at hown'
 have hsrc:∀ j v,(prev.pix.map (Value.int .i64))[j]?=some v→W8.cell? ((⟨pb,poff,none⟩:Addr).add j)=some v:=fun j v hj=>by
  obtain ⟨hi,rfl⟩:=intsAt hj
  rw [Addr.add_lit]
  exact hpcell pb poff rfl j hi
 have HCp:=lh (And.intro hcur (And.intro hfit hsrc))
 have HOw:=lh hown'
 have HOn:=lh honly
 have hgn:=Hgat.out.1
 have hz3:=HZ3.out
 have hz4:=HZ4.out
 have hz6:=HZ6.out
 have s0:=honly.rowAt HR28.out (by rw [mSg];omega)
 have s1:=honly.rowAt HRT8.out (by rw [mSg];have:=Hgat.out.2;omega)
 have HS0:=lh s0
 have HS1:=lh s1
 have Hlen:=lh hlen
 have Hpos:=lh hpos
 obtain ⟨t0,t1,t2⟩:=frame_cells HRT8.out
 obtain ⟨p0,p1,p2⟩:=frame_cells HR18.out
 obtain ⟨k0,k1⟩:=row2 HR08.out
 clear hcur hfit hsrc hown' honly hpat hpcell hpc hgn hz3 hz4 hz6 s0 s1 hlen hpos
 obtain ⟨CS,hCS⟩:∃ CS,CS=prev.pix.map (Value.int .i64):=⟨_,rfl⟩
 rw [← hCS] at HCp HOw HOn HS0 HS1
 have HCl:Hid (CS.length=prev.pix.length):=lh (by rw [hCS,List.length_map])
 have HC1:Hid (∀ v∈CS,v.oneCell'=true):=lh (by rw [hCS];exact ints_one)
 clear hCS
 obtain ⟨W9,hW9⟩:∃ W9,W9=W8.setRow g (Go.splice cur 0 CS).toArray:=⟨_,rfl⟩
 rw [← hW9] at HOw HOn HS0 HS1
 have HW9:Hid (W8.setRow g (cur.toArray.toList.take 0 ++ (CS ++ cur.toArray.toList.drop (0+CS.length))).toArray=W9):=lh (by rw [hW9];rfl)
 clear hW9
 obtain ⟨u0,u1,u2⟩:=frame_cells HS1.out
 obtain ⟨z0,z1,z2⟩:=frame_cells HS0.out
 have fz0:=frozen_of_row _ _ 0 _ _ HS0.out
 have fz1:=frozen_of_row _ _ 1 _ _ HS0.out
 have fz2:=frozen_of_row _ _ 2 _ _ HS0.out
 go_wp2_with (first | (refine wpList_copy_own rfl (.tmp 65) (.tmp 67) 48 48 rfl 3 EI.ut (by kernel_rfl) g 0 F0.pix.length gcap ⟨pb,poff,none⟩ prev.pix.length pcap rfl rfl cur.toArray _ HCp.out.1 CS (by rw [HCl.out];have:=Hlen.out;show _=min _ _;omega) HCp.out.2.2 (by rw [HCl.out];have:=HCp.out.2.1;simpa using this) HC1.out ?_;rw [HW9.out]) | fail)
 have hallq:Only [] w W9:=HQ8.out.trans HOn.out (by simp) (fun x hx hlt=>by rw [mSg] at hx;have:=Hgat.out.1;have:=HQ1.out.size;omega)
 obtain ⟨hrow,hon⟩:=row3_set (x:=(.int .i64 W)) (y:=(.int .i64 H)) (z:=(.slice (some ⟨g,0,none⟩) F0.pix.length gcap)) HS0.out
 have hall:=hallq.trans hon (U:=[]) (by simp) (fun g hg hlt=>by rw [mSg] at hg;omega)
 have hrow2:=hrow
 have hall2:=hall
 refine bodyPost_ret (v:=.tuple #[.agg #[(.int .i64 W),(.int .i64 H),(.slice (some ⟨g,0,none⟩) F0.pix.length gcap)],.nilIface]) (results_cell_row2 Tryz.results27 _ _ (w.heap.size+1+1) _ _ _ _ _ rfl rfl hrow2 Tryz.underlying70 rfl (by kernel_rfl)) rfl (HPost.out _ _ ⟨hall2,g,gcap,?_,?_⟩)
 ·rw [Hlen.out]
 ·have hgn:=Hgat.out.1
  have hz:=HQ1.out.size
  have ho:=(HOw.out.only hon (fun x hx=>by rw [mSg] at hx;subst hx;simp only [Value.ownBlock];intro e;injection e with e;have:=HZ3.out;omega)).lower hz
  show Own _ _ _ _ (.slice _ prev.pix.length _) prev.pix
  rw [Hlen.out]
  exact ho
end
theorem qDFrBt0 {p:Prop} (h:p:=by intro wz hSw;(try dsimp only at hSw);obtain ⟨hSa,hSb,hSc,hSd⟩:=hSw;obtain ⟨p0,p1,p2⟩:=frame_cells hSa;obtain ⟨p3,p4,p5⟩:=frame_cells hSb;obtain ⟨p6,p7,p8⟩:=frame_cells hSc;go_simp;try with_reducible rfl):p:=h
theorem qDFrBt1 {p:Prop} (h:p:=by intro wz hSw;(try dsimp only at hSw);obtain ⟨hSa,hSb,hSc,hSd⟩:=hSw;rw [run_load_row (.tmp 15) 137 (hr:=hSd) (hu:=Tryz.underlying137) (hi:=HSt.out.1)] <;> rfl):p:=h
theorem readB_in {k:Int} {l:List Int} (hk:k=1∨k=2) (hl:∀ x∈l,InK .u8 x) (h:readB ⟨k,l⟩=none):l.length≤65536∧0<l.length∧0≤l.getD 0 0∧l.getD 0 0≤15:=by
 unfold readB at h
 have h1:kindB k=true:=by unfold kindB;rw [decide_eq_true_iff];omega
 have h2:bareB k=false:=by rcases hk with rfl | rfl <;> rfl
 rw [h1,h2] at h
 simp only [Bool.true_eq_false,Bool.false_eq_true,if_false] at h
 split at h
 ·cases h
 rename_i h0
 split at h
 ·cases h
 split at h
 ·cases h
 have hx:=hl (l.getD 0 0) (by rw [List.getD_eq_getElem?_getD,List.getElem?_eq_getElem (by omega)];exact List.getElem_mem _)
 simp only [InK] at hx
 exact ⟨by omega,by omega,hx.1,by omega⟩
theorem ModAt.only2 {lo hi R D:Nat} {bv:Value} {w w':World} {m:Mod} {S:List Nat} (h:ModAt lo hi R D bv w m) (o:Only S w w') (hS:∀ g∈S,(g<lo∨hi≤g)∧g≠R∧g≠D):ModAt lo hi R D bv w' m :=
 ⟨o.rowAt h.row (fun hm=>(hS R hm).2.1 rfl),⟨o.rowAt h.dec.row (fun hm=>(hS D hm).2.2 rfl),h.dec.bytes.only o (fun g hg=>(hS g hg).1),h.dec.hD⟩,h.ok,h.hR,h.ne⟩
theorem squaresGo_bad {key:Bool} {prev:FrameD} {qp:Int} {k i:Nat} {f:FrameD} {m:Mod} {e:Err} (h:(squareD key m).1=.error e):squaresGo key prev qp (k+1) i f m=.error (inE sDecode i e):=by
 rw [squaresGo,h];rfl
theorem squaresGo_more {key:Bool} {prev:FrameD} {qp:Int} {k i:Nat} {f:FrameD} {m:Mod} {s:SqD} (h:(squareD key m).1=.ok s):squaresGo key prev qp (k+1) i f m=squaresGo key prev qp k (i+1) (laySq f prev ((i:Int)*8 % f.W) ((i:Int)*8 / f.W*8) qp s) (squareD key m).2:=by
 rw [squaresGo,h]
theorem run_load_row {P:Program} {w:World} {o:Oper} {ev:Operand→Value} (x:Operand) (t:TypeId) (ho:o.op=.load t x) {g:Nat} {c:Array Value} {ty:TypeId} {fr:Nat×Nat} {d:TypeDesc} (hx:ev x=.pointer (some ⟨g,0,none⟩)) (hr:w.heap[g]?=some (.cells c ty fr)) (hu:P.underlying t=some d)
  (hd:(match d with | .struct _ | .array _ _=>true | _=>false)=true) (hi:(P.info? t).map (·.size)=some c.size):(execOp ev o).run P w=.ok (Next.value (.agg c)) w:=by
 unfold execOp
 simp only [ho,hx,Instr.loadAt,Instr.sureAddr,Sem.run_bind,Sem.run_pure,Result.andThen_ok,run_loadVar_row w g ty t c fr d hr hu hd hi]
section
variable {lo hi lo' hi':Nat} {dv pv:Value} {w:World} {prev:FrameD} {l:List Int} {W H:Int}
theorem qDFrB0 {p:Prop} (h:p:=by
 rw [hsq] at hr10
 obtain ⟨ev,rfl,hev⟩:=hr10
 obtain ⟨et,eu,rfl⟩:=hev.held
 have hgo:=Hgo.out
 rw [show C-k=(C-k-1)+1 by omega,squaresGo_bad hsq] at hgo
 have HGO:=lh hgo
 have hnew:=Only.new W10 (.cells (sqL 0 0 [0,0,0,0] 0 0 nilS [nilS,nilS,nilS,nilS]).toArray 137)
 have HEv:=lh ((hev.quiet hnew).mono (Nat.le_refl _) hnew.size)
 have hr2:=hnew.row b2
 have HR2x:=lh hr2
 have HnewQ:=lh hnew
 simp only [sqL,List.map_cons,List.map_nil,List.cons_append,List.nil_append] at HEv HR2x HnewQ ⊢
 clear hgo hsq hev hnew hr2 b2
 go_wp2_with fail
 generalize hW11:World.alloc W10 _=W11 at *
 clear hW11
 go_at_call 26
 refine (in_any _ _ HEv.out (Nat.le_refl _) (Nat.le_trans Hz10.out.1 HnewQ.out.size)).mono ?_
 rintro e W12 ⟨v12,rfl,he12,hq12⟩
 have hr12:=hq12.row HR2x.out
 have HE12:=lh he12
 have hallq:Only [] w W12:=((((HQ9.out.trans HQk.out (U:=[]) (by simp) (fun x hx hl=>by simp only [List.mem_cons,List.not_mem_nil,or_false] at hx;have:=HZ9.out;have:=HRD.out;have:=HQ1.out.size;omega)).trans HQ10.out (U:=[]) (by simp) (fun x hx hl=>by simp only [List.mem_cons,List.not_mem_nil,or_false] at hx;have:=HZ9.out;have:=HRD.out;have:=HQ1.out.size;omega)).q HnewQ.out).q hq12)
 have HAllq:=lh hallq
 have HR12:=lh hr12
 obtain ⟨z0,z1,z2⟩:=frame_cells hr12
 have fz0:=frozen_of_row _ _ 0 _ _ hr12
 have fz1:=frozen_of_row _ _ 1 _ _ hr12
 have fz2:=frozen_of_row _ _ 2 _ _ hr12
 clear he12 hq12 hr12 hallq
 go_wp2_with fail
 obtain ⟨hrow,hon⟩:=row3_set (x:=(.int .i64 0)) (y:=(.int .i64 0)) (z:=(.slice none 0 0)) HR12.out
 have hall:=HAllq.out.trans hon (U:=[]) (by simp) (fun g hg hlt=>by rw [mSg] at hg;omega)
 have hrow2:=hrow
 have hall2:=hall
 refine bodyPost_ret (v:=.tuple #[.agg #[(.int .i64 0),(.int .i64 0),(.slice none 0 0)],v12]) (results_cell_row2 Tryz.results27 _ _ (w.heap.size+1+1) _ _ _ _ _ rfl rfl hrow2 Tryz.underlying70 rfl (by kernel_rfl)) rfl (HPost.out _ _ ?_)
 rw [← HGO.out]
 exact FrameP.bad hall2 rfl ((HE12.out.only hon (fun x hx=>by rw [mSg] at hx;have:=Hz10.out;left;omega)).mono (by have:=Hz10.out;omega) hon.size)):p:=h
theorem qDFrB1 {p:Prop} (h:p:=by
 obtain rfl:k=C:=by omega
 have hkx:¬ (k:Int)<NN / 64:=by rw [Hcc.out];omega
 have hgo:=Hgo.out
 rw [Nat.sub_self,squaresGo] at hgo
 have HGO:=lh hgo
 have hallq:Only [] w wr:=HQ9.out.trans HQk.out (U:=[]) (by simp) (fun x hx hl=>by simp only [List.mem_cons,List.not_mem_nil,or_false] at hx;have:=HZ9.out;have:=HRD.out;have:=HQ1.out.size;omega)
 have HAllq:=lh hallq
 obtain ⟨u0,u1,u2⟩:=frame_cells A3.out
 obtain ⟨z0,z1,z2⟩:=frame_cells A2.out
 have fz0:=frozen_of_row _ _ 0 _ _ A2.out
 have fz1:=frozen_of_row _ _ 1 _ _ A2.out
 have fz2:=frozen_of_row _ _ 2 _ _ A2.out
 clear hgo hallq
 go_wp2_with fail
 obtain ⟨hrow,hon⟩:=row3_set (x:=(.int .i64 W)) (y:=(.int .i64 H)) (z:=(.slice (some ⟨g,0,none⟩) F0.pix.length gcap)) A2.out
 have hall:=HAllq.out.trans hon (U:=[]) (by simp) (fun g hg hlt=>by rw [mSg] at hg;omega)
 have hrow2:=hrow
 have hall2:=hall
 refine bodyPost_ret (v:=.tuple #[.agg #[(.int .i64 W),(.int .i64 H),(.slice (some ⟨g,0,none⟩) F0.pix.length gcap)],.nilIface]) (results_cell_row2 Tryz.results27 _ _ (w.heap.size+1+1) _ _ _ _ _ rfl rfl hrow2 Tryz.underlying70 rfl (by kernel_rfl)) rfl (HPost.out _ _ ?_)
 rw [← HGO.out]
 refine ⟨hall2,g,gcap,?_,?_⟩
 ·rw [HFK.out.2.1,HFK.out.2.2.1,HFK.out.2.2.2]
 ·rw [HFK.out.2.2.2]
  exact (HOk.out.only hon (fun x hx=>by rw [mSg] at hx;subst hx;simp only [Value.ownBlock];intro e;injection e with e;have:=HZ9.out;omega)).lower HQ1.out.size):p:=h
theorem qDFrB2 {p:Prop} (h:p:=by
 exact ((HQk.out.trans HQ10.out (U:=[g,R,D]) (fun x h _=>h) (fun x h _=>by simp only [List.mem_cons,List.not_mem_nil,or_false] at h ⊢;omega)).trans HSo.out (U:=[g,R,D]) (fun x h _=>h) (by simp)).trans HQ13.out (fun x h _=>h) (fun x h _=>by rw [mSg] at h;simp [h])):p:=h
theorem frame_squares1 (hd:Ints .u8 lo hi w dv l) (hp:Ints .i64 lo' hi' w pv prev.pix) (hn:newB W H 128=true) (hk:readB ⟨1,l⟩=none) :
  Calls Tryz.prog 27 #[.agg #[.int .i64 1,dv],.agg #[.int .i64 prev.W,.int .i64 prev.H,pv],.int .i64 W,.int .i64 H] w (FrameP w (squaresGo true prev (l.getD 0 0) (W*H / 64).toNat 0 (newF W H 128) (modNew (l.drop 1)))):=by
 refine hidQ fun Q HPost=>?_
 obtain ⟨da,dcap,rfl,-⟩:=hd.open
 obtain ⟨pa,pcap,rfl,-⟩:=hp.open
 obtain ⟨hq1,HB0,HB1,HB2,-⟩:=boxes3 w (.cells #[.int .i64 1,.slice da l.length dcap] 83) (.cells #[.int .i64 prev.W,.int .i64 prev.H,.slice pa prev.pix.length pcap] 70) (.cells #[.int .i64 0,.int .i64 0,.slice none 0 0] 70)
 have HQ1:=lh hq1
 have HD:=lh (hd.quiet hq1)
 have HPv:=lh (hp.quiet hq1)
 have HZ3:Hid (w.heap.size+1+1<(((w.alloc (.cells #[.int .i64 1,.slice da l.length dcap] 83)).alloc (.cells #[.int .i64 prev.W,.int .i64 prev.H,.slice pa prev.pix.length pcap] 70)).alloc (.cells #[.int .i64 0,.int .i64 0,.slice none 0 0] 70)).heap.size):=lh (by simp)
 obtain ⟨hl1,hl2,hq0,hq15⟩:=readB_in (k:=1) (by omega) hd.2 hk
 have HL:=lh (show (l.drop 1).length≤100000000 by rw [List.length_drop];omega)
 obtain ⟨q,hq⟩:=Int.eq_ofNat_of_zero_le hq0
 rw [hq] at HPost
 have hqn:q≤15:=by omega
 have Hqn:=lh hqn
 have Hq:=lh hq
 have Hbd:=lh (newB_iff.1 hn)
 have HPw:=lh hp
 clear hl1 hl2 hq0 hq15 hqn hq
 clear hd hp hq1
 go_enter Tryz.func27,Tryz.ntmps27
 go_wp2_with fail
 generalize hW3:World.alloc (World.alloc (World.alloc w _) _) _=W3 at *
 clear hW3
 go_at_call 29
 refine (pnewD_any W H 128 W3 hn).mono ?_
 rintro e W4 ⟨g,gcap,rfl,hown,hq4⟩
 have HN:=lh hn
 have HF0:=lh (newF_ok hn)
 have HFe:Hid (newF W H 128=newF W H 128):=lh rfl
 have HFW:Hid ((newF W H 128).W=W∧(newF W H 128).H=H):=lh ⟨rfl,rfl⟩
 generalize hF0:newF W H 128=F0 at *
 have HFF:=lh hF0
 clear hF0 HFe
 have Hgat:=lh ((hown.at g rfl))
 have HOwn4:=lh hown
 have HQ4:=lh (HQ1.out.q hq4)
 have HZ4:=lh (Nat.lt_of_lt_of_le HZ3.out hq4.size)
 have b0:=hq4.row HB0.out
 obtain ⟨k0,k1⟩:=row2 b0
 have HR0:=lh b0
 have HR1:=lh (hq4.row HB1.out)
 have HR2:=lh (hq4.row HB2.out)
 have n1:¬ W4.heap.size=w.heap.size:=by have:=HZ4.out;omega
 have n2:¬ w.heap.size=W4.heap.size:=by have:=HZ4.out;omega
 have HD4:=lh (HD.out.quiet hq4)
 have HP4:=lh (HPv.out.quiet hq4)
 clear hq4 hn hown b0
 go_wp2_with fail
 have hnew:=Only.new W4 (.cells #[.int .i64 W,.int .i64 H,.slice (some ⟨g,0,none⟩) F0.pix.length gcap] 70)
 have HRT:Hid ((W4.alloc (.cells #[.int .i64 W,.int .i64 H,.slice (some ⟨g,0,none⟩) F0.pix.length gcap] 70)).heap[W4.heap.size]?=some (.cells #[.int .i64 W,.int .i64 H,.slice (some ⟨g,0,none⟩) F0.pix.length gcap] 70 (0,0))):=lh (heap_alloc_new W4 _)
 have HQ5:=lh (HQ4.out.q hnew)
 have HR05:=lh (hnew.row HR0.out)
 have HR15:=lh (hnew.row HR1.out)
 have HR25:=lh (hnew.row HR2.out)
 have HD5:=lh (HD4.out.quiet hnew)
 have HP5:=lh (HP4.out.quiet hnew)
 have HO5:=lh (HOwn4.out.quiet hnew)
 have HZ5:Hid (W4.heap.size<(W4.alloc (.cells #[.int .i64 W,.int .i64 H,.slice (some ⟨g,0,none⟩) F0.pix.length gcap] 70)).heap.size):=lh (by simp)
 clear hnew k0 k1 n1 n2
 generalize hW5:World.alloc W4 _=W5 at *
 clear hW5
 go_at_call 49
 refine (show Calls Tryz.prog 49 #[.agg #[.int .i64 1,.slice da l.length dcap]] W5 (HeadOr W5 ⟨1,l⟩) from read_any HD5.out).mono ?_
 rintro e W6 ⟨hq6,hm⟩
 rw [hk] at hm
 obtain ⟨dv2,rfl,hi2⟩:=hm
 obtain ⟨ea,ecap,rfl,-⟩:=hi2.open
 have HI2:=lh hi2
 generalize hel:(l.drop 1).length=el at *
 have Hel:=lh hel
 clear hel hi2
 have hqq:=Hq.out
 rw [hqq]
 clear hqq
 have HQ6:=lh (HQ5.out.q hq6)
 have HR06:=lh (hq6.row HR05.out)
 have HR16:=lh (hq6.row HR15.out)
 have HR26:=lh (hq6.row HR25.out)
 have HRT6:=lh (hq6.row HRT.out)
 have HP6:=lh (HP5.out.quiet hq6)
 have HO6:=lh (HO5.out.quiet hq6)
 have HZ6:=lh (show w.heap.size+1+1<W6.heap.size∧W4.heap.size<W6.heap.size∧g<W6.heap.size by have:=hq6.size;have:=HZ4.out;have:=HZ5.out;have:=Hgat.out.2;omega)
 have n1:¬ W6.heap.size=w.heap.size+1+1:=by have:=HZ6.out;omega
 have n2:¬ w.heap.size+1+1=W6.heap.size:=by have:=HZ6.out;omega
 have n3:w.heap.size+1+1<W6.heap.size:=HZ6.out.1
 have n4:¬ W6.heap.size=w.heap.size+1:=by have:=HZ6.out;omega
 have n5:¬ w.heap.size+1=W6.heap.size:=by have:=HZ6.out;omega
 have n6:w.heap.size+1<W6.heap.size:=by have:=HZ6.out;omega
 clear hq6 hk
 obtain ⟨k0,k1⟩:=row2 HR06.out
 go_wp2_with fail
 have hnew7:=Only.new W6 (.cells #[.int .i64 1,.int .i64 q,.slice ea el ecap] 126)
 have HQ7:=lh (HQ6.out.q hnew7)
 have HRH:Hid ((W6.alloc (.cells #[.int .i64 1,.int .i64 q,.slice ea el ecap] 126)).heap[W6.heap.size]?=some (.cells #[.int .i64 1,.int .i64 q,.slice ea el ecap] 126 (0,0))):=lh (heap_alloc_new W6 _)
 have HR07:=lh (hnew7.row HR06.out)
 have HR17:=lh (hnew7.row HR16.out)
 have HR27:=lh (hnew7.row HR26.out)
 have HRT7:=lh (hnew7.row HRT6.out)
 have HP7:=lh (HP6.out.quiet hnew7)
 have HO7:=lh (HO6.out.quiet hnew7)
 have HI7:=lh (HI2.out.quiet hnew7)
 have HZ7:Hid (W6.heap.size<(W6.alloc (.cells #[.int .i64 1,.int .i64 q,.slice ea el ecap] 126)).heap.size):=lh (by simp)
 clear hnew7
 generalize hW7:World.alloc W6 _=W7 at *
 clear hW7
 go_at_call 51
 have hnr:=mnew_any HI7.out (by rw [Hel.out];exact HL.out)
 have Hnr:=lh hnr
 clear hnr k0 k1 n1 n2 n3 n4 n5 n6
 refine Hnr.out.mono ?_
 rintro e W9 ⟨R,D,bv,hib,rfl,hmod,hq9,hR9,hD9⟩
 have Hlt:=lh hmod.lt
 have HM9:=lh hmod
 have HQ9:=lh (HQ7.out.q hq9)
 have HR09:=lh (hq9.row HR07.out)
 have HR19:=lh (hq9.row HR17.out)
 have HR29:=lh (hq9.row HR27.out)
 have HRT9:=lh (hq9.row HRT7.out)
 have HRH9:=lh (hq9.row HRH.out)
 have HP9:=lh (HP7.out.quiet hq9)
 have HO9:=lh (HO7.out.quiet hq9)
 have HZ9:=lh (show W6.heap.size<R∧W6.heap.size<D∧g<W6.heap.size∧W4.heap.size<W6.heap.size∧w.heap.size+1+1<W4.heap.size∧W3.heap.size≤g∧w.heap.size+1+1<W3.heap.size by have:=HZ7.out;have:=HZ7.out;have:=HZ6.out;have:=HZ4.out;have:=Hgat.out;have:=HZ3.out;omega)
 have HRD:=lh (And.intro (show W7.heap.size≤R from hR9) (And.intro hD9 (show W6.heap.size<W7.heap.size by have:=HZ7.out;have:=HZ7.out;omega)))
 clear hmod hq9 hR9 hD9
 have hbd:=Hbd.out
 have hWH0:0≤W*H∧W*H≤32*32:=⟨Int.mul_nonneg (by omega) (by omega),Int.mul_le_mul hbd.1.2.1 hbd.2.1.2.1 (by omega) (by omega)⟩
 obtain ⟨NN,hNN⟩:∃ NN,NN=W*H:=⟨_,rfl⟩
 obtain ⟨C,hC⟩:∃ C:Nat,C=(W*H / 64).toNat:=⟨_,rfl⟩
 have Hcl:Hid ((C:Int)=W*H / 64):=lh (by rw [hC];omega)
 have hwh:wrap64 (W*H)=NN:=by rw [← hNN] at hWH0 ⊢;unfold wrap64;omega
 have hcc:NN / 64=(C:Int):=by rw [Hcl.out,← hNN]
 have hn0:0≤NN:=by omega
 have hn1:NN≤1024:=by omega
 have hC16:C≤16:=by omega
 rw [← hC] at HPost
 have hw1:8≤W:=hbd.1.1
 have hw2:W≤32:=hbd.1.2.1
 have Hw8:=lh hbd
 clear hNN hC hWH0 hbd
 go_wp2_with fail
 have Hcc:=lh hcc
 clear hwh hcc
 go_loopw [77,14,15,16,80] (fun i _ _ _ _ wr=>∃ (k:Nat) (FK:FrameD) (MK:Mod),k≤C∧i=.int .i64 k∧Hid (FrOk FK∧FK.W=W∧FK.H=H∧FK.pix.length=F0.pix.length)∧Hid (Own .i64 3 W3.heap.size wr (.slice (some ⟨g,0,none⟩) F0.pix.length gcap) FK.pix)∧Hid (ModAt W7.heap.size hib R D bv wr MK)∧Hid (squaresGo true prev q (C-k) k FK MK=squaresGo true prev q C 0 F0 (modNew (l.drop 1)))∧Hid (MK.d.pos≤4+23006*k)∧Hid (Only [g,R,D] W9 wr)) (fun i _ _ _ _ _=>C-(intOf i).toNat)
 case atStart=>exact ⟨0,F0,modNew (l.drop 1),by omega,rfl,lh ⟨HF0.out,HFW.out.1,HFW.out.2,rfl⟩,HO9,HM9,lh rfl,lh (Nat.le_refl _),lh (Only.refl _ _)⟩
 case round =>
  obtain ⟨k,FK,MK,hk,rfl,HFK,HOk,HMk,Hgo,Hpos,HQk⟩:=hrel
  have a0:=HQk.out.rowAt HR09.out (by simp only [List.mem_cons,List.not_mem_nil,or_false];have:=HZ9.out;omega)
  have a1:=HQk.out.rowAt HR19.out (by simp only [List.mem_cons,List.not_mem_nil,or_false];have:=HZ9.out;omega)
  have a2:=HQk.out.rowAt HR29.out (by simp only [List.mem_cons,List.not_mem_nil,or_false];have:=HZ9.out;omega)
  have a3:=HQk.out.rowAt HRT9.out (by simp only [List.mem_cons,List.not_mem_nil,or_false];have:=HZ9.out;have:=Hgat.out.2;omega)
  have a4:=HQk.out.rowAt HRH9.out (by simp only [List.mem_cons,List.not_mem_nil,or_false];have:=HZ9.out;omega)
  have A0:=lh a0
  have A1:=lh a1
  have A2:=lh a2
  have A3:=lh a3
  have A4:=lh a4
  clear a0 a1 a2 a3 a4
  by_cases hlt:k<C
  ·have hki:(k:Int)<NN / 64:=by rw [Hcc.out];omega
   have hk0:(0:Int)≤(k:Int):=by omega
   obtain ⟨k0,k1⟩:=row2 A0.out
   have hcode:=square_any HMk.out true (by have:=Hpos.out;omega)
   simp only [sqL,List.map_cons,List.map_nil,List.cons_append,List.nil_append] at hcode
   have Hcode:=lh hcode
   clear hcode
   go_wp2_with fail
   go_at_call 52
   refine Hcode.out.mono ?_
   rintro e W10 ⟨hq10,hm10,hr10⟩
   have hNot:∀ x:Nat,x<W6.heap.size∨x=W6.heap.size→x∉[R,D]:=fun x hx=>by
    simp only [List.mem_cons,List.not_mem_nil,or_false];have:=HZ9.out;omega
   have HNot:=lh hNot
   have HQ10:=lh hq10
   have HM10:=lh hm10
   have hz10:=HZ9.out
   have b1:=hq10.rowAt A1.out (hNot _ (by omega))
   have b2:=hq10.rowAt A2.out (hNot _ (by omega))
   have b3:=hq10.rowAt A3.out (hNot _ (by omega))
   have b4:=hq10.rowAt A4.out (hNot _ (by omega))
   have HB1x:=lh b1
   have HB2x:=lh b2
   have HB3x:=lh b3
   have HB4x:=lh b4
   have HO10:=lh (HOk.out.only hq10 (fun x hx e=>by
    simp only [Value.ownBlock] at e;injection e with e;exact hNot g (by omega) (e ▸ hx)))
   have Hz10:=lh (show wr.heap.size≤W10.heap.size∧w.heap.size+1+1<wr.heap.size∧g<wr.heap.size by have h1:=hq10.size;have h2:=HQk.out.size;have h3:=HQ9.out.size;have:=(HO9.out.at g rfl).2;have:=Hlt.out;omega)
   clear b1 b3 b4 hNot hq10 hm10 hz10 k0 k1
   cases hsq:(squareD true MK).1 with
   | error er =>
    exact qDFrB0
   | ok s =>
    rw [hsq] at hr10
    obtain ⟨lv,vs,rfl,hml,hsin⟩:=hr10
    obtain ⟨hadv,hsok,-⟩:=squareD_adv true HMk.out.ok
    obtain ⟨hs1,hs2⟩:=hsok s hsq
    have hgo:=Hgo.out
    rw [show C-k=(C-(k+1))+1 by omega,squaresGo_more hsq] at hgo
    have HGO:=lh hgo
    obtain ⟨C13,hC13⟩:∃ A,A=(sqL s.kind s.mode s.modes s.vx s.vy lv vs).toArray:=⟨_,rfl⟩
    rw [← hC13]
    have hnew:=Only.new W10 (.cells (sqL 0 0 [0,0,0,0] 0 0 nilS [nilS,nilS,nilS,nilS]).toArray 137)
    have hrn:(W10.alloc (.cells (sqL 0 0 [0,0,0,0] 0 0 nilS [nilS,nilS,nilS,nilS]).toArray 137)).heap[W10.heap.size]?=some (.cells (sqL 0 0 [0,0,0,0] 0 0 nilS [nilS,nilS,nilS,nilS]).toArray 137 (0,0)):=heap_alloc_new _ _
    have hset:=setRow_heap (W10.alloc (.cells (sqL 0 0 [0,0,0,0] 0 0 nilS [nilS,nilS,nilS,nilS]).toArray 137)) W10.heap.size _ C13 _ _ hrn
    have hso:=hnew.trans (Only.setRow (S:=[W10.heap.size]) (Only.refl _ _) (g:=W10.heap.size) (fun _=>by simp) C13) (U:=[]) (by simp) (fun x hx hl=>by rw [mSg] at hx;omega)
    have hinf:(Tryz.prog.info? 137).map (·.size)=some C13.size:=by rw [hC13];exact sqL_info hml hsin.len
    have hsz:(sqL 0 0 [0,0,0,0] 0 0 nilS [nilS,nilS,nilS,nilS]).toArray.size=C13.size:=by rw [hC13];exact sqL_sizes rfl rfl hml hsin.len
    have hone:C13.all (·.oneCell')=true:=by rw [hC13];exact sqL_one hsin.one.1 hsin.one.2
    have HSt:=lh (And.intro hinf (And.intro hsz hone))
    have HRn:=lh hrn
    have HSet:=lh hset
    have HSo:=lh hso
    have HC13:=lh hC13
    have Hs1:=lh hs1
    have Hs2:=lh hs2
    have Hml:=lh hml
    have Hsin:=lh hsin
    have Hadv:=lh hadv
    clear hgo hsq hnew hrn hset hso hinf hsz hone hC13 hs1 hs2 hml hsin hadv hsok b2
    simp only [sqL,List.map_cons,List.map_nil,List.cons_append,List.nil_append] at HSet HSo HRn
    go_wp2_with (first | (refine wpList_store_row rfl (.tmp 15) (.tmp 88) 137 rfl rfl rfl HRn.out HSt.out.1 HSt.out.2.1 HSt.out.2.2 ?_) | fail)
    generalize hW11:World.setRow _ _ _=W11 at *
    clear hW11
    have hzz:=HZ9.out
    have q1:=HSo.out.row HB1x.out
    have q2:=HSo.out.row HB2x.out
    have q3:=HSo.out.row HB3x.out
    have q4:=HSo.out.row HB4x.out
    have HQ2x:=lh q2
    have hun:Tryz.prog.underlying 137=some _:=Tryz.underlying137
    have hinf:=HSt.out.1
    have hld:=fun (wz:World) (hr:wz.heap[W10.heap.size]?=some (.cells C13 137 (0,0)))=>run_loadVar_row (P:=Tryz.prog) wz W10.heap.size 137 137 C13 (0,0) _ hr Tryz.underlying137 rfl hinf
    have Hld:=lh hld
    clear hun hinf hld hzz q2
    obtain ⟨K8,hK8⟩:∃ K8,K8=(k:Int)*8:=⟨_,rfl⟩
    obtain ⟨X,hX⟩:∃ X,X=K8 % W:=⟨_,rfl⟩
    obtain ⟨Zq,hZq⟩:∃ Zq,Zq=K8 / W:=⟨_,rfl⟩
    obtain ⟨Y,hY⟩:∃ Y,Y=Zq*8:=⟨_,rfl⟩
    have hwb:=Hw8.out
    have hC16':=Hcl.out
    have hK0:0≤K8:=by omega
    have hK1:K8≤128:=by omega
    have hZ0:0≤Zq:=by rw [hZq];exact Int.ediv_nonneg hK0 (by omega)
    have hZ1:Zq≤128:=by rw [hZq];exact Int.le_trans (Int.ediv_le_self _ hK0) hK1
    have e1:IntKind.i64.wrap ((k:Int)*8)=K8:=by rw [IntKind.wrap_i64,← hK8];omega
    have e2:K8.tmod W=X:=by rw [hX,Int.tmod_eq_emod_of_nonneg hK0]
    have e3:K8.tdiv W=Zq:=by rw [hZq,Int.tdiv_eq_ediv_of_nonneg hK0]
    have e4:IntKind.i64.wrap (Zq*8)=Y:=by rw [IntKind.wrap_i64,← hY];omega
    have e5:IntKind.i64.wrap Zq=Zq:=by rw [IntKind.wrap_i64];omega
    have hWn:¬ W=0:=by omega
    have hWb:(W == 0)=false:=by rw [beq_eq_false_iff_ne];exact hWn
    have HX:=lh (And.intro hK8 (And.intro hX (And.intro hZq hY)))
    obtain ⟨hfk,hfw,hfh,hfl⟩:=HFK.out
    obtain ⟨p1,p2,p3,p4⟩:=square_in (W:=W) (H:=H) (i:=k) hwb.1.1 hwb.1.2.1 hwb.1.2.2 hwb.2.1.1 hwb.2.1.2.1 hwb.2.1.2.2 (by omega)
    rw [← hK8,← hX] at p1 p2
    rw [← hK8,← hZq,← hY] at p3 p4
    have hwall:Only [] w W11:=((HQ9.out.trans HQk.out (U:=[]) (by simp) (fun x hx hl=>by simp only [List.mem_cons,List.not_mem_nil,or_false] at hx;have:=HZ9.out;have:=HRD.out;have:=HQ1.out.size;omega)).trans HQ10.out (U:=[]) (by simp) (fun x hx hl=>by simp only [List.mem_cons,List.not_mem_nil,or_false] at hx;have:=HZ9.out;have:=HRD.out;have:=HQ1.out.size;omega)).q HSo.out
    have hLay:=lay_sq_any (f:=FK) (prev:=prev) (s:=s) (x:=X) (y:=Y) (q:=q) hfk (base:=W3.heap.size) (g:=g) (cap:=gcap) (w:=W11.drew) (lv:=lv) (vs:=vs)
     ⟨by rw [hfl];exact (HO10.out.quiet HSo.out).quiet (Only.refl _ _).drew,HPw.out.quiet hwall.drew,(Hsin.out.only HSo.out (by simp)).only (Only.refl [] _).drew (by simp),.inl Hz10.out.2.2⟩ (fun hk=>absurd (Hs2.out (by trivial)) (by omega)) Hs1.out Hml.out Hqn.out p1 (by rw [hfw];exact p2) p3 (by rw [hfh];exact p4)
    rw [hfw,hfh,hfl,← HC13.out] at hLay
    have HLay:=lh hLay
    have hlo:=laySq_ok hfk (s:=s) (prev:=prev) (fun hk=>(absurd (Hs2.out (by trivial)) (by omega))) p1 (by rw [hfw];exact p2) p3 (by rw [hfh];exact p4) Hs1.out (q:Int)
    have hlw:=laySq_W FK prev X Y q s
    have HFKn:Hid (FrOk (laySq FK prev X Y q s)∧(laySq FK prev X Y q s).W=W∧(laySq FK prev X Y q s).H=H∧(laySq FK prev X Y q s).pix.length=F0.pix.length):=lh ⟨hlo,hlw.1.trans hfw,hlw.2.trans hfh,by
     have t1:=hlo.len
     have t2:=hfk.len
     rw [hlw.1,hlw.2] at t1
     omega⟩
    have HGO2:Hid (squaresGo true prev q (C-(k+1)) (k+1) (laySq FK prev X Y q s) (squareD true MK).2=squaresGo true prev q C 0 F0 (modNew (l.drop 1))):=lh (by
     rw [← HGO.out,hfw,← hK8,← hX,← hZq,← hY])
    clear hK8 hX hZq hY hwb hC16' hK0 hK1 hZ0 hZ1 hfk hfw hfh hfl p1 p2 p3 p4 hwall hLay hlo hlw
    refine wp_region_held_drew (S:=(fun w'=>w'.heap[W4.heap.size]?=some (.cells #[.int .i64 W,.int .i64 H,.slice (some ⟨g,0,none⟩) F0.pix.length gcap] 70 (0,0))∧w'.heap[w.heap.size+1]?=some (.cells #[.int .i64 prev.W,.int .i64 prev.H,.slice pa prev.pix.length pcap] 70 (0,0))∧w'.heap[W6.heap.size]?=some (.cells #[.int .i64 1,.int .i64 q,.slice ea el ecap] 126 (0,0))∧w'.heap[W10.heap.size]?=some (.cells C13 137 (0,0)))) (by kernel_rfl) ?_ (fun hHeld=>?_)
    ·exact ⟨q3,q1,q4,HSet.out⟩
    refine tkw 0 96 ⟨rfl,qDFrBt0⟩ ?_
    refine tkw 1 97 ⟨rfl,qDFrBt0⟩ ?_
    refine tkw 2 98 ⟨rfl,qDFrBt0⟩ ?_
    refine tkw 3 99 ⟨rfl,qDFrBt0⟩ ?_
    refine tkw 4 100 ⟨rfl,qDFrBt0⟩ ?_
    refine tkw 5 101 ⟨rfl,qDFrBt0⟩ ?_
    refine tkw 6 102 ⟨rfl,qDFrBt0⟩ ?_
    refine tkw 7 103 ⟨rfl,qDFrBt0⟩ ?_
    refine tkw 8 104 ⟨rfl,qDFrBt0⟩ ?_
    refine tkw 9 105 ⟨rfl,qDFrBt0⟩ ?_
    refine tkw 10 106 ⟨rfl,qDFrBt0⟩ ?_
    refine tkw 11 107 ⟨rfl,qDFrBt0⟩ ?_
    refine tkw 12 108 ⟨rfl,qDFrBt0⟩ ?_
    refine tkw 13 109 ⟨rfl,qDFrBt1⟩ ?_
    refine rdy (rdc 14 110 (fun K hK=>?_) .nil)
    go_simp
    go_at_call 53
    refine HLay.out.mono ?_
    rintro e W13 ⟨rfl,ho13,hq13⟩
    have HQ13:=lh ((Only.refl [g] W11).drew.trans hq13 (fun _ h _=>h) (fun _ h _=>h))
    have HO13:=lh ho13
    have s3:=hq13.rowAt q3 (by rw [mSg];have:=HZ9.out;have:=Hgat.out;omega)
    have s1:=hq13.rowAt q1 (by rw [mSg];have:=HZ9.out;have:=Hgat.out;omega)
    have s4:=hq13.rowAt q4 (by rw [mSg];have:=HZ9.out;have:=Hgat.out;omega)
    have s0:=hq13.rowAt HSet.out (by rw [mSg];have:=Hz10.out;omega)
    clear ho13 hq13
    refine hK.out _ _ ?_ (fun hHeld=>?_)
    ·exact ⟨s3,s1,s4,s0⟩
    clear hK K
    try simp only [Act.put,List.setIfInBounds_toArray,List.set_cons_zero,List.set_cons_succ]
    refine wpAnyH_done (by kernel_rfl) ?_ _
    clear q1 q3 q4 s0 s1 s3 s4 e1 e2 e3 e4 e5 hWn hWb
    go_wp2_with fail
    refine ⟨⟨k+1,laySq FK prev X Y q s,(squareD true MK).2,by omega,by go_num,HFKn,HO13,lh ((HM10.out.quiet HSo.out).only2 HQ13.out (fun x hx=>?_)),HGO2,lh ?_,lh ?_⟩,by simp [intOf];omega⟩
    ·rw [mSg] at hx
     have:=HRD.out
     have:=HZ9.out
     subst hx
     exact ⟨.inl (by omega),by omega,by omega⟩
    ·have:=Hadv.out.pos
     have:=Hpos.out
     omega
    ·exact qDFrB2
  ·exact qDFrB1
theorem frame_squares2 (hd:Ints .u8 lo hi w dv l) (hp:Ints .i64 lo' hi' w pv prev.pix) (hn:newB W H 128=true) (hk:readB ⟨2,l⟩=none) (hma:matesB prev W H=true) :
  Calls Tryz.prog 27 #[.agg #[.int .i64 2,dv],.agg #[.int .i64 prev.W,.int .i64 prev.H,pv],.int .i64 W,.int .i64 H] w (FrameP w (squaresGo false prev (l.getD 0 0) (W*H / 64).toNat 0 (newF W H 128) (modNew (l.drop 1)))):=by
 refine hidQ fun Q HPost=>?_
 obtain ⟨da,dcap,rfl,-⟩:=hd.open
 obtain ⟨pa,pcap,rfl,-⟩:=hp.open
 obtain ⟨hq1,HB0,HB1,HB2,-⟩:=boxes3 w (.cells #[.int .i64 2,.slice da l.length dcap] 83) (.cells #[.int .i64 prev.W,.int .i64 prev.H,.slice pa prev.pix.length pcap] 70) (.cells #[.int .i64 0,.int .i64 0,.slice none 0 0] 70)
 have HQ1:=lh hq1
 have HD:=lh (hd.quiet hq1)
 have HPv:=lh (hp.quiet hq1)
 have HZ3:Hid (w.heap.size+1+1<(((w.alloc (.cells #[.int .i64 2,.slice da l.length dcap] 83)).alloc (.cells #[.int .i64 prev.W,.int .i64 prev.H,.slice pa prev.pix.length pcap] 70)).alloc (.cells #[.int .i64 0,.int .i64 0,.slice none 0 0] 70)).heap.size):=lh (by simp)
 obtain ⟨hl1,hl2,hq0,hq15⟩:=readB_in (k:=2) (by omega) hd.2 hk
 have HL:=lh (show (l.drop 1).length≤100000000 by rw [List.length_drop];omega)
 obtain ⟨q,hq⟩:=Int.eq_ofNat_of_zero_le hq0
 rw [hq] at HPost
 have hqn:q≤15:=by omega
 have Hqn:=lh hqn
 have Hq:=lh hq
 have Hbd:=lh (newB_iff.1 hn)
 have HPw:=lh hp
 clear hl1 hl2 hq0 hq15 hqn hq
 have HPF:Hid (FrOk prev∧prev.W=W∧prev.H=H):=lh (by
  unfold matesB at hma
  rw [Bool.and_eq_true,Bool.and_eq_true,mayF_iff,decide_eq_true_iff,decide_eq_true_iff] at hma
  exact ⟨hma.1.1,hma.1.2,hma.2⟩)
 clear hd hp hq1
 go_enter Tryz.func27,Tryz.ntmps27
 go_wp2_with fail
 generalize hW3:World.alloc (World.alloc (World.alloc w _) _) _=W3 at *
 clear hW3
 go_at_call 29
 refine (pnewD_any W H 128 W3 hn).mono ?_
 rintro e W4 ⟨g,gcap,rfl,hown,hq4⟩
 have HN:=lh hn
 have HF0:=lh (newF_ok hn)
 have HFe:Hid (newF W H 128=newF W H 128):=lh rfl
 have HFW:Hid ((newF W H 128).W=W∧(newF W H 128).H=H):=lh ⟨rfl,rfl⟩
 generalize hF0:newF W H 128=F0 at *
 have HFF:=lh hF0
 clear hF0 HFe
 have Hgat:=lh ((hown.at g rfl))
 have HOwn4:=lh hown
 have HQ4:=lh (HQ1.out.q hq4)
 have HZ4:=lh (Nat.lt_of_lt_of_le HZ3.out hq4.size)
 have b0:=hq4.row HB0.out
 obtain ⟨k0,k1⟩:=row2 b0
 have HR0:=lh b0
 have HR1:=lh (hq4.row HB1.out)
 have HR2:=lh (hq4.row HB2.out)
 have n1:¬ W4.heap.size=w.heap.size:=by have:=HZ4.out;omega
 have n2:¬ w.heap.size=W4.heap.size:=by have:=HZ4.out;omega
 have HD4:=lh (HD.out.quiet hq4)
 have HP4:=lh (HPv.out.quiet hq4)
 clear hq4 hn hown b0
 go_wp2_with fail
 have hnew:=Only.new W4 (.cells #[.int .i64 W,.int .i64 H,.slice (some ⟨g,0,none⟩) F0.pix.length gcap] 70)
 have HRT:Hid ((W4.alloc (.cells #[.int .i64 W,.int .i64 H,.slice (some ⟨g,0,none⟩) F0.pix.length gcap] 70)).heap[W4.heap.size]?=some (.cells #[.int .i64 W,.int .i64 H,.slice (some ⟨g,0,none⟩) F0.pix.length gcap] 70 (0,0))):=lh (heap_alloc_new W4 _)
 have HQ5:=lh (HQ4.out.q hnew)
 have HR05:=lh (hnew.row HR0.out)
 have HR15:=lh (hnew.row HR1.out)
 have HR25:=lh (hnew.row HR2.out)
 have HD5:=lh (HD4.out.quiet hnew)
 have HP5:=lh (HP4.out.quiet hnew)
 have HO5:=lh (HOwn4.out.quiet hnew)
 have HZ5:Hid (W4.heap.size<(W4.alloc (.cells #[.int .i64 W,.int .i64 H,.slice (some ⟨g,0,none⟩) F0.pix.length gcap] 70)).heap.size):=lh (by simp)
 clear hnew k0 k1 n1 n2
 generalize hW5:World.alloc W4 _=W5 at *
 clear hW5
 go_at_call 49
 refine (show Calls Tryz.prog 49 #[.agg #[.int .i64 2,.slice da l.length dcap]] W5 (HeadOr W5 ⟨2,l⟩) from read_any HD5.out).mono ?_
 rintro e W6 ⟨hq6,hm⟩
 rw [hk] at hm
 obtain ⟨dv2,rfl,hi2⟩:=hm
 obtain ⟨ea,ecap,rfl,-⟩:=hi2.open
 have HI2:=lh hi2
 generalize hel:(l.drop 1).length=el at *
 have Hel:=lh hel
 clear hel hi2
 have hqq:=Hq.out
 rw [hqq]
 clear hqq
 have HQ6:=lh (HQ5.out.q hq6)
 have HR06:=lh (hq6.row HR05.out)
 have HR16:=lh (hq6.row HR15.out)
 have HR26:=lh (hq6.row HR25.out)
 have HRT6:=lh (hq6.row HRT.out)
 have HP6:=lh (HP5.out.quiet hq6)
 have HO6:=lh (HO5.out.quiet hq6)
 have HZ6:=lh (show w.heap.size+1+1<W6.heap.size∧W4.heap.size<W6.heap.size∧g<W6.heap.size by have:=hq6.size;have:=HZ4.out;have:=HZ5.out;have:=Hgat.out.2;omega)
 have n1:¬ W6.heap.size=w.heap.size+1+1:=by have:=HZ6.out;omega
 have n2:¬ w.heap.size+1+1=W6.heap.size:=by have:=HZ6.out;omega
 have n3:w.heap.size+1+1<W6.heap.size:=HZ6.out.1
 have n4:¬ W6.heap.size=w.heap.size+1:=by have:=HZ6.out;omega
 have n5:¬ w.heap.size+1=W6.heap.size:=by have:=HZ6.out;omega
 have n6:w.heap.size+1<W6.heap.size:=by have:=HZ6.out;omega
 obtain ⟨p0,p1,p2⟩:=frame_cells HR16.out
 clear hq6 hk
 obtain ⟨k0,k1⟩:=row2 HR06.out
 go_wp2_with fail
 have hnew7:=Only.new W6 (.cells #[.int .i64 2,.int .i64 q,.slice ea el ecap] 126)
 have HQ7:=lh (HQ6.out.q hnew7)
 have HRH:Hid ((W6.alloc (.cells #[.int .i64 2,.int .i64 q,.slice ea el ecap] 126)).heap[W6.heap.size]?=some (.cells #[.int .i64 2,.int .i64 q,.slice ea el ecap] 126 (0,0))):=lh (heap_alloc_new W6 _)
 have HR07:=lh (hnew7.row HR06.out)
 have HR17:=lh (hnew7.row HR16.out)
 have HR27:=lh (hnew7.row HR26.out)
 have HRT7:=lh (hnew7.row HRT6.out)
 have HP7:=lh (HP6.out.quiet hnew7)
 have HO7:=lh (HO6.out.quiet hnew7)
 have HI7:=lh (HI2.out.quiet hnew7)
 have HZ7:Hid (W6.heap.size<(W6.alloc (.cells #[.int .i64 2,.int .i64 q,.slice ea el ecap] 126)).heap.size):=lh (by simp)
 clear hnew7
 generalize hW7:World.alloc W6 _=W7 at *
 clear hW7
 go_at_call 50
 have hmt:=mates_any prev.W prev.H W H HP7.out
 rw [hma] at hmt
 have Hmt:=lh hmt
 clear hmt hma p0 p1 p2 k0 k1
 refine Hmt.out.mono ?_
 rintro e W8 ⟨rfl,hq8⟩
 have HQ8:=lh (HQ7.out.q hq8)
 have HR08:=lh (hq8.row HR07.out)
 have HR18:=lh (hq8.row HR17.out)
 have HR28:=lh (hq8.row HR27.out)
 have HRT8:=lh (hq8.row HRT7.out)
 have HRH8:=lh (hq8.row HRH.out)
 have HP8:=lh (HP7.out.quiet hq8)
 have HO8:=lh (HO7.out.quiet hq8)
 have HI8:=lh (HI7.out.quiet hq8)
 have HZ8:=lh (show W6.heap.size<W8.heap.size from Nat.lt_of_lt_of_le HZ7.out hq8.size)
 clear hq8 n1 n2 n3 n4 n5 n6
 obtain ⟨k0,k1⟩:=row2 HR08.out
 obtain ⟨h0,h1,h2⟩:=frame_cells HRH8.out
 go_wp2_with fail
 clear h0 h1 h2
 go_at_call 51
 have hnr:=mnew_any HI8.out (by rw [Hel.out];exact HL.out)
 have Hnr:=lh hnr
 clear hnr k0 k1
 refine Hnr.out.mono ?_
 rintro e W9 ⟨R,D,bv,hib,rfl,hmod,hq9,hR9,hD9⟩
 have Hlt:=lh hmod.lt
 have HM9:=lh hmod
 have HQ9:=lh (HQ8.out.q hq9)
 have HR09:=lh (hq9.row HR08.out)
 have HR19:=lh (hq9.row HR18.out)
 have HR29:=lh (hq9.row HR28.out)
 have HRT9:=lh (hq9.row HRT8.out)
 have HRH9:=lh (hq9.row HRH8.out)
 have HP9:=lh (HP8.out.quiet hq9)
 have HO9:=lh (HO8.out.quiet hq9)
 have HZ9:=lh (show W6.heap.size<R∧W6.heap.size<D∧g<W6.heap.size∧W4.heap.size<W6.heap.size∧w.heap.size+1+1<W4.heap.size∧W3.heap.size≤g∧w.heap.size+1+1<W3.heap.size by have:=HZ7.out;have:=HZ8.out;have:=HZ6.out;have:=HZ4.out;have:=Hgat.out;have:=HZ3.out;omega)
 have HRD:=lh (And.intro (show W8.heap.size≤R from hR9) (And.intro hD9 (show W6.heap.size<W8.heap.size by have:=HZ7.out;have:=HZ8.out;omega)))
 clear hmod hq9 hR9 hD9
 have hbd:=Hbd.out
 have hWH0:0≤W*H∧W*H≤32*32:=⟨Int.mul_nonneg (by omega) (by omega),Int.mul_le_mul hbd.1.2.1 hbd.2.1.2.1 (by omega) (by omega)⟩
 obtain ⟨NN,hNN⟩:∃ NN,NN=W*H:=⟨_,rfl⟩
 obtain ⟨C,hC⟩:∃ C:Nat,C=(W*H / 64).toNat:=⟨_,rfl⟩
 have Hcl:Hid ((C:Int)=W*H / 64):=lh (by rw [hC];omega)
 have hwh:wrap64 (W*H)=NN:=by rw [← hNN] at hWH0 ⊢;unfold wrap64;omega
 have hcc:NN / 64=(C:Int):=by rw [Hcl.out,← hNN]
 have hn0:0≤NN:=by omega
 have hn1:NN≤1024:=by omega
 have hC16:C≤16:=by omega
 rw [← hC] at HPost
 have hw1:8≤W:=hbd.1.1
 have hw2:W≤32:=hbd.1.2.1
 have Hw8:=lh hbd
 clear hNN hC hWH0 hbd
 go_wp2_with fail
 have Hcc:=lh hcc
 clear hwh hcc
 go_loopw [77,14,15,16,80] (fun i _ _ _ _ wr=>∃ (k:Nat) (FK:FrameD) (MK:Mod),k≤C∧i=.int .i64 k∧Hid (FrOk FK∧FK.W=W∧FK.H=H∧FK.pix.length=F0.pix.length)∧Hid (Own .i64 3 W3.heap.size wr (.slice (some ⟨g,0,none⟩) F0.pix.length gcap) FK.pix)∧Hid (ModAt W8.heap.size hib R D bv wr MK)∧Hid (squaresGo false prev q (C-k) k FK MK=squaresGo false prev q C 0 F0 (modNew (l.drop 1)))∧Hid (MK.d.pos≤4+23006*k)∧Hid (Only [g,R,D] W9 wr)) (fun i _ _ _ _ _=>C-(intOf i).toNat)
 case atStart=>exact ⟨0,F0,modNew (l.drop 1),by omega,rfl,lh ⟨HF0.out,HFW.out.1,HFW.out.2,rfl⟩,HO9,HM9,lh rfl,lh (Nat.le_refl _),lh (Only.refl _ _)⟩
 case round =>
  obtain ⟨k,FK,MK,hk,rfl,HFK,HOk,HMk,Hgo,Hpos,HQk⟩:=hrel
  have a0:=HQk.out.rowAt HR09.out (by simp only [List.mem_cons,List.not_mem_nil,or_false];have:=HZ9.out;omega)
  have a1:=HQk.out.rowAt HR19.out (by simp only [List.mem_cons,List.not_mem_nil,or_false];have:=HZ9.out;omega)
  have a2:=HQk.out.rowAt HR29.out (by simp only [List.mem_cons,List.not_mem_nil,or_false];have:=HZ9.out;omega)
  have a3:=HQk.out.rowAt HRT9.out (by simp only [List.mem_cons,List.not_mem_nil,or_false];have:=HZ9.out;have:=Hgat.out.2;omega)
  have a4:=HQk.out.rowAt HRH9.out (by simp only [List.mem_cons,List.not_mem_nil,or_false];have:=HZ9.out;omega)
  have A0:=lh a0
  have A1:=lh a1
  have A2:=lh a2
  have A3:=lh a3
  have A4:=lh a4
  clear a0 a1 a2 a3 a4
  by_cases hlt:k<C
  ·have hki:(k:Int)<NN / 64:=by rw [Hcc.out];omega
   have hk0:(0:Int)≤(k:Int):=by omega
   obtain ⟨k0,k1⟩:=row2 A0.out
   have hcode:=square_any HMk.out false (by have:=Hpos.out;omega)
   simp only [sqL,List.map_cons,List.map_nil,List.cons_append,List.nil_append] at hcode
   have Hcode:=lh hcode
   clear hcode
   go_wp2_with fail
   go_at_call 52
   refine Hcode.out.mono ?_
   rintro e W10 ⟨hq10,hm10,hr10⟩
   have hNot:∀ x:Nat,x<W6.heap.size∨x=W6.heap.size→x∉[R,D]:=fun x hx=>by
    simp only [List.mem_cons,List.not_mem_nil,or_false];have:=HZ9.out;omega
   have HNot:=lh hNot
   have HQ10:=lh hq10
   have HM10:=lh hm10
   have hz10:=HZ9.out
   have b1:=hq10.rowAt A1.out (hNot _ (by omega))
   have b2:=hq10.rowAt A2.out (hNot _ (by omega))
   have b3:=hq10.rowAt A3.out (hNot _ (by omega))
   have b4:=hq10.rowAt A4.out (hNot _ (by omega))
   have HB1x:=lh b1
   have HB2x:=lh b2
   have HB3x:=lh b3
   have HB4x:=lh b4
   have HO10:=lh (HOk.out.only hq10 (fun x hx e=>by
    simp only [Value.ownBlock] at e;injection e with e;exact hNot g (by omega) (e ▸ hx)))
   have Hz10:=lh (show wr.heap.size≤W10.heap.size∧w.heap.size+1+1<wr.heap.size∧g<wr.heap.size by have h1:=hq10.size;have h2:=HQk.out.size;have h3:=HQ9.out.size;have:=(HO9.out.at g rfl).2;have:=Hlt.out;omega)
   clear b1 b3 b4 hNot hq10 hm10 hz10 k0 k1
   cases hsq:(squareD false MK).1 with
   | error er =>
    exact qDFrB0
   | ok s =>
    rw [hsq] at hr10
    obtain ⟨lv,vs,rfl,hml,hsin⟩:=hr10
    obtain ⟨hadv,hsok,-⟩:=squareD_adv false HMk.out.ok
    obtain ⟨hs1,hs2⟩:=hsok s hsq
    have hgo:=Hgo.out
    rw [show C-k=(C-(k+1))+1 by omega,squaresGo_more hsq] at hgo
    have HGO:=lh hgo
    obtain ⟨C13,hC13⟩:∃ A,A=(sqL s.kind s.mode s.modes s.vx s.vy lv vs).toArray:=⟨_,rfl⟩
    rw [← hC13]
    have hnew:=Only.new W10 (.cells (sqL 0 0 [0,0,0,0] 0 0 nilS [nilS,nilS,nilS,nilS]).toArray 137)
    have hrn:(W10.alloc (.cells (sqL 0 0 [0,0,0,0] 0 0 nilS [nilS,nilS,nilS,nilS]).toArray 137)).heap[W10.heap.size]?=some (.cells (sqL 0 0 [0,0,0,0] 0 0 nilS [nilS,nilS,nilS,nilS]).toArray 137 (0,0)):=heap_alloc_new _ _
    have hset:=setRow_heap (W10.alloc (.cells (sqL 0 0 [0,0,0,0] 0 0 nilS [nilS,nilS,nilS,nilS]).toArray 137)) W10.heap.size _ C13 _ _ hrn
    have hso:=hnew.trans (Only.setRow (S:=[W10.heap.size]) (Only.refl _ _) (g:=W10.heap.size) (fun _=>by simp) C13) (U:=[]) (by simp) (fun x hx hl=>by rw [mSg] at hx;omega)
    have hinf:(Tryz.prog.info? 137).map (·.size)=some C13.size:=by rw [hC13];exact sqL_info hml hsin.len
    have hsz:(sqL 0 0 [0,0,0,0] 0 0 nilS [nilS,nilS,nilS,nilS]).toArray.size=C13.size:=by rw [hC13];exact sqL_sizes rfl rfl hml hsin.len
    have hone:C13.all (·.oneCell')=true:=by rw [hC13];exact sqL_one hsin.one.1 hsin.one.2
    have HSt:=lh (And.intro hinf (And.intro hsz hone))
    have HRn:=lh hrn
    have HSet:=lh hset
    have HSo:=lh hso
    have HC13:=lh hC13
    have Hs1:=lh hs1
    have Hs2:=lh hs2
    have Hml:=lh hml
    have Hsin:=lh hsin
    have Hadv:=lh hadv
    clear hgo hsq hnew hrn hset hso hinf hsz hone hC13 hs1 hs2 hml hsin hadv hsok b2
    simp only [sqL,List.map_cons,List.map_nil,List.cons_append,List.nil_append] at HSet HSo HRn
    go_wp2_with (first | (refine wpList_store_row rfl (.tmp 15) (.tmp 88) 137 rfl rfl rfl HRn.out HSt.out.1 HSt.out.2.1 HSt.out.2.2 ?_) | fail)
    generalize hW11:World.setRow _ _ _=W11 at *
    clear hW11
    have hzz:=HZ9.out
    have q1:=HSo.out.row HB1x.out
    have q2:=HSo.out.row HB2x.out
    have q3:=HSo.out.row HB3x.out
    have q4:=HSo.out.row HB4x.out
    have HQ2x:=lh q2
    have hun:Tryz.prog.underlying 137=some _:=Tryz.underlying137
    have hinf:=HSt.out.1
    have hld:=fun (wz:World) (hr:wz.heap[W10.heap.size]?=some (.cells C13 137 (0,0)))=>run_loadVar_row (P:=Tryz.prog) wz W10.heap.size 137 137 C13 (0,0) _ hr Tryz.underlying137 rfl hinf
    have Hld:=lh hld
    clear hun hinf hld hzz q2
    obtain ⟨K8,hK8⟩:∃ K8,K8=(k:Int)*8:=⟨_,rfl⟩
    obtain ⟨X,hX⟩:∃ X,X=K8 % W:=⟨_,rfl⟩
    obtain ⟨Zq,hZq⟩:∃ Zq,Zq=K8 / W:=⟨_,rfl⟩
    obtain ⟨Y,hY⟩:∃ Y,Y=Zq*8:=⟨_,rfl⟩
    have hwb:=Hw8.out
    have hC16':=Hcl.out
    have hK0:0≤K8:=by omega
    have hK1:K8≤128:=by omega
    have hZ0:0≤Zq:=by rw [hZq];exact Int.ediv_nonneg hK0 (by omega)
    have hZ1:Zq≤128:=by rw [hZq];exact Int.le_trans (Int.ediv_le_self _ hK0) hK1
    have e1:IntKind.i64.wrap ((k:Int)*8)=K8:=by rw [IntKind.wrap_i64,← hK8];omega
    have e2:K8.tmod W=X:=by rw [hX,Int.tmod_eq_emod_of_nonneg hK0]
    have e3:K8.tdiv W=Zq:=by rw [hZq,Int.tdiv_eq_ediv_of_nonneg hK0]
    have e4:IntKind.i64.wrap (Zq*8)=Y:=by rw [IntKind.wrap_i64,← hY];omega
    have e5:IntKind.i64.wrap Zq=Zq:=by rw [IntKind.wrap_i64];omega
    have hWn:¬ W=0:=by omega
    have hWb:(W == 0)=false:=by rw [beq_eq_false_iff_ne];exact hWn
    have HX:=lh (And.intro hK8 (And.intro hX (And.intro hZq hY)))
    obtain ⟨hfk,hfw,hfh,hfl⟩:=HFK.out
    obtain ⟨p1,p2,p3,p4⟩:=square_in (W:=W) (H:=H) (i:=k) hwb.1.1 hwb.1.2.1 hwb.1.2.2 hwb.2.1.1 hwb.2.1.2.1 hwb.2.1.2.2 (by omega)
    rw [← hK8,← hX] at p1 p2
    rw [← hK8,← hZq,← hY] at p3 p4
    have hwall:Only [] w W11:=((HQ9.out.trans HQk.out (U:=[]) (by simp) (fun x hx hl=>by simp only [List.mem_cons,List.not_mem_nil,or_false] at hx;have:=HZ9.out;have:=HRD.out;have:=HQ1.out.size;omega)).trans HQ10.out (U:=[]) (by simp) (fun x hx hl=>by simp only [List.mem_cons,List.not_mem_nil,or_false] at hx;have:=HZ9.out;have:=HRD.out;have:=HQ1.out.size;omega)).q HSo.out
    have hLay:=lay_sq_any (f:=FK) (prev:=prev) (s:=s) (x:=X) (y:=Y) (q:=q) hfk (base:=W3.heap.size) (g:=g) (cap:=gcap) (w:=W11.drew) (lv:=lv) (vs:=vs)
     ⟨by rw [hfl];exact (HO10.out.quiet HSo.out).quiet (Only.refl _ _).drew,HPw.out.quiet hwall.drew,(Hsin.out.only HSo.out (by simp)).only (Only.refl [] _).drew (by simp),.inl Hz10.out.2.2⟩ (fun _=>HPF.out.1) Hs1.out Hml.out Hqn.out p1 (by rw [hfw];exact p2) p3 (by rw [hfh];exact p4)
    rw [hfw,hfh,hfl,← HC13.out] at hLay
    have HLay:=lh hLay
    have hlo:=laySq_ok hfk (s:=s) (prev:=prev) (fun hk=>(HPF.out.1.sam)) p1 (by rw [hfw];exact p2) p3 (by rw [hfh];exact p4) Hs1.out (q:Int)
    have hlw:=laySq_W FK prev X Y q s
    have HFKn:Hid (FrOk (laySq FK prev X Y q s)∧(laySq FK prev X Y q s).W=W∧(laySq FK prev X Y q s).H=H∧(laySq FK prev X Y q s).pix.length=F0.pix.length):=lh ⟨hlo,hlw.1.trans hfw,hlw.2.trans hfh,by
     have t1:=hlo.len
     have t2:=hfk.len
     rw [hlw.1,hlw.2] at t1
     omega⟩
    have HGO2:Hid (squaresGo false prev q (C-(k+1)) (k+1) (laySq FK prev X Y q s) (squareD false MK).2=squaresGo false prev q C 0 F0 (modNew (l.drop 1))):=lh (by
     rw [← HGO.out,hfw,← hK8,← hX,← hZq,← hY])
    clear hK8 hX hZq hY hwb hC16' hK0 hK1 hZ0 hZ1 hfk hfw hfh hfl p1 p2 p3 p4 hwall hLay hlo hlw
    refine wp_region_held_drew (S:=(fun w'=>w'.heap[W4.heap.size]?=some (.cells #[.int .i64 W,.int .i64 H,.slice (some ⟨g,0,none⟩) F0.pix.length gcap] 70 (0,0))∧w'.heap[w.heap.size+1]?=some (.cells #[.int .i64 prev.W,.int .i64 prev.H,.slice pa prev.pix.length pcap] 70 (0,0))∧w'.heap[W6.heap.size]?=some (.cells #[.int .i64 2,.int .i64 q,.slice ea el ecap] 126 (0,0))∧w'.heap[W10.heap.size]?=some (.cells C13 137 (0,0)))) (by kernel_rfl) ?_ (fun hHeld=>?_)
    ·exact ⟨q3,q1,q4,HSet.out⟩
    refine tkw 0 96 ⟨rfl,qDFrBt0⟩ ?_
    refine tkw 1 97 ⟨rfl,qDFrBt0⟩ ?_
    refine tkw 2 98 ⟨rfl,qDFrBt0⟩ ?_
    refine tkw 3 99 ⟨rfl,qDFrBt0⟩ ?_
    refine tkw 4 100 ⟨rfl,qDFrBt0⟩ ?_
    refine tkw 5 101 ⟨rfl,qDFrBt0⟩ ?_
    refine tkw 6 102 ⟨rfl,qDFrBt0⟩ ?_
    refine tkw 7 103 ⟨rfl,qDFrBt0⟩ ?_
    refine tkw 8 104 ⟨rfl,qDFrBt0⟩ ?_
    refine tkw 9 105 ⟨rfl,qDFrBt0⟩ ?_
    refine tkw 10 106 ⟨rfl,qDFrBt0⟩ ?_
    refine tkw 11 107 ⟨rfl,qDFrBt0⟩ ?_
    refine tkw 12 108 ⟨rfl,qDFrBt0⟩ ?_
    refine tkw 13 109 ⟨rfl,qDFrBt1⟩ ?_
    refine rdy (rdc 14 110 (fun K hK=>?_) .nil)
    go_simp
    go_at_call 53
    refine HLay.out.mono ?_
    rintro e W13 ⟨rfl,ho13,hq13⟩
    have HQ13:=lh ((Only.refl [g] W11).drew.trans hq13 (fun _ h _=>h) (fun _ h _=>h))
    have HO13:=lh ho13
    have s3:=hq13.rowAt q3 (by rw [mSg];have:=HZ9.out;have:=Hgat.out;omega)
    have s1:=hq13.rowAt q1 (by rw [mSg];have:=HZ9.out;have:=Hgat.out;omega)
    have s4:=hq13.rowAt q4 (by rw [mSg];have:=HZ9.out;have:=Hgat.out;omega)
    have s0:=hq13.rowAt HSet.out (by rw [mSg];have:=Hz10.out;omega)
    clear ho13 hq13
    refine hK.out _ _ ?_ (fun hHeld=>?_)
    ·exact ⟨s3,s1,s4,s0⟩
    clear hK K
    try simp only [Act.put,List.setIfInBounds_toArray,List.set_cons_zero,List.set_cons_succ]
    refine wpAnyH_done (by kernel_rfl) ?_ _
    clear q1 q3 q4 s0 s1 s3 s4 e1 e2 e3 e4 e5 hWn hWb
    go_wp2_with fail
    refine ⟨⟨k+1,laySq FK prev X Y q s,(squareD false MK).2,by omega,by go_num,HFKn,HO13,lh ((HM10.out.quiet HSo.out).only2 HQ13.out (fun x hx=>?_)),HGO2,lh ?_,lh ?_⟩,by simp [intOf];omega⟩
    ·rw [mSg] at hx
     have:=HRD.out
     have:=HZ9.out
     subst hx
     exact ⟨.inl (by omega),by omega,by omega⟩
    ·have:=Hadv.out.pos
     have:=Hpos.out
     omega
    ·exact qDFrB2
  ·exact qDFrB1
end
theorem frame_any {lo hi lo' hi':Nat} {dv pv:Value} {w:World} {c:Coded} {prev:FrameD} (W H:Int) (hd:Ints .u8 lo hi w dv c.data) (hp:Ints .i64 lo' hi' w pv prev.pix) :
  Calls Tryz.prog 27 #[.agg #[.int .i64 c.kind,dv],.agg #[.int .i64 prev.W,.int .i64 prev.H,pv],.int .i64 W,.int .i64 H] w (FrameP w (frameD c prev W H)):=by
 unfold frameD
 by_cases hn:newB W H 128=false
 ·rw [if_pos hn]
  exact frame_sides hd hp hn
 rw [if_neg hn]
 have hn':newB W H 128=true:=by simpa using hn
 obtain ⟨K,l⟩:=c
 cases hr:readB ⟨K,l⟩ with
 | some k=>exact frame_unit hd hp hn' hr
 | none =>
  have hk:=readB_kind hr
  simp only at hk hd ⊢
  rcases (by omega:K=1∨K=2∨K=3∨K=4) with rfl | rfl | rfl | rfl
  ·rw [if_neg (by omega),if_neg (by omega),if_neg (by omega)]
   exact frame_squares1 hd hp hn' hr
  ·cases hm:matesB prev W H with
   | false =>
    rw [if_pos ⟨.inl rfl,rfl⟩]
    exact frame_mates2 hd hp hn' hr hm
   | true =>
    rw [if_neg (fun h=>by cases h.2),if_neg (by omega),if_neg (by omega)]
    exact frame_squares2 hd hp hn' hr hm
  ·cases hm:matesB prev W H with
   | false =>
    rw [if_pos ⟨.inr rfl,rfl⟩]
    exact frame_mates3 hd hp hn' hr hm
   | true =>
    rw [if_neg (fun h=>by cases h.2),if_neg (by omega),if_pos rfl]
    exact frame_skip3 hd hp hn' hr hm
  ·rw [if_neg (by omega),if_pos rfl]
   exact frame_flat4 hd hp hn' hr
end Go.Proofs.YtmdobcffijnaoaaGreatDoor
