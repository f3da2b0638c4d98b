/- Joined texts: GPln, GFst. Conditions: each part names its own. -/
import Derived.Test.YtkigikallkpbcaaGreatDoorT1
import Derived.Test.YtkigikallkpbcaaGreatDoorF1
import Derived.Test.YtkigikallkpbcaaGreatDoorS5
import Derived.Test.YtkigikallkpbcaaGreatDoorC4
import Derived.Test.YtkigikallkpbcaaGreatDoorR1
import Derived.Test.YtkigikallkpbcaaGreatDoorK7
import Derived.Test.YtkigikallkpbcaaGreatDoorS7
import Derived.Test.YtkigikallkpbcaaGreatDoorR2
import Derived.Test.YtkigikallkpbcaaGreatDoorK2
import Derived.Test.YtkigikallkpbcaaGreatDoorZGEnc
import Derived.Test.YtkigikallkpbcaaGreatDoorG5
import Derived.Test.YtkigikallkpbcaaGreatDoorG4
import Derived.Deep.DeepCutAuto
namespace Go.Proofs.YtkigikallkpbcaaGreatDoor
open Go.RowKit
set_option linter.unusedVariables false
set_option linter.unusedSimpArgs false
set_option maxRecDepth 100000
set_option maxHeartbeats 16000000
section
theorem gplain_any (v:Int) (w:World) (hv:InK .i64 v) :
  Calls Tryz.prog 36 #[.int .i64 v] w fun e w'=>∃ g cap,e=.returned (.agg #[.int .i64 8,.int .i64 8,.slice (some ⟨g,0,none⟩) 64 cap])∧Own .i64 3 w.heap.size w' (.slice (some ⟨g,0,none⟩) 64 cap) (plainF v).pix∧Only [] w w':=by
 refine hidQ fun Q HPost=>?_
 have hin:∀ z∈[v],InK .i64 z:=by simp only [mSg,forall_eq];exact hv
 have HOw:=lh (fun (W:World)=>own_newG (k:=.i64) (w:=W) (t:=3) (l:=[v]) (vs:=#[.int .i64 v]) rfl (by simp [maxLen]) hin 1 rfl rfl)
 have HR0:Hid (((w.alloc (.cells #[.int .i64 0,.int .i64 0,.slice none 0 0] 73)).alloc (.cells #[.int .i64 8,.int .i64 8,.slice none 0 0] 73)).heap[w.heap.size]?=some (.cells #[.int .i64 0,.int .i64 0,.slice none 0 0] 73 (0,0))):=lh ((Only.new (w.alloc _) _).row (heap_alloc_new w _))
 have HR1:Hid (((w.alloc (.cells #[.int .i64 0,.int .i64 0,.slice none 0 0] 73)).alloc (.cells #[.int .i64 8,.int .i64 8,.slice none 0 0] 73)).heap[w.heap.size+1]?=some (.cells #[.int .i64 8,.int .i64 8,.slice none 0 0] 73 (0,0))):=lh (heap_alloc_new' (by simp))
 have HQ2:Hid (Only [] w ((w.alloc (.cells #[.int .i64 0,.int .i64 0,.slice none 0 0] 73)).alloc (.cells #[.int .i64 8,.int .i64 8,.slice none 0 0] 73))):=lh ((Only.new w _).alloc _)
 have HZ2:Hid (((w.alloc (.cells #[.int .i64 0,.int .i64 0,.slice none 0 0] 73)).alloc (.cells #[.int .i64 8,.int .i64 8,.slice none 0 0] 73)).heap.size=w.heap.size+1+1):=lh (by simp)
 clear hin hv
 go_enter Tryz.func36,Tryz.ntmps36
 go_wp2_with fail
 generalize hW2:World.alloc (World.alloc w _) _=W2 at *
 clear hW2
 go_loopw [4] (fun iv wr=>∃ (i:Nat) (sv:Value),i≤64∧iv=.int .i64 (i:Int)∧Hid (Own .i64 3 (w.heap.size+1+1) wr sv (List.replicate i v))∧Hid (wr.heap[w.heap.size+1]?=some (.cells #[.int .i64 8,.int .i64 8,sv] 73 (0,0)))∧Hid (Only [w.heap.size+1] W2 wr)) (fun iv _=>(64-intOf iv).toNat)
 case atStart=>exact ⟨0,.slice none 0 0,by omega,rfl,lh (Own.nil _ _ _ _),HR1,lh (Only.refl _ _)⟩
 case round =>
  obtain ⟨i,sv,hi,rfl,HO,HR,HK⟩:=hrel
  obtain ⟨t0,t1,t2⟩:=frame_cells HR.out
  by_cases hlt:i<64
  ·obtain ⟨sa,sn,sc,rfl⟩:∃ sa sn sc,sv=.slice sa sn sc:=by
    obtain ⟨a,cap,e,-⟩:=HO.out.ints.open
    exact ⟨a,_,cap,e⟩
   have hi64:(i:Int)<64:=by omega
   have hin1:IntKind.i64.wrap ((i:Int)+1)=((i+1:Nat):Int):=by rw [IntKind.wrap_i64];omega
   have Hsrc:=lh ((HOw.out wr).ints)
   have Hq1:=lh (Only.new wr (.cells #[.int .i64 v] 3))
   have hby:((List.replicate i v).length+[v].length)*8≤140737488355328:=by simp;omega
   have Hby:=lh hby
   have HL1:Hid ((List.replicate i v ++ [v]).length=i+1∧List.replicate i v ++ [v]=List.replicate (i+1) v):=lh ⟨by simp,List.replicate_succ'.symm⟩
   have HZr:Hid (w.heap.size+1+1≤(wr.alloc (.cells #[.int .i64 v] 3)).heap.size):=lh (by have:=HK.out.size;have:=HZ2.out;have:=Hq1.out.size;omega)
   clear hby
   have HRa:=lh (Hq1.out.row HR.out)
   have HFo:Hid (w.heap.size+1∉(Value.slice sa sn sc).ownBlock.toList):=lh (fun hm=>by have:=HO.out.at (w.heap.size+1) (by simpa using hm);omega)
   have HKa:=lh (HK.out.trans Hq1.out (U:=[w.heap.size+1]) (by simp) (by simp))
   go_wp2_with (at_builtin;refine wpList_append_ints rfl (.tmp 11) (.tmp 13) _ rfl EI (HO.out.quiet Hq1.out) rfl Hsrc.out rfl Hby.out HZr.out (fun v1 w1 hown1 ho1=>?_);obtain ⟨g1,cap1,hv1,hg1,hg1b⟩:=hown1.form (by rw [HL1.out.1];omega);rw [HL1.out.1] at hv1;subst hv1;rw [HL1.out.2] at hown1;have HO1:=lh hown1;have HA1:=lh ho1;have hr1:=ho1.only.rowAt HRa.out HFo.out;have HR1n:=lh hr1;obtain ⟨z0,z1,z2⟩:=frame_cells hr1;have zf:=frozen_of_row _ (w.heap.size+1) 2 _ _ hr1;have HG1:=lh (And.intro hg1 hg1b);clear hown1 ho1 hr1 hg1 hg1b)
   have hr2:=heap_setCell_same _ (w.heap.size+1) 2 _ _ (.slice (some ⟨g1,0,none⟩) (i+1) cap1) HR1n.out
   have ho2:Only [w.heap.size+1] _ _:=((Only.refl [w.heap.size+1] w1).setCell (by simp) (.slice (some ⟨g1,0,none⟩) (i+1) cap1) (p:=⟨w.heap.size+1,2,none⟩))
   refine ⟨⟨i+1,.slice (some ⟨g1,0,none⟩) (i+1) cap1,by omega,by first | rfl | rw [hin1],lh (HO1.out.only ho2 (fun g hg e=>by simp only [Value.ownBlock,Option.some.injEq] at e;rw [mSg] at hg;have:=HG1.out.1;omega)),lh hr2,lh ((HKa.out.trans HA1.out.only (U:=[w.heap.size+1]) (by simp) (fun g hg hlt=>by have:=HO.out.at g (by simpa using hg);have:=HZ2.out;omega)).trans ho2 (U:=[w.heap.size+1]) (by simp) (by simp))⟩,by simp only [intOf];omega⟩
  ·obtain rfl:i=64:=by omega
   have hi64:¬ ((64:Nat):Int)<64:=by omega
   obtain ⟨g9,cap9,hv9,hg1,hg2⟩:=HO.out.form (by rw [List.length_replicate];omega)
   rw [List.length_replicate] at hv9
   subst hv9
   have HG:=lh (And.intro hg1 hg2)
   have hr0:=HK.out.rowAt HR0.out (by simp)
   obtain ⟨u0,u1,u2⟩:=frame_cells hr0
   have x0:=frozen_of_row _ w.heap.size 0 _ _ hr0
   have x1:=frozen_of_row _ w.heap.size 1 _ _ hr0
   have x2:=frozen_of_row _ w.heap.size 2 _ _ hr0
   have h3:=heap_setCell_same _ w.heap.size 0 _ _ (.int .i64 8) hr0
   have h4:=heap_setCell_same _ w.heap.size 1 _ _ (.int .i64 8) h3
   have h5:=heap_setCell_same _ w.heap.size 2 _ _ (.slice (some ⟨g9,0,none⟩) 64 cap9) h4
   have H5:=lh h5
   have HOz:=lh ((((Only.refl [w.heap.size] wr).setCell (p:=⟨w.heap.size,0,none⟩) (by simp) (.int .i64 8)).setCell (p:=⟨w.heap.size,1,none⟩) (by simp) (.int .i64 8)).setCell (p:=⟨w.heap.size,2,none⟩) (by simp) (.slice (some ⟨g9,0,none⟩) 64 cap9))
   clear hr0 h3 h4 h5 hg1 hg2
   go_wp2_with fail
   refine bodyPost_ret (v:=.agg #[.int .i64 8,.int .i64 8,.slice (some ⟨g9,0,none⟩) 64 cap9]) (results_cell_row Tryz.results36 _ _ w.heap.size _ _ _ _ rfl H5.out Tryz.underlying73 rfl (by kernel_rfl)) rfl (HPost.out _ _ ⟨g9,cap9,rfl,?_,?_⟩)
   ·exact (HO.out.only HOz.out (fun g hg e=>by simp only [Value.ownBlock,Option.some.injEq] at e;rw [mSg] at hg;have:=HG.out.1;omega)).lower (by omega)
   ·exact (HQ2.out.trans HK.out (U:=[]) (by simp) (fun g hg hlt=>by rw [mSg] at hg;omega)).trans HOz.out (U:=[]) (by simp) (fun g hg hlt=>by rw [mSg] at hg;omega)
end
def tightC:Cfg:=⟨0,3,0,0,4,8,8,8⟩
theorem fit_tight:fitE (plainF 7) frame0 true tightC 8=.ok (⟨4,[]⟩,plainF 128):=by
 unfold fitE
 rw [if_neg (by decide),if_neg (by decide)]
 exact fitGo_none _ _ (fun i hi=>checkE_of (plain_may 7 (by decide)) (by decide) (by have h4:i<4:=hi;have:tightC.qmin=0:=rfl;omega) (by decide))
theorem gcheck_tight:gcheckE tightC [plainF 7] [8]=none:=by kernel_rfl
theorem gopL_tight:gopL tightC (fun i=>([8]:List Int).getD i 0) [plainF 7] 0 frame0=[(⟨4,[]⟩,plainF 128)]:=by
 have h:=fit_tight
 have hC:fitC (plainF 7) frame0 true tightC 8=⟨4,[]⟩:=by unfold fitC;rw [h]
 have hB:fitB (plainF 7) frame0 true tightC 8=plainF 128:=by unfold fitB;rw [h]
 show [(fitC (plainF 7) frame0 true tightC 8,fitB (plainF 7) frame0 true tightC 8)]=_
 rw [hC,hB]
theorem gopA_tight:gopA tightC [plainF 7] [8]=[⟨4,[]⟩]:=by unfold gopA;rw [gopL_tight];rfl
theorem gopB_tight:gopB tightC [plainF 7] [8]=[plainF 128]:=by unfold gopB;rw [gopL_tight];rfl
/-- the chunk of the example -/
def chunkF:Chunk:=⟨0,0,1,[⟨4,[]⟩]⟩
theorem chunkF_ok:ChunkOk chunkF:=by unfold ChunkOk InK chunkF;decide
theorem chunkF_by:ChunkBy chunkF:=⟨by kernel_rfl,by unfold chunkF;simp⟩
theorem spl_nil {E:Option Err} {U:List UnitD} (h:SplAt [] E 0 U):parseE U E=.error ⟨[(sGop,0)],1⟩:=by
 cases U with
 | nil =>
  rcases h.peek_nil with ⟨-,rfl,-⟩ | ⟨h1,-⟩
  ·rfl
  ·exact absurd h1 (by simp)
 | cons u us=>exact absurd h.peek_cons.1 (by simp)
theorem frames_one {W:World} {f:FrameD} {pv:Value} {lo hi:Nat} (hp:Ints .i64 lo hi W pv f.pix) :
  FramesAt 0 (max hi (W.heap.size+1)) (W.alloc (.cells #[.int .i64 f.W,.int .i64 f.H,pv] 73)) (.slice (some ⟨W.heap.size,0,none⟩) 1 1) [f]:=by
 have hr:=heap_alloc_new W (.cells #[.int .i64 f.W,.int .i64 f.H,pv] 73)
 refine ⟨fun i j=>if j=0 then .int .i64 f.W else if j=1 then .int .i64 f.H else pv,⟨some ⟨W.heap.size,0,none⟩,1,rfl,Nat.le_refl _,by simp [maxLen],fun _=>⟨W.heap.size,0,rfl,by omega,by omega,fun i j hi hj=>?_⟩⟩,fun i hi=>?_⟩
 ·have hi0:i=0:=by simp at hi;omega
  rw [cell_of_row _ _ _ _ _ _ hr]
  subst hi0
  rcases (by omega:j=0∨j=1∨j=2) with rfl | rfl | rfl <;> rfl
 ·have hi0:i=0:=by simp at hi;omega
  subst hi0
  exact ⟨rfl,rfl,(hp.quiet (Only.new W _)).mono (by omega) (by omega)⟩
section
theorem tight_any (w:World):Calls Tryz.prog 35 #[] w fun e w'=>e=.returned (.agg #[.int .i64 0,.int .i64 3,.int .i64 0,.int .i64 0,.int .i64 4,.int .i64 8,.int .i64 8,.int .i64 8])∧Only [] w w':=by
 have hr:=heap_alloc_new w (.cells #[.int .i64 0,.int .i64 0,.int .i64 0,.int .i64 0,.int .i64 0,.int .i64 0,.int .i64 0,.int .i64 0] 60)
 obtain ⟨k0,k1,k2,k3,k4,k5,k6,k7⟩:=cfg_cells hr
 have f0:=frozen_of_row _ _ 0 _ _ hr
 have f1:=frozen_of_row _ _ 1 _ _ hr
 have f2:=frozen_of_row _ _ 2 _ _ hr
 have f3:=frozen_of_row _ _ 3 _ _ hr
 have f4:=frozen_of_row _ _ 4 _ _ hr
 have f5:=frozen_of_row _ _ 5 _ _ hr
 have f6:=frozen_of_row _ _ 6 _ _ hr
 have f7:=frozen_of_row _ _ 7 _ _ hr
 have HR:=lh hr
 have HQ:=lh (Only.new w (.cells #[.int .i64 0,.int .i64 0,.int .i64 0,.int .i64 0,.int .i64 0,.int .i64 0,.int .i64 0,.int .i64 0] 60))
 clear hr
 go_enter Tryz.func35,Tryz.ntmps35
 go_wp2_with fail
 first
  | exact bodyPost_ret (v:=.agg #[.int .i64 0,.int .i64 3,.int .i64 0,.int .i64 0,.int .i64 4,.int .i64 8,.int .i64 8,.int .i64 8]) (results_cell_row Tryz.results35 _ _ w.heap.size _ _ _ _ rfl (heap_alloc_new w _) Tryz.underlying60 rfl (by kernel_rfl)) rfl ⟨rfl,Only.new w _⟩
  | skip
end
end Go.Proofs.YtkigikallkpbcaaGreatDoor
