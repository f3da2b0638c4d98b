/- Joined texts: DNew, DSep, DEdges. Conditions: each part names its own. -/
import Derived.Test.YtmdobcffijnaoaaGreatDoorT1
import Derived.Test.YtmdobcffijnaoaaGreatDoorC3
import Derived.Test.YtmdobcffijnaoaaGreatDoorK2
import Derived.Test.YtmdobcffijnaoaaGreatDoorK3
import Derived.Test.YtmdobcffijnaoaaGreatDoorS6
import Derived.Test.YtmdobcffijnaoaaGreatDoorK5
set_option maxRecDepth 100000
set_option maxHeartbeats 16000000
namespace Go.Proofs.YtmdobcffijnaoaaGreatDoor
open Go.RowKit
set_option linter.unusedVariables false
set_option linter.unusedSimpArgs false
theorem pnewD_any (W H V:Int) (w:World) (hn:newB W H V=true):Calls Tryz.prog 29 #[.int .i64 W,.int .i64 H,.int .i64 V] w fun e w'=>∃ g cap,e=.returned (.tuple #[.agg #[.int .i64 W,.int .i64 H,.slice (some ⟨g,0,none⟩) (newF W H V).pix.length cap],.nilIface])∧Own .i64 3 w.heap.size w' (.slice (some ⟨g,0,none⟩) (newF W H V).pix.length cap) (newF W H V).pix∧Only [] w w':=by
 refine hidQ fun Q HPost=>?_
 unfold newB at hn
 rw [Bool.and_eq_true,Bool.and_eq_true] at hn
 obtain ⟨⟨hW,hH⟩,hV⟩:=hn
 have bW:=of_decide_eq_true hW
 have bH:=of_decide_eq_true hH
 have bV:=of_decide_eq_true hV
 have HW:=lh hW
 have HH:=lh hH
 have HV:=lh hV
 clear hW hH hV
 obtain ⟨W',rfl⟩:=Int.eq_ofNat_of_zero_le (by omega:0≤W)
 obtain ⟨H',rfl⟩:=Int.eq_ofNat_of_zero_le (by omega:0≤H)
 have hn:W'*H'≤1024:=Nat.le_trans (Nat.mul_le_mul (by omega:W'≤32) (by omega:H'≤32)) (by decide)
 have hmul:(W':Int)*(H':Int)=((W'*H':Nat):Int):=by rw [Int.natCast_mul]
 have HF:Hid ((newF W' H' V).pix=List.replicate (W'*H') V):=lh (by show List.replicate ((W':Int)*(H':Int)).toNat V=_;rw [hmul];rfl)
 have HFl:Hid ((newF W' H' V).pix.length=W'*H'):=lh (by rw [HF.out,List.length_replicate])
 rw [HFl.out] at HPost
 rw [HF.out] at HPost
 generalize hN:W'*H'=n at *
 clear hN bW bH
 have hin:InK .i64 V:=by simp only [InK];omega
 have Hin:=lh hin
 clear hin bV
 have hmk:=run_make_row' (P:=Tryz.prog) 48 3 (.int .i64 0) 8 EI.ut (by kernel_rfl) rfl .i64 .i64 n (by omega) (by omega)
 go_enter Tryz.func29,Tryz.ntmps29
 go_wp2_with (first | (go_at_call 55;refine (side_any _ _).mono ?_;rintro e w' ⟨rfl,rfl⟩;(first | rw [HW.out] | rw [HH.out])) | (go_at_call 56;refine (sample_any _ _).mono ?_;rintro e w' ⟨rfl,rfl⟩;rw [HV.out]) | fail)
 clear hmk
 have HO:Hid (Own .i64 3 (w.heap.size+1) (((w.alloc (.cells #[.int .i64 0,.int .i64 0,.slice none 0 0] 70)).alloc (.cells (madeCells #[.int .i64 0] n) 3)).alloc (.cells #[.int .i64 W',.int .i64 H',.slice (some ⟨w.heap.size+1,0,none⟩) n n] 70)) (.slice (some ⟨w.heap.size+1,0,none⟩) n n) (List.replicate n 0)):=lh (by
  have h0:=own_made .i64 3 (w.alloc (.cells #[.int .i64 0,.int .i64 0,.slice none 0 0] 70)) n (by simp [maxLen];omega)
  have hz:(w.alloc (.cells #[.int .i64 0,.int .i64 0,.slice none 0 0] 70)).heap.size=w.heap.size+1:=by simp
  rw [hz] at h0
  exact h0.quiet (Only.new _ _))
 have hO:Only [] w (((w.alloc (.cells #[.int .i64 0,.int .i64 0,.slice none 0 0] 70)).alloc (.cells (madeCells #[.int .i64 0] n) 3)).alloc (.cells #[.int .i64 W',.int .i64 H',.slice (some ⟨w.heap.size+1,0,none⟩) n n] 70)):=(((Only.refl _ _).alloc _).alloc _).alloc _
 have HA:Hid ((((w.alloc (.cells #[.int .i64 0,.int .i64 0,.slice none 0 0] 70)).alloc (.cells (madeCells #[.int .i64 0] n) 3)).alloc (.cells #[.int .i64 W',.int .i64 H',.slice (some ⟨w.heap.size+1,0,none⟩) n n] 70)).heap[w.heap.size]?=some (.cells #[.int .i64 0,.int .i64 0,.slice none 0 0] 70 (0,0))):=lh (((Only.new (w.alloc _) _).alloc _).row (heap_alloc_new w _))
 have HB:Hid ((((w.alloc (.cells #[.int .i64 0,.int .i64 0,.slice none 0 0] 70)).alloc (.cells (madeCells #[.int .i64 0] n) 3)).alloc (.cells #[.int .i64 W',.int .i64 H',.slice (some ⟨w.heap.size+1,0,none⟩) n n] 70)).heap[w.heap.size+1+1]?=some (.cells #[.int .i64 W',.int .i64 H',.slice (some ⟨w.heap.size+1,0,none⟩) n n] 70 (0,0))):=lh (heap_alloc_new' (by simp))
 have HO0:=lh hO
 clear hO
 generalize hW3:World.alloc (World.alloc (World.alloc w _) _) _=W3 at *
 clear hW3
 obtain ⟨r0,r1,r2⟩:=frame_cells HB.out
 clear hmul
 go_wp2_with fail
 clear r0 r1 r2
 go_loopw [35,9] (fun i _ wr=>∃ (k:Nat) (ys:List Int),k≤n∧i=.int .i64 k∧Hid (ys.length=n)∧Hid (ys.take k=(List.replicate n V).take k)∧Hid (Own .i64 3 (w.heap.size+1) wr (.slice (some ⟨w.heap.size+1,0,none⟩) n n) ys)∧Hid (Only [w.heap.size+1] W3 wr)) (fun i _ _=>n-(intOf i).toNat)
 case atStart=>exact ⟨0,List.replicate n 0,by omega,rfl,lh (by simp),lh rfl,HO,lh (Only.refl _ _)⟩
 case round =>
  obtain ⟨k,ys,hk,rfl,Hyl,Htk,HOk,HQk⟩:=hrel
  obtain ⟨r0,r1,r2⟩:=frame_cells (HQk.out.rowAt HB.out (by simp))
  by_cases hlt:k<n
  ·have hki:(k:Int)<(n:Int):=by omega
   have hk0:(0:Int)≤(k:Int):=by omega
   have cx:=HOk.out.cellS Hyl.out.symm (i:=k) (by rw [Hyl.out];exact hlt)
   have fx:=HOk.out.frzS Hyl.out.symm k
   generalize ys.getD k 0=y at *
   obtain ⟨hs1,hs2⟩:=HOk.out.storeS Hyl.out.symm Hin.out k
   have HS1:=lh hs1
   have HS2:=lh hs2
   clear hs1 hs2
   go_wp2_with fail
   refine ⟨⟨k+1,ys.set k V,by omega,by go_num,lh (by rw [List.length_set];exact Hyl.out),lh (fill_step Htk.out (by rw [Hyl.out];exact hlt) (by rw [Hyl.out,List.length_replicate]) ?_),HS1,lh (HQk.out.trans HS2.out (fun _ h _=>h) (fun _ h _=>h))⟩,by simp [intOf];omega⟩
   rw [List.getD_eq_getElem?_getD,List.getElem?_replicate,if_pos hlt];rfl
  ·obtain rfl:k=n:=by omega
   have hx:¬ (k:Int)<(k:Int):=by omega
   have hAr:=HQk.out.rowAt HA.out (by simp)
   obtain ⟨e0,e1,e2⟩:=frame_cells hAr
   have g0:wr.frozen? ⟨w.heap.size,0,none⟩=false:=frozen_of_row _ _ _ _ _ hAr
   have g1:wr.frozen? ⟨w.heap.size,1,none⟩=false:=frozen_of_row _ _ _ _ _ hAr
   have g2:wr.frozen? ⟨w.heap.size,2,none⟩=false:=frozen_of_row _ _ _ _ _ hAr
   clear hAr
   have hfin:=fill_end (R:=List.replicate k V) (by rw [Hyl.out];exact Htk.out) (by rw [Hyl.out,List.length_replicate])
   subst hfin
   go_wp2_with fail
   have hset:Only [w.heap.size] wr (((wr.setCell ⟨w.heap.size,0,none⟩ (.int .i64 W')).setCell ⟨w.heap.size,1,none⟩ (.int .i64 H')).setCell ⟨w.heap.size,2,none⟩ (.slice (some ⟨w.heap.size+1,0,none⟩) k k)):=(((Only.refl _ _).setCell (by simp) _).setCell (by simp) _).setCell (by simp) _
   have hA:Only [] w wr:=HO0.out.trans HQk.out (by simp) (fun g hg hlt=>absurd (mSg.1 hg) (by omega))
   refine bodyPost_ret (v:=.tuple #[.agg #[.int .i64 W',.int .i64 H',.slice (some ⟨w.heap.size+1,0,none⟩) k k],.nilIface]) (by simp [results,Tryz.results29,go_sem,e0,e1,e2,r0,r1,r2,World.cell?_setCell_other]) rfl (HPost.out _ _ ⟨w.heap.size+1,k,rfl,?_,hA.trans hset (by simp) (fun g hg hlt=>absurd (mSg.1 hg) (by omega))⟩)
   exact (HOk.out.only hset (fun g hg=>by rw [mSg] at hg;subst hg;simp [Value.ownBlock])).lower (by omega)
end Go.Proofs.YtmdobcffijnaoaaGreatDoor
/- Two own rows that lie apart. Conditions: none. -/
namespace Go.Proofs.YtmdobcffijnaoaaGreatDoor
open Go.RowKit
/-- two rows lie apart -/
def SepD (a b:Value):Prop:=∀ g,a.ownBlock=some g→b.ownBlock≠some g
theorem SepD.symm {a b:Value} (h:SepD a b):SepD b a:=fun g hg e=>h g e hg
theorem SepD.nil (b:Value):SepD (.slice none 0 0) b:=fun g hg=>by simp [Value.ownBlock] at hg
theorem Acc.sepD {a b c:Value} {w w':World} (h:Acc a w b w') (s:SepD a c) (hc:∀ g,c.ownBlock=some g→g<w.heap.size):SepD b c:=by
 intro g hg e
 rcases h.at_ with e' | e'
 ·exact s g (e' ▸ hg) e
 ·have:=e' g hg;have:=hc g e;omega
theorem Own.accD {k:IntKind} {e:TypeId} {base:Nat} {w w':World} {v a b:Value} {l:List Int} (h:Own k e base w v l) (x:Acc a w b w') (s:SepD a v):Own k e base w' v l :=
 h.only x.only (fun g hg=>s g (by simpa using hg))
end Go.Proofs.YtmdobcffijnaoaaGreatDoor
namespace Go.Proofs.YtmdobcffijnaoaaGreatDoor
open Go.RowKit
set_option linter.unusedVariables false
set_option linter.unusedSimpArgs false
section
theorem qDEdges1 {p:Prop} (h:p:=by
 go_enter Tryz.func188,Tryz.ntmps188
 go_wp2_with fail
 go_ret
 exact ⟨ret_int HR.out.symm,rfl⟩):p:=h
theorem edges1_any {B lo hi:Nat} {w:World} {f:FrameD} (h:BoxF B lo hi w f) (x y:Int) (hx:x<f.W) (hy:y<f.H) :
  Calls Tryz.prog 188 #[.int .i64 x,.int .i64 y,.pointer (some ⟨B,0,none⟩)] w fun e w'=>e=.returned (.int .i64 (sampleD f x y))∧w=w':=by
 obtain ⟨hok,a,cap,hrow,hI⟩:=h
 obtain ⟨c0,c1,c2⟩:=frame_cells hrow
 by_cases hx0:x<0
 ·have HR:Hid (sampleD f x y=128):=lh (by unfold sampleD;rw [if_pos (.inl hx0)])
  clear hrow hI hok
  exact qDEdges1
 by_cases hy0:y<0
 ·have HR:Hid (sampleD f x y=128):=lh (by unfold sampleD;rw [if_pos (.inr hy0)])
  clear hrow hI hok
  exact qDEdges1
 have HR:Hid (sampleD f x y=f.pix.getD (y*f.W+x).toNat 0):=lh (by unfold sampleD;rw [if_neg (by omega)])
 obtain ⟨p1,p2⟩:=place_in (W:=f.W) (H:=f.H) (x:=x) (y:=0) (j:=y) (n:=1) (by have:=hok.w0;omega) (by omega) (by omega) (by omega) (by omega) (by omega) (by omega)
 rw [Int.zero_add] at p1 p2
 have h3:f.W*f.H≤32*32:=Int.mul_le_mul hok.w1 hok.h1 (by have:=hok.h0;omega) (by omega)
 have hlen:=hok.len
 obtain ⟨b,off,cap',hv,-,-,hc⟩:=hI.at (i:=(y*f.W+x).toNat) (by omega)
 injection hv with e1 e2 e3
 subst e1;subst e3
 generalize f.pix.getD (y*f.W+x).toNat 0=v at *
 generalize f.pix.length=N at *
 generalize f.W=W at *
 generalize f.H=H at *
 obtain ⟨M,hMe⟩:∃ M,M=y*W:=⟨_,rfl⟩
 have hyW:0≤y*W:=Int.mul_nonneg (by omega) (by omega)
 have hM:wrap64 (y*W)=M:=by rw [← hMe] at p1 p2 hyW ⊢;unfold wrap64;omega
 rw [← hMe] at p1 p2 hc hyW
 have t0:0≤M+x:=p1
 have t1:M+x<(N:Int):=by omega
 have hS:wrap64 (M+x)=M+x:=by unfold wrap64;omega
 clear hMe hrow hI hok p1 p2 h3 hlen hyW
 exact qDEdges1
def rowE (f:FrameD) (x y:Int) (k:Nat):List Int:=(List.range k).map fun i:Nat=>sampleD f (x+(i:Int)) (y-1)
def colE (f:FrameD) (x y:Int) (k:Nat):List Int:=(List.range k).map fun i:Nat=>sampleD f (x-1) (y+(i:Int))
theorem rowE_more (f:FrameD) (x y:Int) (k:Nat):rowE f x y (k+1)=rowE f x y k ++ [sampleD f (x+(k:Int)) (y-1)]:=by
 unfold rowE;rw [List.range_succ,List.map_append];simp
theorem colE_more (f:FrameD) (x y:Int) (k:Nat):colE f x y (k+1)=colE f x y k ++ [sampleD f (x-1) (y+(k:Int))]:=by
 unfold colE;rw [List.range_succ,List.map_append];simp
theorem rowE_len (f:FrameD) (x y:Int) (k:Nat):(rowE f x y k).length=k:=by simp [rowE]
theorem colE_len (f:FrameD) (x y:Int) (k:Nat):(colE f x y k).length=k:=by simp [colE]
theorem qDEdges0 {p:Prop} (h:p:=by
 have hk0:(0:Int)≤(k:Int):=by omega
 have hm1:=rowE_more f x y k
 have hm2:=colE_more f x y k
 have hc1:=HB.out wr (HQ3.out.q HQk.out) (x+(k:Int)) (y-1) (by omega) (by omega)
 have hc2:=fun wt (o:Only [] w3 wt)=>HB.out wt (HQ3.out.q o) (x-1) (y+(k:Int)) (by omega) (by omega)
 have hi1:=Hin.out (x+(k:Int)) (y-1)
 have hi2:=Hin.out (x-1) (y+(k:Int))
 have HC1:=lh hc1
 have HC2:=lh hc2
 clear hc1 hc2
 generalize sampleD f (x+(k:Int)) (y-1)=p1 at *
 generalize sampleD f (x-1) (y+(k:Int))=p2 at *
 have hk1:∀ z∈[p1],InK .i64 z:=by simp only [mSg,forall_eq,InK];omega
 have hk2:∀ z∈[p2],InK .i64 z:=by simp only [mSg,forall_eq,InK];omega
 have hs1:=lh (fun (W:World)=>ints_newG (k:=.i64) (w:=W) (t:=3) (l:=[p1]) rfl (by simp [maxLen]) hk1 1 rfl rfl)
 have hs2:=lh (fun (W:World)=>ints_newG (k:=.i64) (w:=W) (t:=3) (l:=[p2]) rfl (by simp [maxLen]) hk2 1 rfl rfl)
 have hby1:=lh (show ((rowE f x y k).length+[p1].length)*8≤140737488355328 by rw [hlt1];simp;omega)
 have hby2:=lh (show ((colE f x y k).length+[p2].length)*8≤140737488355328 by rw [hlt2];simp;omega)
 have Hl1:Hid ((rowE f x y k ++ [p1]).length=k+1):=lh (by rw [List.length_append,hlt1];rfl)
 have Hl2:Hid ((colE f x y k ++ [p2]).length=k+1):=lh (by rw [List.length_append,hlt2];rfl)
 have Hm1:=lh hm1
 have Hm2:=lh hm2
 have hba1:=lh (fun (o:Obj)=>(show w3.heap.size≤(wr.alloc o).heap.size by have:=HQk.out.size;simp;omega))
 clear hm1 hm2 hlt1 hlt2 hi1 hi2 hk1 hk2
 go_wp2_with fail
 go_at_call 188
 refine HC1.out.mono ?_
 rintro e w' ⟨rfl,rfl⟩
 go_wp2_with (first
   | (at_builtin;refine wpList_append_ints rfl (.tmp 39) (.tmp 47) _ rfl EI (HOt.out.quiet (Only.new _ _)) rfl (hs1.out _) rfl hby1.out (hba1.out _) (fun v1 w4 hown1 ho1=>?_);obtain ⟨x1,x1cap,hx1,_⟩:=hown1.ints.open;subst hx1;rw [Hl1.out] at hown1 ho1 ⊢;have HO1:=lh hown1;have HA1:=lh ho1;clear hown1 ho1)
   | fail)
 have hq4:=((HQk.out).q (Only.new wr (.cells #[.int .i64 p1] 3))).acc HA1.out HFt.out
 have HQ4:=lh hq4
 have HOl4:=lh ((HOl.out.quiet (Only.new wr (.cells #[.int .i64 p1] 3))).accD HA1.out HSp.out)
 have HSp4:=lh (HA1.out.sepD HSp.out (fun g hg=>((HOl.out.quiet (Only.new wr (.cells #[.int .i64 p1] 3))).at g hg).2))
 have HFt4:=lh (HA1.out.from_ HFt.out (hba1.out _))
 have hba2:=lh (fun (o:Obj)=>(show w3.heap.size≤(w4.alloc o).heap.size by have:=hq4.size;simp;omega))
 clear hq4
 go_wp2_with fail
 go_at_call 188
 refine (HC2.out _ HQ4.out).mono ?_
 rintro e w' ⟨rfl,rfl⟩
 go_wp2_with (first
   | (at_builtin;refine wpList_append_ints rfl (.tmp 49) (.tmp 57) _ rfl EI (HOl4.out.quiet (Only.new _ _)) rfl (hs2.out _) rfl hby2.out (hba2.out _) (fun v1 w5 hown1 ho1=>?_);obtain ⟨x1,x1cap,hx1,_⟩:=hown1.ints.open;subst hx1;rw [Hl2.out] at hown1 ho1 ⊢;have HO2:=lh hown1;have HA2:=lh ho1;clear hown1 ho1)
   | fail)
 refine ⟨⟨k+1,by omega,by go_num,lh ?_,HFt4,lh ?_,lh (HA2.out.from_ HFl.out (hba2.out _)),lh ?_,lh ((HQ4.out.q (Only.new _ _)).acc HA2.out HFl.out)⟩,by simp [intOf];omega⟩
 ·rw [Hm1.out];exact (HO1.out.quiet (Only.new _ _)).accD HA2.out HSp4.out.symm
 ·rw [Hm2.out];exact HO2.out
 ·exact (HA2.out.sepD HSp4.out.symm (fun g hg=>((HO1.out.quiet (Only.new _ _)).at g hg).2)).symm):p:=h
theorem edges_any {lo hi:Nat} {pv:Value} {w:World} {f:FrameD} (hok:FrOk f) (h:Ints .i64 lo hi w pv f.pix) (x y:Int) (n:Nat) (hn:n=4∨n=8) (hx:0≤x) (hxn:x+n≤f.W) (hy:0≤y) (hyn:y+n≤f.H) :
  Calls Tryz.prog 148 #[.agg #[.int .i64 f.W,.int .i64 f.H,pv],.int .i64 x,.int .i64 y,.int .i64 n] w fun e w'=>∃ v1 v2,e=.returned (.tuple #[v1,v2,.int .i64 (sampleD f (x-1) (y-1))])∧Own .i64 3 w.heap.size w' v1 (topD f x y n)∧Own .i64 3 w.heap.size w' v2 (leftD f x y n)∧Only [] w w':=by
 refine hidQ fun Q HPost=>?_
 obtain ⟨a,cap,rfl,-⟩:=h.open
 have HT:Hid (topD f x y n=rowE f x y n):=lh rfl
 have HL:Hid (leftD f x y n=colE f x y n):=lh rfl
 have Hin:=lh (fun hx hy=>sampleD_in hok.sam hx hy)
 have hq1:=Only.new w (.cells #[.int .i64 f.W,.int .i64 f.H,.slice a f.pix.length cap] 70)
 have HR1:Hid ((w.alloc (.cells #[.int .i64 f.W,.int .i64 f.H,.slice a f.pix.length cap] 70)).heap[w.heap.size]?=some (.cells #[.int .i64 f.W,.int .i64 f.H,.slice a f.pix.length cap] 70 (0,0))):=lh (heap_alloc_new w _)
 have HI:=lh (h.quiet hq1)
 have HQ1:=lh hq1
 have hM:=pmay_any f.W f.H (h.quiet hq1)
 rw [show mayF ⟨f.W,f.H,f.pix⟩=true from mayF_iff.2 hok] at hM
 have HM:=lh hM
 have HP:=lh (fun (W:World)=>pin_any f.W f.H x y n (.slice a f.pix.length cap) W ⟨hok.w0,hok.w1⟩ ⟨hok.h0,hok.h1⟩ (by omega))
 rw [show liesD f.W f.H x y n=true from by unfold liesD;rw [decide_eq_true_iff];omega] at HP
 have HB:Hid (∀ wt,Only [] (w.alloc (.cells #[.int .i64 f.W,.int .i64 f.H,.slice a f.pix.length cap] 70)) wt→∀ x y,x<f.W→y<f.H→Calls Tryz.prog 188 #[.int .i64 x,.int .i64 y,.pointer (some ⟨w.heap.size,0,none⟩)] wt fun e w'=>e=.returned (.int .i64 (sampleD f x y))∧wt=w') :=
  lh (fun wt o x y hx hy=>edges1_any ⟨hok,a,cap,o.row HR1.out,HI.out.quiet o⟩ x y hx hy)
 have hmf:∀ (fn:Fn) (first cap:Array Value) (W:World),(Instr.makeFunc fn first cap).run Tryz.prog W=.ok (.func fn first cap) W:=fun _ _ _ _=>rfl
 have hW:=hok.w1
 have hH:=hok.h1
 clear h hq1 hM
 rcases hn with rfl | rfl
 ·rw [show (((4:Nat)):Int)=4 from rfl] at *
  go_enter Tryz.func148,Tryz.ntmps148
  obtain ⟨r0,r1,r2⟩:=frame_cells HR1.out
  go_wp2_with fail
  go_at_call 93
  refine HM.out.mono ?_
  rintro e w2 ⟨rfl,hq2⟩
  clear r0 r1 r2
  obtain ⟨r0,r1,r2⟩:=frame_cells (hq2.row HR1.out)
  have HQ2:=lh hq2
  clear hq2
  go_wp2_with fail
  go_at_call 187
  refine (HP.out w2).mono ?_
  rintro e w3 ⟨rfl,hq3⟩
  have HQ3:=lh (HQ2.out.q hq3)
  have Hz3:=lh (show w.heap.size+1≤w3.heap.size by have:=(HQ2.out.q hq3).size;simp at this;omega)
  clear hq3 r0 r1 r2 HQ2
  go_wp2_with fail
  go_loopw [36,12,13,14] (fun i t l _ wr=>∃ (k:Nat),k≤4∧i=.int .i64 k∧Hid (Own .i64 3 w3.heap.size wr t (rowE f x y k))∧Hid (From w3.heap.size t)∧Hid (Own .i64 3 w3.heap.size wr l (colE f x y k))∧Hid (From w3.heap.size l)∧Hid (SepD t l)∧Hid (Only [] w3 wr)) (fun i _ _ _ _=>4-(intOf i).toNat)
  case atStart=>exact ⟨0,by omega,rfl,lh (Own.nil _ _ _ _),lh (From.nil _),lh (Own.nil _ _ _ _),lh (From.nil _),lh (SepD.nil _),lh (Only.refl _ _)⟩
  case round =>
   obtain ⟨k,hk,rfl,HOt,HFt,HOl,HFl,HSp,HQk⟩:=hrel
   have hlt1:=rowE_len f x y k
   have hlt2:=colE_len f x y k
   obtain ⟨ta,tcap,rfl,-⟩:=HOt.out.ints.open
   obtain ⟨la,lcap,rfl,-⟩:=HOl.out.ints.open
   rw [hlt1] at HOt HFt HSp ⊢
   rw [hlt2] at HOl HFl HSp ⊢
   by_cases hlt:k<4
   ·have hki:(k:Int)<4:=by omega
    exact qDEdges0
   ·obtain rfl:k=4:=by omega
    have hc:=HB.out wr (HQ3.out.q HQk.out) (x-1) (y-1) (by omega) (by omega)
    have HC:=lh hc
    clear hc hlt1 hlt2
    generalize sampleD f (x-1) (y-1)=p0 at *
    go_wp2_with fail
    go_at_call 188
    refine HC.out.mono ?_
    rintro e w' ⟨rfl,rfl⟩
    go_wp2_with fail
    refine bodyPost_ret (v:=.tuple #[.slice ta 4 tcap,.slice la 4 lcap,.int .i64 p0]) (by simp [results,Tryz.results148,go_sem]) rfl (HPost.out _ _ ⟨_,_,rfl,?_,?_,(HQ1.out.q HQ3.out).q HQk.out⟩)
    ·rw [HT.out];exact HOt.out.lower (by have:=Hz3.out;omega)
    ·rw [HL.out];exact HOl.out.lower (by have:=Hz3.out;omega)
 ·rw [show (((8:Nat)):Int)=8 from rfl] at *
  go_enter Tryz.func148,Tryz.ntmps148
  obtain ⟨r0,r1,r2⟩:=frame_cells HR1.out
  go_wp2_with fail
  go_at_call 93
  refine HM.out.mono ?_
  rintro e w2 ⟨rfl,hq2⟩
  clear r0 r1 r2
  obtain ⟨r0,r1,r2⟩:=frame_cells (hq2.row HR1.out)
  have HQ2:=lh hq2
  clear hq2
  go_wp2_with fail
  go_at_call 187
  refine (HP.out w2).mono ?_
  rintro e w3 ⟨rfl,hq3⟩
  have HQ3:=lh (HQ2.out.q hq3)
  have Hz3:=lh (show w.heap.size+1≤w3.heap.size by have:=(HQ2.out.q hq3).size;simp at this;omega)
  clear hq3 r0 r1 r2 HQ2
  go_wp2_with fail
  go_loopw [36,12,13,14] (fun i t l _ wr=>∃ (k:Nat),k≤8∧i=.int .i64 k∧Hid (Own .i64 3 w3.heap.size wr t (rowE f x y k))∧Hid (From w3.heap.size t)∧Hid (Own .i64 3 w3.heap.size wr l (colE f x y k))∧Hid (From w3.heap.size l)∧Hid (SepD t l)∧Hid (Only [] w3 wr)) (fun i _ _ _ _=>8-(intOf i).toNat)
  case atStart=>exact ⟨0,by omega,rfl,lh (Own.nil _ _ _ _),lh (From.nil _),lh (Own.nil _ _ _ _),lh (From.nil _),lh (SepD.nil _),lh (Only.refl _ _)⟩
  case round =>
   obtain ⟨k,hk,rfl,HOt,HFt,HOl,HFl,HSp,HQk⟩:=hrel
   have hlt1:=rowE_len f x y k
   have hlt2:=colE_len f x y k
   obtain ⟨ta,tcap,rfl,-⟩:=HOt.out.ints.open
   obtain ⟨la,lcap,rfl,-⟩:=HOl.out.ints.open
   rw [hlt1] at HOt HFt HSp ⊢
   rw [hlt2] at HOl HFl HSp ⊢
   by_cases hlt:k<8
   ·have hki:(k:Int)<8:=by omega
    exact qDEdges0
   ·obtain rfl:k=8:=by omega
    have hc:=HB.out wr (HQ3.out.q HQk.out) (x-1) (y-1) (by omega) (by omega)
    have HC:=lh hc
    clear hc hlt1 hlt2
    generalize sampleD f (x-1) (y-1)=p0 at *
    go_wp2_with fail
    go_at_call 188
    refine HC.out.mono ?_
    rintro e w' ⟨rfl,rfl⟩
    go_wp2_with fail
    refine bodyPost_ret (v:=.tuple #[.slice ta 8 tcap,.slice la 8 lcap,.int .i64 p0]) (by simp [results,Tryz.results148,go_sem]) rfl (HPost.out _ _ ⟨_,_,rfl,?_,?_,(HQ1.out.q HQ3.out).q HQk.out⟩)
    ·rw [HT.out];exact HOt.out.lower (by have:=Hz3.out;omega)
    ·rw [HL.out];exact HOl.out.lower (by have:=Hz3.out;omega)
end
end Go.Proofs.YtmdobcffijnaoaaGreatDoor
