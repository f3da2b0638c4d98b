/- Joined texts: DREd, DRPd, DRPp, DRPt. Conditions: each part names its own. -/
import Derived.Test.YtmgbbgffkakcaaaGreatDoorT1
import Derived.Test.YtmgbbgffkakcaaaGreatDoorA1
import Derived.Test.YtmgbbgffkakcaaaGreatDoorS5
import Derived.Test.YtmgbbgffkakcaaaGreatDoorA2
import Derived.Test.YtmgbbgffkakcaaaGreatDoorK1
set_option maxRecDepth 100000
set_option maxHeartbeats 16000000
namespace Go.Proofs.YtmgbbgffkakcaaaGreatDoor
open Go.RowKit
set_option linter.unusedVariables false
set_option linter.unusedSimpArgs false
section
theorem qDREd1 {p:Prop} (h:p:=by
 go_enter Tryz.func156,Tryz.ntmps156
 go_wp2_with fail
 go_ret
 exact ⟨ret_int HR.out.symm,HQ.out⟩):p:=h
theorem ksample_any {lo hi:Nat} {pv:Value} {w:World} {f:FrameD} (hok:FrOk f) (h:Ints .i64 lo hi w pv f.pix) (x y:Int) (hx:x<f.W) (hy:y<f.H) :
  Calls Tryz.prog 156 #[.agg #[.int .i64 f.W,.int .i64 f.H,pv],.int .i64 x,.int .i64 y] w fun e w'=>e=.returned (.int .i64 (sampleD f x y))∧Only [] w w':=by
 obtain ⟨a,cap,rfl,-⟩:=h.open
 have hq:=Only.new w (.cells #[.int .i64 f.W,.int .i64 f.H,.slice a f.pix.length cap] 24)
 have HQ:=lh hq
 by_cases hx0:x<0
 ·have HR:Hid (sampleD f x y=128):=lh (by unfold sampleD;rw [if_pos (.inl hx0)])
  clear h hok hq
  exact qDREd1
 by_cases hy0:y<0
 ·have HR:Hid (sampleD f x y=128):=lh (by unfold sampleD;rw [if_pos (.inr hy0)])
  clear h hok hq
  exact qDREd1
 have h1:y*f.W≤(f.H-1)*f.W:=Int.mul_le_mul_of_nonneg_right (by omega) (by have:=hok.w0;omega)
 have h2:0≤y*f.W:=Int.mul_nonneg (by omega) (by have:=hok.w0;omega)
 have hlen:=hok.len
 rw [Int.sub_mul,Int.one_mul,Int.mul_comm f.H f.W] at h1
 have h3:f.W*f.H≤32*32:=Int.mul_le_mul hok.w1 hok.h1 (by have:=hok.h0;omega) (by omega)
 have HR:Hid (sampleD f x y=f.pix.getD (y*f.W+x).toNat 0):=lh (by unfold sampleD;rw [if_neg (by omega)])
 obtain ⟨b,off,cap',hv,-,-,hc⟩:=(h.quiet hq).at (i:=(y*f.W+x).toNat) (by omega)
 injection hv with e1 e2 e3
 subst e1;subst e3
 generalize f.pix.getD (y*f.W+x).toNat 0=v at *
 obtain ⟨M,hM⟩:∃ M,M=y*f.W:=⟨_,rfl⟩
 rw [← hM] at h1 h2 hc
 have n1:IntKind.i64.wrap (y*f.W)=M:=by rw [← hM,IntKind.wrap_i64];omega
 have n2:IntKind.i64.wrap (M+x)=M+x:=by rw [IntKind.wrap_i64];omega
 have t0:0≤M+x:=by omega
 have t1:M+x<(f.pix.length:Int):=by omega
 clear h hok hq e2 hM h1 h2 h3 hlen
 exact qDREd1
theorem qDREd0 {p:Prop} (h:p:=by
 have hk0:(0:Int)≤(k:Int):=by omega
 have HC1:=lh (HB.out wr (HQ1.out.q (HQ3.out.q HQk.out)) (x+(k:Int)) (y-1) (by omega) (by omega))
 have HC2:=lh (fun wt (o:Only [] w3 wt)=>HB.out wt (HQ1.out.q (HQ3.out.q o)) (x-1) (y+(k:Int)) (by omega) (by omega))
 have hi1:=Hin.out (x+(k:Int)) (y-1)
 have hi2:=Hin.out (x-1) (y+(k:Int))
 have Hm1:=lh (rowE_more f x y k)
 have Hm2:=lh (colE_more f x y k)
 generalize sampleD f (x+(k:Int)) (y-1)=p1 at *
 generalize sampleD f (x-1) (y+(k:Int))=p2 at *
 have hk1:∀ z∈[p1],InK .i64 z:=by simp only [mSg,forall_eq,InK];omega
 have hk2:∀ z∈[p2],InK .i64 z:=by simp only [mSg,forall_eq,InK];omega
 have hs1:=lh (fun (W:World)=>ints_newG (k:=.i64) (w:=W) (t:=3) (l:=[p1]) rfl (by simp [maxLen]) hk1 1 rfl rfl)
 have hs2:=lh (fun (W:World)=>ints_newG (k:=.i64) (w:=W) (t:=3) (l:=[p2]) rfl (by simp [maxLen]) hk2 1 rfl rfl)
 have hby1:=lh (show ((rowE f x y k).length+[p1].length)*8≤140737488355328 by rw [hlt1];simp;omega)
 have hby2:=lh (show ((colE f x y k).length+[p2].length)*8≤140737488355328 by rw [hlt2];simp;omega)
 have Hl1:Hid ((rowE f x y k ++ [p1]).length=k+1):=lh (by rw [List.length_append,hlt1];rfl)
 have Hl2:Hid ((colE f x y k ++ [p2]).length=k+1):=lh (by rw [List.length_append,hlt2];rfl)
 have nb1:IntKind.i64.wrap (x+(k:Int))=x+(k:Int):=by rw [IntKind.wrap_i64];omega
 have nb2:IntKind.i64.wrap (y+(k:Int))=y+(k:Int):=by rw [IntKind.wrap_i64];omega
 clear hlt1 hlt2 hi1 hi2 hk1 hk2
 go_wp2_with fail
 go_at_call 156
 refine HC1.out.mono ?_
 rintro e ws ⟨rfl,hqs⟩
 have HOts:=lh (HOt.out.quiet hqs)
 have HOls:=lh (HOl.out.quiet hqs)
 have HQs:=lh (HQk.out.q hqs)
 have hba1:=lh (fun (o:Obj)=>(show w3.heap.size≤(ws.alloc o).heap.size by have:=(HQk.out.q hqs).size;simp;omega))
 clear hqs r0 r1 r2
 go_wp2_with (first
   | (at_builtin;refine wpList_append_ints rfl (.tmp 38) (.tmp 46) _ rfl EI (HOts.out.quiet (Only.new _ _)) rfl (hs1.out _) rfl hby1.out (hba1.out _) (fun v1 w4 hown1 ho1=>?_);obtain ⟨x1,x1cap,hx1,_⟩:=hown1.ints.open;subst hx1;rw [Hl1.out] at hown1 ho1 ⊢;have HO1:=lh hown1;have HA1:=lh ho1;have hq4r:=(HQ3.out.q ((HQs.out.q (Only.new ws (.cells #[.int .i64 p1] 3))).acc ho1 HFt.out)).row HR1.out;obtain ⟨r0,r1,r2⟩:=frame_cells hq4r;clear hown1 ho1 hq4r)
   | fail)
 have hn4:=Only.new ws (.cells #[.int .i64 p1] 3)
 have hq4:=(HQs.out.q hn4).acc HA1.out HFt.out
 have HQ4:=lh hq4
 have HOl4:=lh ((HOls.out.quiet hn4).accD HA1.out HSp.out)
 have HSp4:=lh (HA1.out.sepD HSp.out (fun g hg=>((HOls.out.quiet hn4).at g hg).2))
 have HFt4:=lh (HA1.out.from_ HFt.out (hba1.out _))
 clear hq4 hn4
 go_at_call 156
 refine (HC2.out _ HQ4.out).mono ?_
 rintro e wt ⟨rfl,hqt⟩
 have HO1t:=lh (HO1.out.quiet hqt)
 have HOlt:=lh (HOl4.out.quiet hqt)
 have HQt:=lh (HQ4.out.q hqt)
 have hba2:=lh (fun (o:Obj)=>(show w3.heap.size≤(wt.alloc o).heap.size by have:=(HQ4.out.q hqt).size;simp;omega))
 clear hqt r0 r1 r2
 go_wp2_with (first
   | (at_builtin;refine wpList_append_ints rfl (.tmp 48) (.tmp 56) _ rfl EI (HOlt.out.quiet (Only.new _ _)) rfl (hs2.out _) rfl hby2.out (hba2.out _) (fun v1 w5 hown1 ho1=>?_);obtain ⟨x1,x1cap,hx1,_⟩:=hown1.ints.open;subst hx1;rw [Hl2.out] at hown1 ho1 ⊢;have HO2:=lh hown1;have HA2:=lh ho1;clear hown1 ho1)
   | fail)
 refine ⟨⟨k+1,by omega,by go_num,lh ?_,HFt4,lh ?_,lh (HA2.out.from_ HFl.out (hba2.out _)),lh ?_,lh ((HQt.out.q (Only.new _ _)).acc HA2.out HFl.out)⟩,by simp [intOf];omega⟩
 ·rw [Hm1.out];exact (HO1t.out.quiet (Only.new _ _)).accD HA2.out HSp4.out.symm
 ·rw [Hm2.out];exact HO2.out
 ·exact (HA2.out.sepD HSp4.out.symm (fun g hg=>((HO1t.out.quiet (Only.new _ _)).at g hg).2)).symm):p:=h
theorem kedges_any {lo hi:Nat} {pv:Value} {w:World} {f:FrameD} (hok:FrOk f) (h:Ints .i64 lo hi w pv f.pix) (x y:Int) (n:Nat) (hn:n=4∨n=8) (hx:0≤x) (hxn:x+n≤f.W) (hy:0≤y) (hyn:y+n≤f.H):Calls Tryz.prog 106 #[.agg #[.int .i64 f.W,.int .i64 f.H,pv],.int .i64 x,.int .i64 y,.int .i64 n] w fun e w'=>(∃ v1 v2,e=.returned (.tuple #[v1,v2,.int .i64 (sampleD f (x-1) (y-1))])∧Own .i64 3 w.heap.size w' v1 (topD f x y n)∧Own .i64 3 w.heap.size w' v2 (leftD f x y n)∧Only [] w w'):=by
 refine hidQ fun Q HPost=>?_
 obtain ⟨a,cap,rfl,-⟩:=h.open
 have HT:Hid (topD f x y n=rowE f x y n):=lh rfl
 have HL:Hid (leftD f x y n=colE f x y n):=lh rfl
 have Hin:=lh (fun hx hy=>sampleD_in hok.sam hx hy)
 have hq1:=Only.new w (.cells #[.int .i64 f.W,.int .i64 f.H,.slice a f.pix.length cap] 24)
 have HR1:Hid ((w.alloc (.cells #[.int .i64 f.W,.int .i64 f.H,.slice a f.pix.length cap] 24)).heap[w.heap.size]?=some (.cells #[.int .i64 f.W,.int .i64 f.H,.slice a f.pix.length cap] 24 (0,0))):=lh (heap_alloc_new w _)
 have HQ1:=lh hq1
 have hM:=kmay_any f.W f.H (h.quiet hq1)
 rw [show mayF ⟨f.W,f.H,f.pix⟩=true from mayF_iff.2 hok] at hM
 have HM:=lh hM
 have HP:=lh (fun (W:World)=>klies_any f.W f.H x y n (.slice a f.pix.length cap) W ⟨hok.w0,hok.w1⟩ ⟨hok.h0,hok.h1⟩ (by omega))
 rw [show liesD f.W f.H x y n=true from by unfold liesD;rw [decide_eq_true_iff];omega] at HP
 have HB:=lh (fun (W:World) (o:Only [] w W) (px py:Int) (h1:px<f.W) (h2:py<f.H)=>ksample_any hok (h.quiet o) px py h1 h2)
 have Hz1:Hid ((w.alloc (.cells #[.int .i64 f.W,.int .i64 f.H,.slice a f.pix.length cap] 24)).heap.size=w.heap.size+1):=lh (by simp)
 have hW:=hok.w1
 have hH:=hok.h1
 clear h hq1 hM hok
 rcases hn with rfl | rfl
 ·rw [show (((4:Nat)):Int)=4 from rfl] at *
  go_enter Tryz.func106,Tryz.ntmps106
  go_wp2_with fail
  generalize hW1:World.alloc w _=W1 at *
  clear hW1
  go_at_call 66
  refine HM.out.mono ?_
  rintro e w2 ⟨rfl,hq2⟩
  obtain ⟨r0,r1,r2⟩:=frame_cells (hq2.row HR1.out)
  have HQ2:=lh hq2
  clear hq2
  go_wp2_with fail
  go_at_call 124
  refine (HP.out w2).mono ?_
  rintro e w3 ⟨rfl,hq3⟩
  have HQ3:=lh (HQ2.out.q hq3)
  have Hz3:=lh (show w.heap.size+1≤w3.heap.size by have:=(HQ2.out.q hq3).size;have:=Hz1.out;omega)
  clear hq3 r0 r1 r2 HQ2
  go_wp2_with fail
  go_loopw [13,11,12] (fun i t l wr=>∃ (k:Nat),k≤4∧i=.int .i64 k∧Hid (Own .i64 3 w3.heap.size wr t (rowE f x y k))∧Hid (From w3.heap.size t)∧Hid (Own .i64 3 w3.heap.size wr l (colE f x y k))∧Hid (From w3.heap.size l)∧Hid (SepD t l)∧Hid (Only [] w3 wr)) (fun i _ _ _=>4-(intOf i).toNat)
  case atStart=>exact ⟨0,by omega,rfl,lh (Own.nil _ _ _ _),lh (From.nil _),lh (Own.nil _ _ _ _),lh (From.nil _),lh (SepD.nil _),lh (Only.refl _ _)⟩
  case round =>
   obtain ⟨k,hk,rfl,HOt,HFt,HOl,HFl,HSp,HQk⟩:=hrel
   have hlt1:=rowE_len f x y k
   have hlt2:=colE_len f x y k
   obtain ⟨ta,tcap,rfl,-⟩:=HOt.out.ints.open
   obtain ⟨la,lcap,rfl,-⟩:=HOl.out.ints.open
   rw [hlt1] at HOt HFt HSp ⊢
   rw [hlt2] at HOl HFl HSp ⊢
   have HRk:=lh ((HQ3.out.q HQk.out).row HR1.out)
   obtain ⟨r0,r1,r2⟩:=frame_cells HRk.out
   by_cases hlt:k<4
   ·have hki:(k:Int)<4:=by omega
    exact qDREd0
   ·obtain rfl:k=4:=by omega
    have hki:¬ ((4:Nat):Int)<4:=by omega
    have HC:=lh (HB.out wr (HQ1.out.q (HQ3.out.q HQk.out)) (x-1) (y-1) (by omega) (by omega))
    clear hlt1 hlt2
    generalize sampleD f (x-1) (y-1)=p0 at *
    go_wp2_with fail
    go_at_call 156
    refine HC.out.mono ?_
    rintro e ws ⟨rfl,hqs⟩
    have HOts:=lh (HOt.out.quiet hqs)
    have HOls:=lh (HOl.out.quiet hqs)
    have HQs:=lh (HQk.out.q hqs)
    clear hqs r0 r1 r2
    go_wp2_with fail
    refine bodyPost_ret (v:=.tuple #[.slice ta 4 tcap,.slice la 4 lcap,.int .i64 p0]) (by simp [results,Tryz.results106,go_sem]) rfl (HPost.out _ _ ⟨_,_,rfl,?_,?_,(HQ1.out.q HQ3.out).q HQs.out⟩)
    ·rw [HT.out];exact HOts.out.lower (by have:=Hz3.out;omega)
    ·rw [HL.out];exact HOls.out.lower (by have:=Hz3.out;omega)
 ·rw [show (((8:Nat)):Int)=8 from rfl] at *
  go_enter Tryz.func106,Tryz.ntmps106
  go_wp2_with fail
  generalize hW1:World.alloc w _=W1 at *
  clear hW1
  go_at_call 66
  refine HM.out.mono ?_
  rintro e w2 ⟨rfl,hq2⟩
  obtain ⟨r0,r1,r2⟩:=frame_cells (hq2.row HR1.out)
  have HQ2:=lh hq2
  clear hq2
  go_wp2_with fail
  go_at_call 124
  refine (HP.out w2).mono ?_
  rintro e w3 ⟨rfl,hq3⟩
  have HQ3:=lh (HQ2.out.q hq3)
  have Hz3:=lh (show w.heap.size+1≤w3.heap.size by have:=(HQ2.out.q hq3).size;have:=Hz1.out;omega)
  clear hq3 r0 r1 r2 HQ2
  go_wp2_with fail
  go_loopw [13,11,12] (fun i t l wr=>∃ (k:Nat),k≤8∧i=.int .i64 k∧Hid (Own .i64 3 w3.heap.size wr t (rowE f x y k))∧Hid (From w3.heap.size t)∧Hid (Own .i64 3 w3.heap.size wr l (colE f x y k))∧Hid (From w3.heap.size l)∧Hid (SepD t l)∧Hid (Only [] w3 wr)) (fun i _ _ _=>8-(intOf i).toNat)
  case atStart=>exact ⟨0,by omega,rfl,lh (Own.nil _ _ _ _),lh (From.nil _),lh (Own.nil _ _ _ _),lh (From.nil _),lh (SepD.nil _),lh (Only.refl _ _)⟩
  case round =>
   obtain ⟨k,hk,rfl,HOt,HFt,HOl,HFl,HSp,HQk⟩:=hrel
   have hlt1:=rowE_len f x y k
   have hlt2:=colE_len f x y k
   obtain ⟨ta,tcap,rfl,-⟩:=HOt.out.ints.open
   obtain ⟨la,lcap,rfl,-⟩:=HOl.out.ints.open
   rw [hlt1] at HOt HFt HSp ⊢
   rw [hlt2] at HOl HFl HSp ⊢
   have HRk:=lh ((HQ3.out.q HQk.out).row HR1.out)
   obtain ⟨r0,r1,r2⟩:=frame_cells HRk.out
   by_cases hlt:k<8
   ·have hki:(k:Int)<8:=by omega
    exact qDREd0
   ·obtain rfl:k=8:=by omega
    have hki:¬ ((8:Nat):Int)<8:=by omega
    have HC:=lh (HB.out wr (HQ1.out.q (HQ3.out.q HQk.out)) (x-1) (y-1) (by omega) (by omega))
    clear hlt1 hlt2
    generalize sampleD f (x-1) (y-1)=p0 at *
    go_wp2_with fail
    go_at_call 156
    refine HC.out.mono ?_
    rintro e ws ⟨rfl,hqs⟩
    have HOts:=lh (HOt.out.quiet hqs)
    have HOls:=lh (HOl.out.quiet hqs)
    have HQs:=lh (HQk.out.q hqs)
    clear hqs r0 r1 r2
    go_wp2_with fail
    refine bodyPost_ret (v:=.tuple #[.slice ta 8 tcap,.slice la 8 lcap,.int .i64 p0]) (by simp [results,Tryz.results106,go_sem]) rfl (HPost.out _ _ ⟨_,_,rfl,?_,?_,(HQ1.out.q HQ3.out).q HQs.out⟩)
    ·rw [HT.out];exact HOts.out.lower (by have:=Hz3.out;omega)
    ·rw [HL.out];exact HOls.out.lower (by have:=Hz3.out;omega)
end
theorem predD_next {mode corner:Int} {top left:List Int} {k:Nat} (hk:k<top.length*top.length):(predD mode top left corner).take (k+1)=(predD mode top left corner).take k ++ [predAt mode top left corner k]:=by
 rw [List.take_succ_eq_append_getElem (by rw [predD_len];exact hk)]
 congr 2
 simp [predD]
section
theorem qDRPd3 {p:Prop} (h:p:=by
 go_wp2_with (first
   | (at_builtin;refine wpList_append_ints rfl (.tmp 115) (.tmp 117) _ rfl EI (HOk.out.quiet ((Only.refl [] wr).drew.q (Only.new _ _))) rfl (hsrc.out _) rfl hby.out hba.out (fun v1 w6 hown1 ho1=>?_);obtain ⟨x1,x1cap,hx1,_⟩:=hown1.ints.open;subst hx1;rw [Hlen.out] at hown1 ho1 ⊢;have HO1:=lh hown1;have HA1:=lh ho1;clear hown1 ho1)
   | fail)
 refine ⟨⟨k+1,by have:=Hlt.out;omega,by go_num,lh (by rw [Hnx.out];exact HO1.out),lh (HA1.out.from_ HFk.out hba.out),lh ((HQr.out.drew.q (Only.new _ _)).acc HA1.out HFk.out)⟩,by simp [intOf];have:=Hlt.out;omega⟩):p:=h
theorem qDRPd0 {p:Prop} (h:p:=by
 have hVb:0≤V∧V≤255*4:=by have:=Hmb.out;omega
 have eV:IntKind.i64.wrap V=V:=by rw [IntKind.wrap_i64];omega
 have hmm:=Hm.out
 have hcc:=Hc.out
 have Hlt:=lh hlt
 clear e2 e4 hnn bM bD hV hlt
 generalize hpq:predAt mode top left corner k=q at *
 have hqe:(mode=0→q=V)∧(mode=1→q=t)∧(mode=2→q=l)∧(mode=3→q=clipD (l+t-corner)):=⟨fun h=>by subst h;rw [← hpq,hp0,hVd];rfl,fun h=>by subst h;rw [← hpq,hp1],fun h=>by subst h;rw [← hpq,hp2],fun h=>by subst h;rw [← hpq,hp3]⟩
 clear hp0 hp1 hp2 hp3 hpq hVd
 have hqb:-100000≤q∧q≤100000:=by
  have hcd:=clipD_in (l+t-corner)
  rcases (by omega:mode=0∨mode=1∨mode=2∨mode=3) with h | h | h | h
  ·have:=hqe.1 h;omega
  ·have:=hqe.2.1 h;omega
  ·have:=hqe.2.2.1 h;omega
  ·have:=hqe.2.2.2 h;omega
 have hink:∀ z∈[q],InK .i64 z:=by simp only [mSg,forall_eq,InK];omega
 have hsrc:=lh (fun (W:World)=>ints_newG (k:=.i64) (w:=W) (t:=3) (l:=[q]) rfl (by simp [maxLen]) hink 1 rfl rfl)
 have hby:=lh (show ((D.take k).length+[q].length)*8≤140737488355328 by rw [hdl];simp;omega)
 have Hlen:Hid ((D.take k ++ [q]).length=k+1):=lh (by rw [List.length_append,hdl];rfl)
 have Hnx:=lh hnx
 have hba:=lh (show W1.heap.size≤(wr.drew.alloc (.cells #[.int .i64 q] 3)).heap.size from Nat.le_trans HQr.out.drew.size (Only.new _ _).size)
 have Hqe:=lh hqe
 have a1:IntKind.i64.wrap (l+t)=l+t:=by rw [IntKind.wrap_i64];omega
 have a2:IntKind.i64.wrap (l+t-corner)=l+t-corner:=by rw [IntKind.wrap_i64];omega
 clear hink hqb hnx hqe hdl hbt hbl hVb hcc
 go_wp2_with fail
 refine wp_region_held_drew (S:=(fun w'=>w'.cell? ⟨bt,ot+M,none⟩=some (.int .i64 t)∧w'.cell? ⟨bl,ol+Dv,none⟩=some (.int .i64 l))) (by kernel_rfl) ?_ (fun hHeld=>?_)
 ·exact ⟨ct,cl⟩
 refine tk 0 84 ?_
 refine tk 1 85 ?_
 refine tk 2 86 ?_
 refine tk 3 87 ?_
 refine tk 4 88 ?_
 refine tk 5 89 ?_
 refine tk 6 90 ?_
 refine tk 7 91 ?_
 refine tk 8 92 ?_
 refine tk 9 93 ?_
 refine tk 10 94 ?_
 refine tk 11 95 ?_
 refine tk 12 15 ?_
 refine tk 13 16 ?_
 refine wpAnyH_done (by kernel_rfl) ?_ _
 rcases (by omega:mode=0∨mode=1∨mode=2∨mode=3) with rfl | rfl | rfl | rfl
 ·obtain rfl:=Hqe.out.1 rfl
  exact qDRPd3
 ·obtain rfl:=Hqe.out.2.1 rfl
  exact qDRPd3
 ·obtain rfl:=Hqe.out.2.2.1 rfl
  exact qDRPd3
 ·have hq3:=Hqe.out.2.2.2 rfl
  have Hq3:=lh hq3
  clear hq3
  go_wp2_with fail
  go_at_call 157
  refine (kclip_any _ _).mono ?_
  rintro e w' ⟨rfl,rfl⟩
  rw [← Hq3.out]
  exact qDRPd3):p:=h
theorem qDRPd1 {p:Prop} (h:p:=by
 have hk0:(0:Int)≤(k:Int):=by omega
 obtain ⟨bt,ot,tcap',e1,-,-,ct⟩:=(HT.out.quiet HQk.out).at (i:=k) (by rw [Hn.out];exact hlt)
 injection e1 with e1 e2 e3
 subst e1;subst e3
 obtain ⟨bl,ol,lcap',e1,-,-,cl⟩:=(HL.out.quiet HQk.out).at (i:=k) (by rw [Hln.out];exact hlt)
 injection e1 with e1 e4 e3
 subst e1;subst e3
 have hsn:sumD top left (k+1)=sumD top left k+(top.getD k 0+left.getD k 0):=rfl
 have hb:=HSn.out k
 have hbt:=Hts.out.at k
 have hbl:=Hls.out.at k
 have hnn:=Hn.out
 generalize hg:sumD top left (k+1)=m1 at *
 generalize sumD top left k=m0 at *
 generalize top.getD k 0=t at *
 generalize left.getD k 0=l at *
 rw [hnn] at hb
 have n1:IntKind.i64.wrap (m0+t)=m0+t:=by rw [IntKind.wrap_i64];omega
 have n2:IntKind.i64.wrap (m0+t+l)=m1:=by rw [hsn,IntKind.wrap_i64];omega
 have Hg:=lh hg
 have Hlt:=lh hlt
 clear e2 e4 hg hsn hb hbt hbl hnn hlt
 go_wp2_with fail
 refine wp_region_held_drew (S:=(fun w'=>w'.cell? ⟨bt,ot+k,none⟩=some (.int .i64 t)∧w'.cell? ⟨bl,ol+k,none⟩=some (.int .i64 l))) (by kernel_rfl) ?_ (fun hHeld=>?_)
 ·exact ⟨ct,cl⟩
 refine tk 0 66 ?_
 refine tk 1 67 ?_
 refine tk 2 68 ?_
 refine tk 3 69 ?_
 refine tk 4 70 ?_
 refine tk 5 71 ?_
 refine tk 6 72 ?_
 refine tk 7 73 ?_
 refine tk 8 74 ?_
 refine tk 9 75 ?_
 refine tk 10 76 ?_
 refine tk 11 11 ?_
 refine wpAnyH_done (by kernel_rfl) ?_ _
 go_wp2_with fail
 exact ⟨⟨k+1,by have:=Hlt.out;omega,by go_num,by rw [Hg.out],lh HQk.out.drew⟩,by simp [intOf];have:=Hlt.out;omega⟩):p:=h
theorem qDRPd2 {p:Prop} (h:p:=by
 rw [List.take_of_length_le (by rw [HDl.out];omega)] at HOk
 have hre:=HQr.out.row HR1.out
 obtain ⟨z0,z1,y0,y1,-⟩:=row2 hre
 have Hre:=lh hre
 clear hre hdl
 go_wp2_with fail
 obtain ⟨hrow,hon⟩:=row2_set (x:=.int .i64 0) (y:=.slice none 0 0) Hre.out
 refine bodyPost_ret (results_tmp_cell Tryz.results108 _ _ w.heap.size _ _ _ _ _ rfl rfl hrow Tryz.underlying39 rfl (err_info _ rfl)) rfl (HPost.out _ _ ⟨⟨_,rfl,?_⟩,?_⟩)
 ·exact (HOk.out.only hon (fun x hx hh=>by rw [mSg] at hx;subst hx;have:=HFk.out _ hh;have:=Hz1.out;omega)).lower HQ1.out.size
 ·exact (HQ1.out.q HQr.out).trans hon (U:=[]) (by simp) (fun x hx hlt=>by rw [mSg] at hx;omega)):p:=h
theorem kpredict4_any {lo hi lo' hi':Nat} {tv lv:Value} {top left:List Int} {w:World} (ht:Ints .i64 lo hi w tv top) (hl:Ints .i64 lo' hi' w lv left) (hn:top.length=4) (hln:left.length=4) (hts:SamOk top) (hls:SamOk left) {corner:Int} (hc:0≤corner∧corner≤255) {mode:Int} (hm:0≤mode∧mode≤3):Calls Tryz.prog 108 #[.int .i64 mode,tv,lv,.int .i64 corner] w fun e w'=>((∃ v',e=.returned (.tuple #[v',.agg #[.int .i64 0,.slice none 0 0]])∧Own .i64 3 w.heap.size w' v' (predD mode top left corner))∧Only [] w w'):=by
 refine hidQ fun Q HPost=>?_
 have hq1:=Only.new w (.cells #[.int .i64 0,.slice none 0 0] 39)
 have HR1:Hid ((w.alloc (.cells #[.int .i64 0,.slice none 0 0] 39)).heap[w.heap.size]?=some (.cells #[.int .i64 0,.slice none 0 0] 39 (0,0))):=lh (heap_alloc_new w _)
 have Hz1:Hid ((w.alloc (.cells #[.int .i64 0,.slice none 0 0] 39)).heap.size=w.heap.size+1):=lh (by simp)
 have HT:=lh (ht.quiet hq1)
 have HL:=lh (hl.quiet hq1)
 have Hts:=lh hts
 have Hls:=lh hls
 have Hn:=lh hn
 have Hln:=lh hln
 have HWt:=lh (samOk_iff.2 hts)
 have HWl:=lh (samOk_iff.2 hls)
 have HNx:=lh (fun k (hk:k<16)=>predD_next (mode:=mode) (corner:=corner) (left:=left) (show k<top.length*top.length by rw [hn];exact hk))
 have HDl:Hid ((predD mode top left corner).length=16):=lh (by rw [predD_len,hn])
 have HSn:=lh (fun k=>(sumD_in hts hls k))
 have HQ1:=lh hq1
 obtain ⟨ta,tcap,rfl,-⟩:=ht.open
 obtain ⟨la,lcap,rfl,-⟩:=hl.open
 rw [hn] at HT ⊢
 rw [hln] at HL ⊢
 have hc0:¬ corner<0:=by omega
 have hc1:¬ (255:Int)<corner:=by omega
 have hm0:¬ mode<0:=by omega
 have hm1:¬ (3:Int)<mode:=by omega
 have Hc:=lh hc
 have Hm:=lh hm
 clear ht hl hts hls hc hm hn hln hq1
 generalize predD mode top left corner=D at *
 go_enter Tryz.func108,Tryz.ntmps108
 go_wp2_with fail
 generalize hW1:World.alloc w _=W1 at *
 clear hW1
 go_at_call 26
 refine (within_any 0 255 HT.out).mono ?_
 rintro e w' ⟨rfl,rfl⟩
 rw [HWt.out]
 go_wp2_with fail
 go_at_call 26
 refine (within_any 0 255 HL.out).mono ?_
 rintro e w' ⟨rfl,rfl⟩
 rw [HWl.out]
 clear hm0 hm1
 go_wp2_with fail
 clear hc0 hc1
 go_loopw [12,11] (fun i m wr=>∃ k:Nat,k≤4∧i=.int .i64 k∧m=.int .i64 (sumD top left k)∧Hid (Only [] W1 wr)) (fun i _ _=>4-(intOf i).toNat)
 case atStart=>exact ⟨0,by omega,rfl,by show _=Value.int IntKind.i64 ((top.length:Nat):Int);rw [Hn.out];rfl,lh (Only.refl _ _)⟩
 case round =>
  obtain ⟨k,hk,rfl,rfl,HQk⟩:=hrel
  by_cases hlt:k<4
  ·have hki:(k:Int)<4:=by omega
   exact qDRPd1
  ·obtain rfl:k=4:=by omega
   have hki:¬ ((4:Nat):Int)<4:=by omega
   have hmb:=HSn.out 4
   generalize hme:sumD top left 4=mean at *
   have Hme:=lh hme
   have hnn:=Hn.out
   rw [hnn] at hmb
   have Hmb:=lh hmb
   clear hmb hme hnn hlt hk
   go_wp2_with fail
   go_loopw [14,13,15,16,17] (fun i y _ _ _ wy=>∃ k:Nat,k≤16∧i=.int .i64 k∧Hid (Own .i64 3 W1.heap.size wy y (D.take k))∧Hid (From W1.heap.size y)∧Hid (Only [] W1 wy)) (fun i _ _ _ _ _=>16-(intOf i).toNat)
   case atStart=>exact ⟨0,by omega,rfl,lh (Own.nil _ _ _ _),lh (From.nil _),HQk⟩
   case round =>
    obtain ⟨k,hk,rfl,HOk,HFk,HQr⟩:=hrel
    have hdl:(D.take k).length=k:=by rw [List.length_take,HDl.out];omega
    obtain ⟨ra,rcap,rfl,-⟩:=HOk.out.ints.open
    rw [hdl] at HOk HFk ⊢
    have hNN:IntKind.i64.wrap (4*4)=16:=by decide
    by_cases hlt:k<16
    ·have hki2:(k:Int)<16:=by omega
     have hk0:(0:Int)≤(k:Int):=by omega
     have eM:(k:Int).tmod 4=((k % 4:Nat):Int):=by rw [Int.tmod_eq_emod_of_nonneg hk0];rfl
     have eD:(k:Int).tdiv 4=((k / 4:Nat):Int):=by rw [Int.tdiv_eq_ediv_of_nonneg hk0];rfl
     have bM:k % 4<4:=by omega
     have bD:k / 4<4:=by omega
     have hnx:=HNx.out k hlt
     have hp0:predAt 0 top left corner k=sumD top left top.length / (2*(top.length:Int)):=rfl
     have hp1:predAt 1 top left corner k=top.getD (k % top.length) 0:=rfl
     have hp2:predAt 2 top left corner k=left.getD (k / top.length) 0:=rfl
     have hp3:predAt 3 top left corner k=clipD (left.getD (k / top.length) 0+top.getD (k % top.length) 0-corner):=rfl
     have hnn:=Hn.out
     rw [hnn] at hp0 hp1 hp2 hp3
     rw [Hme.out] at hp0
     generalize k % 4=M at *
     generalize k / 4=Dv at *
     obtain ⟨bt,ot,tcap',e1,-,-,ct⟩:=(HT.out.quiet HQr.out).at (i:=M) (by rw [hnn];exact bM)
     injection e1 with e1 e2 e3
     subst e1;subst e3
     obtain ⟨bl,ol,lcap',e1,-,-,cl⟩:=(HL.out.quiet HQr.out).at (i:=Dv) (by rw [Hln.out];exact bD)
     injection e1 with e1 e4 e3
     subst e1;subst e3
     have hbt:=Hts.out.at M
     have hbl:=Hls.out.at Dv
     generalize top.getD M 0=t at *
     generalize left.getD Dv 0=l at *
     have hM0:(0:Int)≤(M:Int):=by omega
     have hM1:(M:Int)<4:=by omega
     have hD0:(0:Int)≤(Dv:Int):=by omega
     have hD1:(Dv:Int)<4:=by omega
     have eDw:IntKind.i64.wrap (Dv:Int)=(Dv:Int):=by rw [IntKind.wrap_i64];omega
     have h2n:IntKind.i64.wrap (2*4)=8:=by decide
     obtain ⟨V,hV⟩:∃ V,V=mean.tdiv 8:=⟨_,rfl⟩
     have hVe:mean.tdiv 8=V:=hV.symm
     have hVd:V=mean / 8:=by rw [hV,Int.tdiv_eq_ediv_of_nonneg (by have:=Hmb.out.1;omega)]
     exact qDRPd0
    ·obtain rfl:k=16:=by omega
     have hki2:¬ ((16:Nat):Int)<16:=by omega
     exact qDRPd2
theorem kpredict8_any {lo hi lo' hi':Nat} {tv lv:Value} {top left:List Int} {w:World} (ht:Ints .i64 lo hi w tv top) (hl:Ints .i64 lo' hi' w lv left) (hn:top.length=8) (hln:left.length=8) (hts:SamOk top) (hls:SamOk left) {corner:Int} (hc:0≤corner∧corner≤255) {mode:Int} (hm:0≤mode∧mode≤3):Calls Tryz.prog 108 #[.int .i64 mode,tv,lv,.int .i64 corner] w fun e w'=>((∃ v',e=.returned (.tuple #[v',.agg #[.int .i64 0,.slice none 0 0]])∧Own .i64 3 w.heap.size w' v' (predD mode top left corner))∧Only [] w w'):=by
 refine hidQ fun Q HPost=>?_
 have hq1:=Only.new w (.cells #[.int .i64 0,.slice none 0 0] 39)
 have HR1:Hid ((w.alloc (.cells #[.int .i64 0,.slice none 0 0] 39)).heap[w.heap.size]?=some (.cells #[.int .i64 0,.slice none 0 0] 39 (0,0))):=lh (heap_alloc_new w _)
 have Hz1:Hid ((w.alloc (.cells #[.int .i64 0,.slice none 0 0] 39)).heap.size=w.heap.size+1):=lh (by simp)
 have HT:=lh (ht.quiet hq1)
 have HL:=lh (hl.quiet hq1)
 have Hts:=lh hts
 have Hls:=lh hls
 have Hn:=lh hn
 have Hln:=lh hln
 have HWt:=lh (samOk_iff.2 hts)
 have HWl:=lh (samOk_iff.2 hls)
 have HNx:=lh (fun k (hk:k<64)=>predD_next (mode:=mode) (corner:=corner) (left:=left) (show k<top.length*top.length by rw [hn];exact hk))
 have HDl:Hid ((predD mode top left corner).length=64):=lh (by rw [predD_len,hn])
 have HSn:=lh (fun k=>(sumD_in hts hls k))
 have HQ1:=lh hq1
 obtain ⟨ta,tcap,rfl,-⟩:=ht.open
 obtain ⟨la,lcap,rfl,-⟩:=hl.open
 rw [hn] at HT ⊢
 rw [hln] at HL ⊢
 have hc0:¬ corner<0:=by omega
 have hc1:¬ (255:Int)<corner:=by omega
 have hm0:¬ mode<0:=by omega
 have hm1:¬ (3:Int)<mode:=by omega
 have Hc:=lh hc
 have Hm:=lh hm
 clear ht hl hts hls hc hm hn hln hq1
 generalize predD mode top left corner=D at *
 go_enter Tryz.func108,Tryz.ntmps108
 go_wp2_with fail
 generalize hW1:World.alloc w _=W1 at *
 clear hW1
 go_at_call 26
 refine (within_any 0 255 HT.out).mono ?_
 rintro e w' ⟨rfl,rfl⟩
 rw [HWt.out]
 go_wp2_with fail
 go_at_call 26
 refine (within_any 0 255 HL.out).mono ?_
 rintro e w' ⟨rfl,rfl⟩
 rw [HWl.out]
 clear hm0 hm1
 go_wp2_with fail
 clear hc0 hc1
 go_loopw [12,11] (fun i m wr=>∃ k:Nat,k≤8∧i=.int .i64 k∧m=.int .i64 (sumD top left k)∧Hid (Only [] W1 wr)) (fun i _ _=>8-(intOf i).toNat)
 case atStart=>exact ⟨0,by omega,rfl,by show _=Value.int IntKind.i64 ((top.length:Nat):Int);rw [Hn.out];rfl,lh (Only.refl _ _)⟩
 case round =>
  obtain ⟨k,hk,rfl,rfl,HQk⟩:=hrel
  by_cases hlt:k<8
  ·have hki:(k:Int)<8:=by omega
   exact qDRPd1
  ·obtain rfl:k=8:=by omega
   have hki:¬ ((8:Nat):Int)<8:=by omega
   have hmb:=HSn.out 8
   generalize hme:sumD top left 8=mean at *
   have Hme:=lh hme
   have hnn:=Hn.out
   rw [hnn] at hmb
   have Hmb:=lh hmb
   clear hmb hme hnn hlt hk
   go_wp2_with fail
   go_loopw [14,13,15,16,17] (fun i y _ _ _ wy=>∃ k:Nat,k≤64∧i=.int .i64 k∧Hid (Own .i64 3 W1.heap.size wy y (D.take k))∧Hid (From W1.heap.size y)∧Hid (Only [] W1 wy)) (fun i _ _ _ _ _=>64-(intOf i).toNat)
   case atStart=>exact ⟨0,by omega,rfl,lh (Own.nil _ _ _ _),lh (From.nil _),HQk⟩
   case round =>
    obtain ⟨k,hk,rfl,HOk,HFk,HQr⟩:=hrel
    have hdl:(D.take k).length=k:=by rw [List.length_take,HDl.out];omega
    obtain ⟨ra,rcap,rfl,-⟩:=HOk.out.ints.open
    rw [hdl] at HOk HFk ⊢
    have hNN:IntKind.i64.wrap (8*8)=64:=by decide
    by_cases hlt:k<64
    ·have hki2:(k:Int)<64:=by omega
     have hk0:(0:Int)≤(k:Int):=by omega
     have eM:(k:Int).tmod 8=((k % 8:Nat):Int):=by rw [Int.tmod_eq_emod_of_nonneg hk0];rfl
     have eD:(k:Int).tdiv 8=((k / 8:Nat):Int):=by rw [Int.tdiv_eq_ediv_of_nonneg hk0];rfl
     have bM:k % 8<8:=by omega
     have bD:k / 8<8:=by omega
     have hnx:=HNx.out k hlt
     have hp0:predAt 0 top left corner k=sumD top left top.length / (2*(top.length:Int)):=rfl
     have hp1:predAt 1 top left corner k=top.getD (k % top.length) 0:=rfl
     have hp2:predAt 2 top left corner k=left.getD (k / top.length) 0:=rfl
     have hp3:predAt 3 top left corner k=clipD (left.getD (k / top.length) 0+top.getD (k % top.length) 0-corner):=rfl
     have hnn:=Hn.out
     rw [hnn] at hp0 hp1 hp2 hp3
     rw [Hme.out] at hp0
     generalize k % 8=M at *
     generalize k / 8=Dv at *
     obtain ⟨bt,ot,tcap',e1,-,-,ct⟩:=(HT.out.quiet HQr.out).at (i:=M) (by rw [hnn];exact bM)
     injection e1 with e1 e2 e3
     subst e1;subst e3
     obtain ⟨bl,ol,lcap',e1,-,-,cl⟩:=(HL.out.quiet HQr.out).at (i:=Dv) (by rw [Hln.out];exact bD)
     injection e1 with e1 e4 e3
     subst e1;subst e3
     have hbt:=Hts.out.at M
     have hbl:=Hls.out.at Dv
     generalize top.getD M 0=t at *
     generalize left.getD Dv 0=l at *
     have hM0:(0:Int)≤(M:Int):=by omega
     have hM1:(M:Int)<8:=by omega
     have hD0:(0:Int)≤(Dv:Int):=by omega
     have hD1:(Dv:Int)<8:=by omega
     have eDw:IntKind.i64.wrap (Dv:Int)=(Dv:Int):=by rw [IntKind.wrap_i64];omega
     have h2n:IntKind.i64.wrap (2*8)=16:=by decide
     obtain ⟨V,hV⟩:∃ V,V=mean.tdiv 16:=⟨_,rfl⟩
     have hVe:mean.tdiv 16=V:=hV.symm
     have hVd:V=mean / 16:=by rw [hV,Int.tdiv_eq_ediv_of_nonneg (by have:=Hmb.out.1;omega)]
     exact qDRPd0
    ·obtain rfl:k=64:=by omega
     have hki2:¬ ((64:Nat):Int)<64:=by omega
     exact qDRPd2
end
end Go.Proofs.YtmgbbgffkakcaaaGreatDoor
/- A square put in sample by sample is the square laid row by row. Conditions: it lies in the frame. -/
namespace Go.Proofs.YtmgbbgffkakcaaaGreatDoor
set_option linter.unusedVariables false
def partRow (pix:List Int) (o:Nat) (row:List Int) (i:Nat):List Int:=pix.take o ++ row.take i ++ pix.drop (o+i)
theorem partRow_zero (pix:List Int) (o:Nat) (row:List Int):partRow pix o row 0=pix:=by simp [partRow]
theorem partRow_all {pix row:List Int} {o n:Nat} (h:row.length=n):partRow pix o row n=rowD pix o row:=by
 unfold partRow rowD
 rw [show row.take n=row from List.take_of_length_le (by omega),h]
theorem partRow_len {pix row:List Int} {o i:Nat} (h:o+i≤pix.length) (g:i≤row.length):(partRow pix o row i).length=pix.length:=by
 unfold partRow
 simp only [List.length_append,List.length_take,List.length_drop]
 omega
theorem partRow_next {pix row:List Int} {o i:Nat} (h:o+i<pix.length) (g:i<row.length):(partRow pix o row i).set (o+i) (row.getD i 0)=partRow pix o row (i+1):=by
 unfold partRow
 have h1:(pix.take o ++ row.take i).length=o+i:=by simp only [List.length_append,List.length_take];omega
 rw [List.set_append_right _ _ (by omega),h1,Nat.sub_self,List.drop_eq_getElem_cons h,List.set_cons_zero,List.take_succ_eq_append_getElem g,List.getD_eq_getElem?_getD,List.getElem?_eq_getElem g]
 simp only [List.append_assoc,List.cons_append,List.nil_append,Nat.add_assoc,Option.getD_some]
section
variable (W x y:Int) (n:Nat) (b pix:List Int)
def layedP (j:Nat):List Int:=(List.range j).foldl (layP W x y n b) pix
theorem layedP_next (j:Nat):layedP W x y n b pix (j+1)=layP W x y n b (layedP W x y n b pix j) j:=by
 unfold layedP
 rw [List.range_succ,List.foldl_append]
 rfl
def offP (j:Nat):Nat:=((y+j)*W+x).toNat
def rowP (j:Nat):List Int:=(b.drop (j*n)).take n
def putP (k:Nat):List Int:=partRow (layedP W x y n b pix (k / n)) (offP W x y (k / n)) (rowP n b (k / n)) (k % n)
end
section
variable {W x y:Int} {n:Nat} {b pix:List Int} {H:Int}
theorem rowP_len (hb:b.length=n*n) {j:Nat} (hj:j<n):(rowP n b j).length=n:=by
 unfold rowP
 rw [List.length_take,List.length_drop,hb]
 have:j*n+n≤n*n:=by rw [← Nat.succ_mul];exact Nat.mul_le_mul_right _ hj
 omega
theorem rowP_at (hb:b.length=n*n) {j i:Nat} (hj:j<n) (hi:i<n):(rowP n b j).getD i 0=b.getD (j*n+i) 0:=by
 have h1:=rowP_len hb hj
 unfold rowP
 rw [List.getD_eq_getElem?_getD,List.getElem?_take,if_pos hi,List.getElem?_drop,List.getD_eq_getElem?_getD]
theorem layedP_len (hb:b.length=n*n) (ho:∀ j,j<n→offP W x y j+n≤pix.length):∀ j,j≤n→(layedP W x y n b pix j).length=pix.length
 | 0,_=>rfl
 | j+1,hj=>by
  have ih:=layedP_len hb ho j (by omega)
  rw [layedP_next]
  show (rowD _ (offP W x y j) (rowP n b j)).length=_
  rw [rowD_len (by rw [rowP_len hb (by omega),ih];exact ho j (by omega)),ih]
theorem putP_zero (hn:0<n):putP W x y n b pix 0=pix:=by
 unfold putP
 rw [Nat.zero_div,Nat.zero_mod,partRow_zero]
 rfl
theorem putP_len (hb:b.length=n*n) (ho:∀ j,j<n→offP W x y j+n≤pix.length) {k:Nat} (hk:k<n*n):(putP W x y n b pix k).length=pix.length:=by
 have hn:0<n:=by cases n <;> omega
 have hj:k / n<n:=Nat.div_lt_of_lt_mul hk
 have hi:=Nat.mod_lt k hn
 have h1:=ho _ hj
 unfold putP
 rw [partRow_len (by rw [layedP_len hb ho _ (by omega)];omega) (by rw [rowP_len hb hj];omega),layedP_len hb ho _ (by omega)]
theorem putP_next (hb:b.length=n*n) (ho:∀ j,j<n→offP W x y j+n≤pix.length) {k:Nat} (hk:k<n*n):(putP W x y n b pix k).set (offP W x y (k / n)+k % n) (b.getD k 0)=putP W x y n b pix (k+1):=by
 have hn:0<n:=by cases n <;> omega
 have hj:k / n<n:=Nat.div_lt_of_lt_mul hk
 have hi:=Nat.mod_lt k hn
 have h1:=ho _ hj
 have hl:=layedP_len hb ho (k / n) (by omega)
 have hrl:=rowP_len hb hj
 have hkk:k / n*n+k % n=k:=by rw [Nat.mul_comm];exact Nat.div_add_mod k n
 have hr:=rowP_at hb hj hi
 rw [hkk] at hr
 have hnx:=partRow_next (pix:=layedP W x y n b pix (k / n)) (row:=rowP n b (k / n)) (o:=offP W x y (k / n)) (i:=k % n) (by omega) (by omega)
 rw [hr] at hnx
 have e:putP W x y n b pix k=partRow (layedP W x y n b pix (k / n)) (offP W x y (k / n)) (rowP n b (k / n)) (k % n):=rfl
 rw [e,hnx]
 unfold putP
 by_cases hlast:k % n+1=n
 ·have hd:(k+1) / n=k / n+1:=by
   rw [show k+1=(k / n+1)*n by rw [Nat.add_mul,Nat.one_mul];omega,Nat.mul_div_cancel _ hn]
  have hm:(k+1) % n=0:=by
   rw [show k+1=(k / n+1)*n by rw [Nat.add_mul,Nat.one_mul];omega,Nat.mul_mod_left]
  rw [hd,hm,partRow_zero,hlast,partRow_all hrl,layedP_next]
  rfl
 ·have hd:(k+1) / n=k / n:=by
   rw [show k+1=k % n+1+k / n*n by omega,Nat.add_mul_div_right _ _ hn,Nat.div_eq_of_lt (by omega),Nat.zero_add]
  have hm:(k+1) % n=k % n+1:=by
   rw [show k+1=k % n+1+k / n*n by omega,Nat.add_mul_mod_self_right,Nat.mod_eq_of_lt (by omega)]
  rw [hd,hm]
theorem putP_all (hb:b.length=n*n) (hn:0<n) (f:FrameD) (hf:f.W=W) (hp:f.pix=pix):putP W x y n b pix (n*n)=(layD f x y n b).pix:=by
 subst hf;subst hp
 unfold putP
 rw [Nat.mul_div_cancel _ hn,Nat.mul_mod_left,partRow_zero]
 rfl
end
end Go.Proofs.YtmgbbgffkakcaaaGreatDoor
namespace Go.Proofs.YtmgbbgffkakcaaaGreatDoor
open Go.RowKit
set_option linter.unusedVariables false
set_option linter.unusedSimpArgs false
section
theorem kcopyf_any {lo hi:Nat} {pv:Value} {w:World} {f:FrameD} (h:Ints .i64 lo hi w pv f.pix) (hl:f.pix.length≤1000000000):Calls Tryz.prog 13 #[.agg #[.int .i64 f.W,.int .i64 f.H,pv]] w fun e w'=>(∃ v',e=.returned (.agg #[.int .i64 f.W,.int .i64 f.H,v'])∧Own .i64 3 w.heap.size w' v' f.pix∧Only [] w w'):=by
 refine hidQ fun Q HPost=>?_
 obtain ⟨a,cap,rfl,-⟩:=h.open
 obtain ⟨hq1,HR1,HR2,-⟩:=boxes2 w (.cells #[.int .i64 f.W,.int .i64 f.H,.slice a f.pix.length cap] 24) (.cells #[.int .i64 0,.int .i64 0,.slice none 0 0] 24)
 have HCp:=lh (fun (W:World) (o:Only [] w W)=>copyi_any (h.quiet o) hl)
 have HQ1:=lh hq1
 have Hz1:Hid (((w.alloc (.cells #[.int .i64 f.W,.int .i64 f.H,.slice a f.pix.length cap] 24)).alloc (.cells #[.int .i64 0,.int .i64 0,.slice none 0 0] 24)).heap.size=w.heap.size+1+1):=lh (by simp)
 clear h hq1
 go_enter Tryz.func13,Tryz.ntmps13
 go_wp2_with fail
 generalize hW1:World.alloc (World.alloc w _) _=W1 at *
 clear hW1
 obtain ⟨r0,r1,r2⟩:=frame_cells HR1.out
 refine wp_region_held_drew (S:=(fun w'=>w'.cell? ⟨w.heap.size,0,none⟩=some (.int .i64 f.W)∧w'.cell? ⟨w.heap.size,1,none⟩=some (.int .i64 f.H)∧w'.cell? ⟨w.heap.size,2,none⟩=some (.slice a f.pix.length cap))) (by kernel_rfl) ?_ (fun hHeld=>?_)
 ·exact ⟨r0,r1,r2⟩
 refine tk 0 3 ?_
 refine tk 1 4 ?_
 refine tk 2 5 ?_
 refine tk 3 6 ?_
 refine tk 4 7 ?_
 refine tk 5 8 ?_
 refine rdy (rdc 6 9 (fun K hK=>?_) .nil)
 go_simp
 go_at_call 36
 refine (HCp.out _ HQ1.out.drew).mono ?_
 rintro e w3 ⟨v3,rfl,hown,hq3⟩
 have hqd:=(Only.refl [] W1).drew.q hq3
 have HQ3:=lh (HQ1.out.q hqd)
 have HO3:=lh hown
 obtain ⟨z0,z1,z2⟩:=frame_cells (hqd.row HR2.out)
 have fz0:=frozen_of_row _ _ 0 _ _ (hqd.row HR2.out)
 have fz1:=frozen_of_row _ _ 1 _ _ (hqd.row HR2.out)
 have fz2:=frozen_of_row _ _ 2 _ _ (hqd.row HR2.out)
 obtain ⟨s0,s1,s2⟩:=frame_cells (hqd.row HR1.out)
 obtain ⟨va,vl,vc,rfl⟩:∃ va vl vc,v3=.slice va vl vc:=by obtain ⟨va,vc,e,-⟩:=hown.ints.open;exact ⟨va,_,vc,e⟩
 obtain ⟨hrow,hon⟩:=row3_set (x:=.int .i64 f.W) (y:=.int .i64 f.H) (z:=.slice va vl vc) (hqd.row HR2.out)
 have hno:=HO3.out.at
 clear hq3 hown
 refine hK.out _ _ ?_ (fun hHeld=>?_)
 ·exact ⟨s0,s1,s2⟩
 clear hK K
 try simp only [Act.put,List.setIfInBounds_toArray,List.set_cons_zero,List.set_cons_succ]
 refine tk 7 10 ?_
 refine rdy (rdn 8 (fun K hK=>?_) .nil)
 go_simp
 refine hK.out _ _ ?_ (fun hHeld=>?_)
 ·exact ⟨hon.cell s0 (by simp),hon.cell s1 (by simp),hon.cell s2 (by simp)⟩
 clear hK K
 try simp only [Act.put,List.setIfInBounds_toArray,List.set_cons_zero,List.set_cons_succ]
 refine wpAnyH_done (by kernel_rfl) ?_ _
 go_wp2_with fail
 refine bodyPost_ret (v:=.agg #[.int .i64 f.W,.int .i64 f.H,.slice va vl vc]) (results_cell_row Tryz.results13 _ _ (w.heap.size+1) _ _ _ _ rfl hrow Tryz.underlying24 rfl (by kernel_rfl)) rfl (HPost.out _ _ ⟨_,rfl,?_,?_⟩)
 ·exact (HO3.out.only hon (fun x hx hh=>by rw [mSg] at hx;subst hx;have:=(hno _ hh).1;have:=Hz1.out;have:W1.drew.heap.size=W1.heap.size:=rfl;omega)).lower (by have:=Hz1.out;show w.heap.size≤W1.heap.size;omega)
 ·exact HQ3.out.trans hon (U:=[]) (by simp) (fun x hx hlt=>by rw [mSg] at hx;omega)
theorem results_cell_cell {P:Program} {fn:Func} {p q:Tmp} {ty ty':TypeId} (h:fn.results=#[.cell p ty,.cell q ty']) (tmps:Array Value) (w:World) (g g':Nat) (t t':TypeId) (cs cs':Array Value) (fr fr':Nat×Nat) (d d':TypeDesc)
  (hp:tmps.getD p undef=.pointer (some ⟨g,0,none⟩)) (hq:tmps.getD q undef=.pointer (some ⟨g',0,none⟩)) (hg:w.heap[g]?=some (.cells cs t fr)) (hg':w.heap[g']?=some (.cells cs' t' fr'))
  (hu:P.underlying ty=some d) (hd:(match d with | .struct _ | .array _ _=>true | _=>false)=true) (hi:(P.info? ty).map (·.size)=some cs.size)
  (hu':P.underlying ty'=some d') (hd':(match d' with | .struct _ | .array _ _=>true | _=>false)=true) (hi':(P.info? ty').map (·.size)=some cs'.size) :
  (results fn tmps).run P w=.ok (.tuple #[.agg cs,.agg cs']) w:=by
 have hp':tmps[p]?.getD undef=.pointer (some ⟨g,0,none⟩):=by simpa using hp
 have hq':tmps[q]?.getD undef=.pointer (some ⟨g',0,none⟩):=by simpa using hq
 simp [results,h,hp',hq',asAddr,run_loadVar_row w g t ty cs fr d hg hu hd hi,run_loadVar_row w g' t' ty' cs' fr' d' hg' hu' hd' hi']
theorem kput4_any {lo hi lo' hi':Nat} {pv bv:Value} {w:World} {f:FrameD} {x y:Int} {b:List Int} (hok:FrOk f) (h:Ints .i64 lo hi w pv f.pix) (hb:Ints .i64 lo' hi' w bv b) (hbl:b.length=16) (hbs:SamOk b) (hx:0≤x) (hxn:x+4≤f.W) (hy:0≤y) (hyn:y+4≤f.H):Calls Tryz.prog 169 #[.agg #[.int .i64 f.W,.int .i64 f.H,pv],.int .i64 x,.int .i64 y,.int .i64 4,bv] w fun e w'=>(∃ v',e=.returned (.tuple #[.agg #[.int .i64 f.W,.int .i64 f.H,v'],.agg #[.int .i64 0,.slice none 0 0]])∧Own .i64 3 w.heap.size w' v' (layD f x y 4 b).pix∧Only [] w w'):=by
 refine hidQ fun Q HPost=>?_
 obtain ⟨a,cap,rfl,-⟩:=h.open
 have hq1:Only [] w (((w.alloc (.cells #[.int .i64 f.W,.int .i64 f.H,.slice a f.pix.length cap] 24)).alloc (.cells #[.int .i64 0,.int .i64 0,.slice none 0 0] 24)).alloc (.cells #[.int .i64 0,.slice none 0 0] 39)):=((Only.new w _).alloc _).alloc _
 have hfl:0<f.pix.length∧f.pix.length≤1000000:=by
  have e1:=hok.len
  have e2:=hok.w0
  have e3:=hok.h0
  have e4:=hok.w1
  have e5:=hok.h1
  have e6:8*8≤f.W*f.H:=Int.mul_le_mul e2 e3 (by omega) (by omega)
  have e7:f.W*f.H≤32*32:=Int.mul_le_mul e4 e5 (by omega) (by omega)
  omega
 have hpi:=fun (j:Nat) (hj:j<4)=>place_in (W:=f.W) (H:=f.H) (x:=x) (y:=y) (j:=(j:Int)) (n:=4) (by have:=hok.w0;omega) hx hxn (by omega) hy (by omega) (by omega)
 have ho:∀ j,j<4→offP f.W x y j+4≤f.pix.length:=fun j hj=>by have:=hpi j hj;have:=hok.len;unfold offP;omega
 have HIx:Hid (∀ k,k<16→(y+((k / 4:Nat):Int))*f.W+x+((k % 4:Nat):Int)=((offP f.W x y (k / 4)+k % 4:Nat):Int)∧offP f.W x y (k / 4)+k % 4<f.pix.length∧0≤(y+((k / 4:Nat):Int))*f.W+x):=lh (fun k hk=>by
  have:=hpi (k / 4) (by omega)
  have:=ho (k / 4) (by omega)
  unfold offP at *
  omega)
 have HPn:=lh (fun k (hk:k<16)=>putP_next (n:=4) (W:=f.W) (x:=x) (y:=y) hbl ho hk)
 have HPl:=lh (fun k (hk:k<16)=>putP_len (n:=4) (W:=f.W) (x:=x) (y:=y) hbl ho hk)
 have HP0:=lh (putP_zero (n:=4) (W:=f.W) (x:=x) (y:=y) (b:=b) (pix:=f.pix) (by omega))
 have HPe:Hid (putP f.W x y 4 b f.pix 16=(layD f x y 4 b).pix):=lh (putP_all (n:=4) hbl (by omega) f rfl rfl)
 have HB0:Hid ((((w.alloc (.cells #[.int .i64 f.W,.int .i64 f.H,.slice a f.pix.length cap] 24)).alloc (.cells #[.int .i64 0,.int .i64 0,.slice none 0 0] 24)).alloc (.cells #[.int .i64 0,.slice none 0 0] 39)).heap[w.heap.size]?=some (.cells #[.int .i64 f.W,.int .i64 f.H,.slice a f.pix.length cap] 24 (0,0))):=lh (((Only.new (w.alloc _) _).alloc _).row (heap_alloc_new w _))
 have HB1:Hid ((((w.alloc (.cells #[.int .i64 f.W,.int .i64 f.H,.slice a f.pix.length cap] 24)).alloc (.cells #[.int .i64 0,.int .i64 0,.slice none 0 0] 24)).alloc (.cells #[.int .i64 0,.slice none 0 0] 39)).heap[w.heap.size+1]?=some (.cells #[.int .i64 0,.int .i64 0,.slice none 0 0] 24 (0,0))):=lh ((Only.new ((w.alloc _).alloc _) _).row (heap_alloc_new' (by simp)))
 have HB2:Hid ((((w.alloc (.cells #[.int .i64 f.W,.int .i64 f.H,.slice a f.pix.length cap] 24)).alloc (.cells #[.int .i64 0,.int .i64 0,.slice none 0 0] 24)).alloc (.cells #[.int .i64 0,.slice none 0 0] 39)).heap[w.heap.size+1+1]?=some (.cells #[.int .i64 0,.slice none 0 0] 39 (0,0))):=lh (heap_alloc_new' (by simp))
 have Hz1:Hid ((((w.alloc (.cells #[.int .i64 f.W,.int .i64 f.H,.slice a f.pix.length cap] 24)).alloc (.cells #[.int .i64 0,.int .i64 0,.slice none 0 0] 24)).alloc (.cells #[.int .i64 0,.slice none 0 0] 39)).heap.size=w.heap.size+1+1+1):=lh (by simp)
 have HM:=lh (fun (W:World) (o:Only [] (((w.alloc (.cells #[.int .i64 f.W,.int .i64 f.H,.slice a f.pix.length cap] 24)).alloc (.cells #[.int .i64 0,.int .i64 0,.slice none 0 0] 24)).alloc (.cells #[.int .i64 0,.slice none 0 0] 39)) W)=>by have:=kmay_any f.W f.H (h.quiet (hq1.q o));rw [show mayF ⟨f.W,f.H,f.pix⟩=true from mayF_iff.2 hok] at this;exact this)
 have HLi:=lh (fun (W:World)=>by have:=klies_any f.W f.H x y 4 (.slice a f.pix.length cap) W ⟨hok.w0,hok.w1⟩ ⟨hok.h0,hok.h1⟩ (by omega);rw [show liesD f.W f.H x y 4=true by unfold liesD;rw [decide_eq_true_iff];omega] at this;exact this)
 have HBv:=lh (hb.quiet hq1)
 have Hbw:Hid (∀ (b0 o0 c0:Nat),bv=.slice (some ⟨b0,o0,none⟩) b.length c0→∀ k,k<16→b0<w.heap.size):=lh (fun b0 o0 c0 e k hk=>by obtain ⟨b',o',c',e',-,-,hc⟩:=hb.at (i:=k) (by omega);rw [e'] at e;injection e with e1;injection e1 with e1;injection e1 with e1;subst e1;exact block_lt_of_cell hc)
 have HWb:=lh (samOk_iff.2 hbs)
 have HCf:=lh (fun (W:World) (o:Only [] (((w.alloc (.cells #[.int .i64 f.W,.int .i64 f.H,.slice a f.pix.length cap] 24)).alloc (.cells #[.int .i64 0,.int .i64 0,.slice none 0 0] 24)).alloc (.cells #[.int .i64 0,.slice none 0 0] 39)) W)=>kcopyf_any (h.quiet (hq1.q o)) (by omega))
 have Hfl:=lh hfl
 have Hbl:=lh hbl
 have Hbs:=lh hbs
 have Hpl:Hid (0≤x∧x≤32∧0≤y∧y≤32∧0≤f.W∧f.W≤32):=lh (by have:=hok.w1;have:=hok.h1;have:=hok.w0;omega)
 have HQ1:=lh hq1
 obtain ⟨ba,bcap,rfl,-⟩:=hb.open
 rw [hbl] at HBv Hbw ⊢
 clear h hb hbl hbs hq1 hok hfl hpi ho hx hxn hy hyn
 generalize putP f.W x y 4 b f.pix=PK at *
 go_enter Tryz.func169,Tryz.ntmps169
 obtain ⟨r0,r1,r2⟩:=frame_cells HB0.out
 go_wp2_with fail
 generalize hW1:World.alloc (World.alloc (World.alloc w _) _) _=W1 at *
 clear hW1 r0 r1 r2
 go_at_call 66
 refine (HM.out W1 (Only.refl _ _)).mono ?_
 rintro e w2 ⟨rfl,hq2⟩
 have HQ2:=lh hq2
 obtain ⟨r0,r1,r2⟩:=frame_cells (hq2.row HB0.out)
 clear hq2
 go_wp2_with fail
 go_at_call 124
 refine (HLi.out w2).mono ?_
 rintro e w3 ⟨rfl,hq3⟩
 have HQ3:=lh (HQ2.out.q hq3)
 clear hq3 r0 r1 r2
 go_wp2_with fail
 go_at_call 26
 refine (within_any 0 255 (HBv.out.quiet HQ3.out)).mono ?_
 rintro e w' ⟨rfl,rfl⟩
 rw [HWb.out]
 obtain ⟨r0,r1,r2⟩:=frame_cells (HQ3.out.row HB0.out)
 go_wp2_with fail
 go_at_call 13
 refine (HCf.out w3 HQ3.out).mono ?_
 rintro e w4 ⟨v4,rfl,hown,hq4⟩
 obtain ⟨g,gcap,rfl,hg1,hg2⟩:=hown.form Hfl.out.1
 have hn5:=Only.new w4 (.cells #[.int .i64 f.W,.int .i64 f.H,(.slice (some ⟨g,0,none⟩) f.pix.length gcap)] 24)
 have HB4:Hid ((w4.alloc (.cells #[.int .i64 f.W,.int .i64 f.H,(.slice (some ⟨g,0,none⟩) f.pix.length gcap)] 24)).heap[w4.heap.size]?=some (.cells #[.int .i64 f.W,.int .i64 f.H,(.slice (some ⟨g,0,none⟩) f.pix.length gcap)] 24 (0,0))):=lh (heap_alloc_new w4 _)
 have hq5:=hq4.q hn5
 have HQ5:=lh (HQ3.out.q hq5)
 have HO5:=lh (hown.quiet hn5)
 have Hg:Hid (w.heap.size+1+1<g∧g<w4.heap.size):=lh ⟨by have:=HQ3.out.size;have:=Hz1.out;omega,hg2⟩
 clear hq4 hn5 hq5 hown hg1 hg2 r0 r1 r2
 go_wp2_with fail
 generalize hW5:World.alloc w4 _=W5 at *
 clear hW5
 generalize hB4:w4.heap.size=B4 at *
 go_loopw [13] (fun i wr=>∃ k:Nat,k≤16∧i=.int .i64 k∧Hid (Own .i64 3 w3.heap.size wr (.slice (some ⟨g,0,none⟩) f.pix.length gcap) (PK k))∧Hid (Only [g] W5 wr)) (fun i _=>16-(intOf i).toNat)
 case atStart=>exact ⟨0,by omega,rfl,lh (by rw [HP0.out];exact HO5.out),lh (Only.refl _ _)⟩
 case round =>
  obtain ⟨k,hk,rfl,HOk,HQk⟩:=hrel
  have hNN:IntKind.i64.wrap (4*4)=16:=by decide
  obtain ⟨q0,q1,q2⟩:=frame_cells (HQk.out.rowAt HB4.out (by rw [mSg];have:=Hg.out;omega))
  obtain ⟨r0,r1,r2⟩:=frame_cells (HQk.out.rowAt (HQ5.out.row HB0.out) (by rw [mSg];have:=Hg.out;omega))
  by_cases hlt:k<16
  ·have hki:(k:Int)<16:=by omega
   have hk0:(0:Int)≤(k:Int):=by omega
   have hlen:=HPl.out k hlt
   have hix:=HIx.out k hlt
   obtain ⟨bb,bo,bcap',e1,hb1,hb2,cb0⟩:=(HBv.out).at (i:=k) (by rw [Hbl.out];exact hlt)
   injection e1 with e1 e2 e3
   subst e1;subst e3
   have hbg:=block_lt_of_cell cb0
   simp only at hbg
   have hgg:=Hg.out
   have cb:=HQk.out.cell (HQ5.out.cell cb0 (by simp)) (by rw [mSg];have:=Hz1.out;have:=Hbw.out _ _ _ rfl k hlt;simp only;omega)
   have eM:(k:Int).tmod 4=((k % 4:Nat):Int):=by rw [Int.tmod_eq_emod_of_nonneg hk0];rfl
   have eD:(k:Int).tdiv 4=((k / 4:Nat):Int):=by rw [Int.tdiv_eq_ediv_of_nonneg hk0];rfl
   have hcb:=Hbs.out.at k
   have hnx:=HPn.out k hlt
   have bM:k % 4<4:=by omega
   have bD:k / 4<4:=by omega
   generalize k % 4=M at *
   generalize k / 4=Dv at *
   generalize b.getD k 0=c at *
   obtain ⟨h1,h2,h3⟩:=hix
   obtain ⟨I,hI⟩:∃ I,I=offP f.W x y Dv+M:=⟨_,rfl⟩
   rw [← hI] at hnx h1 h2
   obtain ⟨Y,hY⟩:∃ Y,Y=(y+(Dv:Int))*f.W:=⟨_,rfl⟩
   rw [← hY] at h1 h3
   have hpl:(f.pix.length:Int)≤1000000:=by have:=Hfl.out;omega
   have n0:IntKind.i64.wrap (Dv:Int)=(Dv:Int):=by rw [IntKind.wrap_i64];omega
   have n1:IntKind.i64.wrap (y+(Dv:Int))=y+(Dv:Int):=by rw [IntKind.wrap_i64];have:=Hpl.out;omega
   have n2:IntKind.i64.wrap ((y+(Dv:Int))*f.W)=Y:=by rw [← hY,IntKind.wrap_i64];have:=Hpl.out;omega
   have n3:IntKind.i64.wrap (Y+x)=Y+x:=by rw [IntKind.wrap_i64];have:=Hpl.out;omega
   have n4:Y+x+(M:Int)=(I:Int):=by omega
   have n5:IntKind.i64.wrap (I:Int)=(I:Int):=by rw [IntKind.wrap_i64];omega
   have hI0:(0:Int)≤(I:Int):=by omega
   have hI1:(I:Int)<(f.pix.length:Int):=by omega
   have hin:InK .i64 c:=by simp only [InK];omega
   have cx:=HOk.out.cellS hlen.symm (i:=I) (by omega)
   have fx:=HOk.out.frzS hlen.symm I
   obtain ⟨hs1,hs2⟩:=HOk.out.storeS hlen.symm hin I
   rw [hnx] at hs1
   have HS1:=lh hs1
   have HS2:=lh hs2
   have Hlt:=lh hlt
   have hbgne:¬ bb=g:=by have:=Hbw.out _ _ _ rfl k (by omega);omega
   have hwg:¬ w.heap.size=g:=by omega
   have hBg:¬ B4=g:=by omega
   clear e2 hI hY h1 h2 h3 hlen hin hs1 hnx hcb bM bD hb1 hb2 hbg hgg hlt cb0 hpl
   go_wp2_with fail
   refine wp_region_held_drew (S:=(fun w'=>w'.cell? ⟨B4,2,none⟩=some (.slice (some ⟨g,0,none⟩) f.pix.length gcap)∧w'.cell? ⟨w.heap.size,0,none⟩=some (.int .i64 f.W)∧w'.cell? ⟨bb,bo+k,none⟩=some (.int .i64 c))) (by kernel_rfl) ?_ (fun hHeld=>?_)
   ·exact ⟨q2,r0,cb⟩
   refine tk 0 61 ?_
   refine tk 1 62 ?_
   refine tk 2 63 ?_
   refine tk 3 64 ?_
   refine tk 4 65 ?_
   refine tk 5 66 ?_
   refine tk 6 67 ?_
   refine tk 7 68 ?_
   refine tk 8 69 ?_
   refine tk 9 70 ?_
   refine tk 10 71 ?_
   refine tk 11 72 ?_
   refine tk 12 73 ?_
   refine tk 13 74 ?_
   refine tk 14 75 ?_
   refine tk 15 76 ?_
   refine tk 16 77 ?_
   refine tk 17 78 ?_
   refine tk 18 79 ?_
   refine tk 19 80 ?_
   refine tk 20 81 ?_
   refine rdy (rdn 21 (fun K hK=>?_) .nil)
   go_simp
   refine hK.out _ _ ?_ (fun hHeld=>?_)
   ·exact ⟨hs2.cell q2 (by simp;omega),hs2.cell r0 (by simp;omega),hs2.cell cb (by simp;omega)⟩
   clear hK K
   try simp only [Act.put,List.setIfInBounds_toArray,List.set_cons_zero,List.set_cons_succ]
   refine wpAnyH_done (by kernel_rfl) ?_ _
   go_wp2_with fail
   exact ⟨⟨k+1,by have:=Hlt.out;omega,by go_num,lh (HS1.out.quiet (Only.refl _ _).drew),lh (HQk.out.trans HS2.out (fun _ h _=>h) (fun _ h _=>h)).drew⟩,by simp [intOf];have:=Hlt.out;omega⟩
  ·obtain rfl:k=16:=by omega
   have hki:¬ ((16:Nat):Int)<16:=by omega
   rw [HPe.out] at HOk
   have HR1:=lh (HQk.out.rowAt (HQ5.out.row HB1.out) (by rw [mSg];have:=Hg.out;omega))
   have HR2:=lh (HQk.out.rowAt (HQ5.out.row HB2.out) (by rw [mSg];have:=Hg.out;omega))
   obtain ⟨z0,z1,z2⟩:=frame_cells HR1.out
   have fz0:=frozen_of_row _ _ 0 _ _ HR1.out
   have fz1:=frozen_of_row _ _ 1 _ _ HR1.out
   have fz2:=frozen_of_row _ _ 2 _ _ HR1.out
   obtain ⟨y0,y1,y2,y3,-⟩:=row2 HR2.out
   obtain ⟨hrow1,hon1⟩:=row3_set (x:=.int .i64 f.W) (y:=.int .i64 f.H) (z:=(.slice (some ⟨g,0,none⟩) f.pix.length gcap)) HR1.out
   have hr2:=hon1.rowAt HR2.out (by simp)
   obtain ⟨hrow2,hon2⟩:=row2_set (x:=.int .i64 0) (y:=.slice none 0 0) hr2
   have hr1:=hon2.rowAt hrow1 (by simp)
   have HX1:=lh hr1
   have HX2:=lh hrow2
   have HXo1:=lh hon1
   have HXo2:=lh hon2
   obtain ⟨t0,t1,t2,t3,-⟩:=row2 hr2
   clear hrow1 hrow2 hon1 hon2 hr1 hr2 hlt
   go_wp2_with fail
   refine bodyPost_ret (results_cell_cell Tryz.results169 _ _ (w.heap.size+1) (w.heap.size+1+1) _ _ _ _ _ _ _ _ rfl rfl HX1.out HX2.out Tryz.underlying24 rfl (by kernel_rfl) Tryz.underlying39 rfl (err_info _ rfl)) rfl (HPost.out _ _ ⟨_,rfl,?_,?_⟩)
   ·exact ((HOk.out.only HXo1.out (fun x hx hh=>by rw [mSg] at hx;subst hx;simp only [Value.ownBlock] at hh;injection hh with hh;have:=Hg.out;omega)).only HXo2.out (fun x hx hh=>by rw [mSg] at hx;subst hx;simp only [Value.ownBlock] at hh;injection hh with hh;have:=Hg.out;omega)).lower (by have:=HQ3.out.size;have:=Hz1.out;omega)
   ·exact (((HQ1.out.q HQ5.out).trans HQk.out (U:=[]) (by simp) (fun x hx hlt=>by rw [mSg] at hx;have:=Hg.out;omega)).trans HXo1.out (U:=[]) (by simp) (fun x hx hlt=>by rw [mSg] at hx;omega)).trans HXo2.out (U:=[]) (by simp) (fun x hx hlt=>by rw [mSg] at hx;omega)
end
end Go.Proofs.YtmgbbgffkakcaaaGreatDoor
