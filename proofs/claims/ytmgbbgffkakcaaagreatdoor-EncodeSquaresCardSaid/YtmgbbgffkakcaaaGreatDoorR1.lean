/- Joined texts: DRBl, DSqK, DSqL, DSqO, DSqI, DSqA. Conditions: each part names its own. -/
import Derived.Test.YtmgbbgffkakcaaaGreatDoorT1
import Derived.Test.YtmgbbgffkakcaaaGreatDoorA1
import Derived.Test.YtmgbbgffkakcaaaGreatDoorC3
import Derived.Test.YtmgbbgffkakcaaaGreatDoorS4
import Derived.Test.YtmgbbgffkakcaaaGreatDoorK1
set_option maxRecDepth 100000
set_option maxHeartbeats 16000000
namespace Go.Proofs.YtmgbbgffkakcaaaGreatDoor
open Go.RowKit
set_option linter.unusedVariables false
set_option linter.unusedSimpArgs false
/-- the append of integers, in a drawn region -/
theorem wp_append_ints {P:Program} {w:World} {o:Oper} {a:Act} {K:Act→World→Prop} {Q:Exit→Act→World→Prop} (hgd:o.guard=none) (s x:Operand) (t:TypeId)
  (ho:o.op=.call { callee:=.builtin .append,args:=#[s,x],argTypes:=#[t,t] })
  {k:IntKind} {e:TypeId} {z:Value} {bytes base lo hi:Nat} {v sv:Value} {l m:List Int} (E:Elem P t e z 1 bytes)
  (hown:Own k e base w v l) (hv:a.eval s=v) (hs:Ints k lo hi w sv m) (hx:a.eval x=sv)
  (hbytes:(l.length+m.length)*bytes≤140737488355328) (hbase:base≤w.heap.size)
  (h:∀ v' w',Own k e base w' v' (l ++ m)→Acc v w v' w'→K (a.put o.dst v') w'):Oper.wp P o a w K Q:=by
 have h1:=step_append_ints (ops:=#[]) (Q:=Q) (E':=True) hgd s x t ho E hown hv hs hx hbytes hbase h
 rwa [if_pos (by simp [Region.wanted,hgd])] at h1
def blockK (f:FrameD) (x y vx vy:Int) (k:Nat):List Int:=(List.range k).map fun i:Nat=>halfD f (2*(x+((i % 8:Nat):Int))+vx) (2*(y+((i / 8:Nat):Int))+vy)
theorem blockK_len (f:FrameD) (x y vx vy:Int) (k:Nat):(blockK f x y vx vy k).length=k:=by simp [blockK]
theorem blockK_more (f:FrameD) (x y vx vy:Int) (k:Nat):blockK f x y vx vy (k+1)=blockK f x y vx vy k ++ [halfD f (2*(x+((k % 8:Nat):Int))+vx) (2*(y+((k / 8:Nat):Int))+vy)]:=by simp [blockK,List.range_succ]
theorem blockK_all (f:FrameD) (x y vx vy:Int):blockK f x y vx vy 64=blockD f x y 8 vx vy:=rfl
section
theorem kvmay_any (vx vy:Int) (w:World) (h:-15≤vx∧vx≤15) (g:-15≤vy∧vy≤15) :
  Calls Tryz.prog 153 #[.agg #[.int .i64 vx,.int .i64 vy]] w fun e w'=>e=.returned (.bool true)∧Only [] w w':=by
 have HQ:=lh (Only.new w (.cells #[.int .i64 vx,.int .i64 vy] 62))
 obtain ⟨h1,h2⟩:=h
 obtain ⟨g1,g2⟩:=g
 go_enter Tryz.func153,Tryz.ntmps153
 go_wp2_with fail
 go_ret
 exact ⟨ret_bool rfl,HQ.out⟩
theorem kblock_any {lo hi:Nat} {pv:Value} {w:World} {f:FrameD} (hok:FrOk f) (h:Ints .i64 lo hi w pv f.pix) (x y vx vy:Int) (hx:0≤x∧x≤32) (hy:0≤y∧y≤32) (hvx:-15≤vx∧vx≤15) (hvy:-15≤vy∧vy≤15) :
  Calls Tryz.prog 103 #[.agg #[.int .i64 f.W,.int .i64 f.H,pv],.int .i64 x,.int .i64 y,.int .i64 8,.agg #[.int .i64 vx,.int .i64 vy]] w fun e w'=>∃ v',e=.returned v'∧Own .i64 3 w.heap.size w' v' (blockD f x y 8 vx vy)∧Only [] w w':=by
 refine hidQ fun Q HPost=>?_
 obtain ⟨a,cap,rfl,-⟩:=h.open
 have hq2:Only [] w ((w.alloc (.cells #[.int .i64 f.W,.int .i64 f.H,.slice a f.pix.length cap] 24)).alloc (.cells #[.int .i64 vx,.int .i64 vy] 62)):=(Only.new w _).alloc _
 have HR1:Hid (((w.alloc (.cells #[.int .i64 f.W,.int .i64 f.H,.slice a f.pix.length cap] 24)).alloc (.cells #[.int .i64 vx,.int .i64 vy] 62)).heap[w.heap.size]?=some (.cells #[.int .i64 f.W,.int .i64 f.H,.slice a f.pix.length cap] 24 (0,0))):=lh ((Only.new (w.alloc _) _).row (heap_alloc_new w _))
 have HR2:Hid (((w.alloc (.cells #[.int .i64 f.W,.int .i64 f.H,.slice a f.pix.length cap] 24)).alloc (.cells #[.int .i64 vx,.int .i64 vy] 62)).heap[w.heap.size+1]?=some (.cells #[.int .i64 vx,.int .i64 vy] 62 (0,0))):=lh (heap_alloc_new' (by simp))
 have hz2:((w.alloc (.cells #[.int .i64 f.W,.int .i64 f.H,.slice a f.pix.length cap] 24)).alloc (.cells #[.int .i64 vx,.int .i64 vy] 62)).heap.size=w.heap.size+1+1:=by simp
 have HI:=lh (h.quiet hq2)
 have HQ2:=lh hq2
 have HZ2:=lh hz2
 have HM:=lh (fun (W:World) (o:Only [] ((w.alloc (.cells #[.int .i64 f.W,.int .i64 f.H,.slice a f.pix.length cap] 24)).alloc (.cells #[.int .i64 vx,.int .i64 vy] 62)) W)=>by have:=kmay_any f.W f.H (HI.out.quiet o);rw [show mayF ⟨f.W,f.H,f.pix⟩=true from mayF_iff.2 hok] at this;exact this)
 have HV:=lh (fun (W:World)=>kvmay_any vx vy W hvx hvy)
 have HH:=lh (fun (W:World) (o:Only [] ((w.alloc (.cells #[.int .i64 f.W,.int .i64 f.H,.slice a f.pix.length cap] 24)).alloc (.cells #[.int .i64 vx,.int .i64 vy] 62)) W) (px py:Int) (h1:-1000≤px∧px≤1000) (h2:-1000≤py∧py≤1000)=>khalf_any hok (HI.out.quiet o) px py h1 h2)
 have Hin:=lh (fun px py=>halfD_in hok.sam px py)
 have HB:=lh (blockK_all f x y vx vy)
 obtain ⟨hx0,hx1⟩:=hx
 obtain ⟨hy0,hy1⟩:=hy
 obtain ⟨vx0,vx1⟩:=hvx
 obtain ⟨vy0,vy1⟩:=hvy
 clear h hq2 hok hz2
 obtain ⟨r0,r1,r2⟩:=frame_cells HR1.out
 go_enter Tryz.func103,Tryz.ntmps103
 go_wp2_with fail
 generalize hW2:World.alloc (World.alloc w _) _=W2 at *
 clear hW2 r0 r1 r2
 go_at_call 66
 refine (HM.out W2 (Only.refl _ _)).mono ?_
 rintro e w3 ⟨rfl,hq3⟩
 obtain ⟨v0,v1,-⟩:=row2 (hq3.row HR2.out)
 have HQ3:=lh hq3
 clear hq3
 go_wp2_with fail
 go_at_call 153
 refine (HV.out w3).mono ?_
 rintro e w4 ⟨rfl,hq4⟩
 have HQ4:=lh (HQ3.out.q hq4)
 clear hq4 v0 v1
 go_wp2_with fail
 go_loopw [12,11] (fun i r wr=>∃ (k:Nat),k≤64∧i=.int .i64 k∧Hid (Own .i64 3 (w.heap.size+1+1) wr r (blockK f x y vx vy k))∧Hid (From (w.heap.size+1+1) r)∧Hid (Only [] W2 wr)) (fun i _ _=>64-(intOf i).toNat)
 case atStart=>exact ⟨0,by omega,rfl,lh (Own.nil _ _ _ _),lh (From.nil _),HQ4⟩
 case round =>
  obtain ⟨k,hk,rfl,HOk,HFk,HQk⟩:=hrel
  by_cases hlt:k<64
  ·have hki:(k:Int)<64:=by omega
   have hk0:(0:Int)≤(k:Int):=by omega
   have hw64:IntKind.i64.wrap (8*8)=64:=by decide
   have Hmore:=lh (blockK_more f x y vx vy k)
   have hlen:=blockK_len f x y vx vy k
   have eM:(k:Int).tmod 8=((k % 8:Nat):Int):=by rw [Int.tmod_eq_emod_of_nonneg hk0];rfl
   have eD:(k:Int).tdiv 8=((k / 8:Nat):Int):=by rw [Int.tdiv_eq_ediv_of_nonneg hk0];rfl
   have bM:(0:Int)≤((k % 8:Nat):Int)∧((k % 8:Nat):Int)≤7:=by omega
   have bD:(0:Int)≤((k / 8:Nat):Int)∧((k / 8:Nat):Int)≤7:=by omega
   generalize ((k % 8:Nat):Int)=M at *
   generalize ((k / 8:Nat):Int)=D at *
   have a1:IntKind.i64.wrap (x+M)=x+M:=by rw [IntKind.wrap_i64];omega
   have a2:IntKind.i64.wrap (2*(x+M))=2*(x+M):=by rw [IntKind.wrap_i64];omega
   have a3:IntKind.i64.wrap (2*(x+M)+vx)=2*(x+M)+vx:=by rw [IntKind.wrap_i64];omega
   have b0:IntKind.i64.wrap D=D:=by rw [IntKind.wrap_i64];omega
   have b1:IntKind.i64.wrap (y+D)=y+D:=by rw [IntKind.wrap_i64];omega
   have b2:IntKind.i64.wrap (2*(y+D))=2*(y+D):=by rw [IntKind.wrap_i64];omega
   have b3:IntKind.i64.wrap (2*(y+D)+vy)=2*(y+D)+vy:=by rw [IntKind.wrap_i64];omega
   have hcall:=fun W o=>HH.out W o (2*(x+M)+vx) (2*(y+D)+vy) (by omega) (by omega)
   have hin:=Hin.out (2*(x+M)+vx) (2*(y+D)+vy)
   have HC:=lh hcall
   clear hcall
   generalize halfD f (2*(x+M)+vx) (2*(y+D)+vy)=hv at *
   have hink:∀ z∈[hv],InK .i64 z:=by simp only [mSg,forall_eq,InK];omega
   have hsrc:=lh (fun (W:World)=>ints_newG (k:=.i64) (w:=W) (t:=3) (l:=[hv]) rfl (by simp [maxLen]) hink 1 rfl rfl)
   have hby:=lh (show ((blockK f x y vx vy k).length+[hv].length)*8≤140737488355328 by rw [hlen];simp;omega)
   have Hlen:Hid ((blockK f x y vx vy k ++ [hv]).length=k+1):=lh (by rw [List.length_append,hlen];rfl)
   obtain ⟨ra,rcap,rfl,-⟩:=HOk.out.ints.open
   rw [hlen] at HOk HFk ⊢
   obtain ⟨r0,r1,r2⟩:=frame_cells (HQk.out.row HR1.out)
   obtain ⟨v0,v1,-⟩:=row2 (HQk.out.row HR2.out)
   clear hlen hink hin bM bD
   go_wp2_with fail
   refine wp_region_held_drew (S:=(fun w'=>w'.cell? ⟨w.heap.size,0,none⟩=some (.int .i64 f.W)∧w'.cell? ⟨w.heap.size,1,none⟩=some (.int .i64 f.H)∧w'.cell? ⟨w.heap.size,2,none⟩=some (.slice a f.pix.length cap)∧w'.cell? ⟨w.heap.size+1,0,none⟩=some (.int .i64 vx)∧w'.cell? ⟨w.heap.size+1,1,none⟩=some (.int .i64 vy))) (by kernel_rfl) ?_ (fun hHeld=>?_)
   ·exact ⟨r0,r1,r2,v0,v1⟩
   refine tk 0 52 ?_
   refine tk 1 53 ?_
   refine tk 2 54 ?_
   refine tk 3 55 ?_
   refine tk 4 56 ?_
   refine tk 5 57 ?_
   refine tk 6 58 ?_
   refine tk 7 59 ?_
   refine tk 8 60 ?_
   refine tk 9 61 ?_
   refine tk 10 62 ?_
   refine tk 11 63 ?_
   refine tk 12 64 ?_
   refine tk 13 65 ?_
   refine tk 14 66 ?_
   refine tk 15 67 ?_
   refine tk 16 68 ?_
   refine tk 17 69 ?_
   refine tk 18 70 ?_
   refine tk 19 71 ?_
   refine rdy (rdc 20 72 (fun K hK=>?_) .nil)
   go_simp
   go_at_call 154
   refine (HC.out _ HQk.out.drew).mono ?_
   rintro e w5 ⟨rfl,hq5⟩
   have hd5:=(Only.refl [] wr).drew.q hq5
   have HQ5:=lh hd5
   have HO5:=lh (HOk.out.quiet hd5)
   have hba:=lh (show w.heap.size+1+1≤w5.heap.size by have:=HQk.out.size;have:=hd5.size;have:=HZ2.out;omega)
   have HFs:Hid (From W2.heap.size (Value.slice ra k rcap)):=lh (by rw [HZ2.out];exact HFk.out)
   clear hq5
   refine hK.out _ _ ?_ (fun hHeld=>?_)
   ·exact ⟨(hd5).cell r0 (by simp),(hd5).cell r1 (by simp),(hd5).cell r2 (by simp),(hd5).cell v0 (by simp),(hd5).cell v1 (by simp)⟩
   clear hK K
   try simp only [Act.put,List.setIfInBounds_toArray,List.set_cons_zero,List.set_cons_succ]
   refine rdy (rdc 21 73 (fun K hK=>?_) .nil)
   go_simp
   refine hK.out _ _ ?_ (fun hHeld=>?_)
   ·exact ⟨(hd5.q (Only.new w5 _)).cell r0 (by simp),(hd5.q (Only.new w5 _)).cell r1 (by simp),(hd5.q (Only.new w5 _)).cell r2 (by simp),(hd5.q (Only.new w5 _)).cell v0 (by simp),(hd5.q (Only.new w5 _)).cell v1 (by simp)⟩
   clear hK K
   try simp only [Act.put,List.setIfInBounds_toArray,List.set_cons_zero,List.set_cons_succ]
   refine rdy (rdc 22 74 (fun K hK=>?_) .nil)
   refine wp_append_ints rfl (.tmp 52) (.tmp 73) _ rfl EI (HO5.out.quiet (Only.new _ _)) rfl (hsrc.out _) rfl hby.out (Nat.le_trans hba.out (Only.new _ _).size) (fun v1 w6 hown1 ho1=>?_)
   obtain ⟨x1,x1cap,hx1,_⟩:=hown1.ints.open
   subst hx1
   rw [Hlen.out] at hown1 ho1 ⊢
   have HO1:=lh hown1
   have HA1:=lh ho1
   have hd6:=(HQk.out.q (HQ5.out.q (Only.new w5 _))).acc ho1 HFs.out
   clear hown1 ho1
   refine hK.out _ _ ?_ (fun hHeld=>?_)
   ·obtain ⟨r0,r1,r2⟩:=frame_cells (hd6.row HR1.out);obtain ⟨v0,v1,-⟩:=row2 (hd6.row HR2.out);exact ⟨r0,r1,r2,v0,v1⟩
   clear hK K
   try simp only [Act.put,List.setIfInBounds_toArray,List.set_cons_zero,List.set_cons_succ]
   refine tk 23 11 ?_
   refine wpAnyH_done (by kernel_rfl) ?_ _
   have HD6:=lh hd6
   clear hd6
   go_wp2_with fail
   refine ⟨⟨k+1,by omega,by go_num,lh ?_,lh (HA1.out.from_ HFk.out (Nat.le_trans hba.out (Only.new _ _).size)),HD6⟩,by simp [intOf];omega⟩
   rw [Hmore.out]
   exact HO1.out
  ·obtain rfl:k=64:=by omega
   have hki:¬ ((64:Nat):Int)<64:=by omega
   have hw64:IntKind.i64.wrap (8*8)=64:=by decide
   have hlen:=blockK_len f x y vx vy 64
   obtain ⟨ra,rcap,rfl,-⟩:=HOk.out.ints.open
   rw [hlen] at HOk HFk ⊢
   clear hlen
   go_wp2_with fail
   refine HPost.out _ _ ⟨_,rfl,?_,HQ2.out.q HQk.out⟩
   rw [← HB.out]
   exact HOk.out.lower (by omega)
end
end Go.Proofs.YtmgbbgffkakcaaaGreatDoor
/- A square that may be laid keeps a frame that may be. Conditions: the place lies in the frame. -/
namespace Go.Proofs.YtmgbbgffkakcaaaGreatDoor
set_option linter.unusedVariables false
theorem laySq_may {f prev:FrameD} (h:FrOk f) {s:SqD} (g:s.kind<2→SamOk prev.pix) {x y:Int} (hx:0≤x) (hxn:x+8≤f.W) (hy:0≤y) (hyn:y+8≤f.H) (hs:SqMay s) (qp:Int):FrOk (laySq f prev x y qp s):=by
 unfold laySq
 split
 ·rename_i h0
  exact layD_ok h hx hxn hy hyn (blockD_len _ _ _ _ _ _) (blockD_in (g (by omega)) _ _ _ _ _)
 rename_i h0
 split
 ·rename_i h1
  refine layD_ok h hx hxn hy hyn ?_ (addD_in _ _ _)
  rw [addD_len (by rw [blockD_len,(hs.large (.inl h1)).1]),blockD_len]
 rename_i h1
 split
 ·rename_i h2
  exact oneD_ok (n:=8) h hx hxn hy hyn (hs.large (.inr h2)).1 (by omega) _ _
 ·rename_i h2
  have h3:s.kind=3:=by have:=hs.kind;omega
  obtain ⟨a,b,c,d⟩:=hs.small h3
  have step:∀ (g:FrameD) (i:Nat),i<4→FrOk g→g.W=f.W→g.H=f.H→FrOk (smallD x y qp s g i)∧(smallD x y qp s g i).W=f.W∧(smallD x y qp s g i).H=f.H:=by
   intro g i hi hg hgw hgh
   refine ⟨(show FrOk (oneD g (x+((i % 2:Nat):Int)*4) (y+((i / 2:Nat):Int)*4) 4 (s.modes.getD i 0) qp (s.small.getD i [])) from oneD_ok hg (by omega) (by omega) (by omega) (by omega) ?_ (by omega) _ _),hgw,hgh⟩
   exact (d (s.small.getD i []) (by rw [List.getD_eq_getElem?_getD,List.getElem?_eq_getElem (by omega)];exact List.getElem_mem _)).1
  obtain ⟨h0,w0,e0⟩:=step f 0 (by omega) h rfl rfl
  obtain ⟨h1',w1,e1⟩:=step _ 1 (by omega) h0 w0 e0
  obtain ⟨h2',w2,e2⟩:=step _ 2 (by omega) h1' w1 e1
  exact (step _ 3 (by omega) h2' w2 e2).1
end Go.Proofs.YtmgbbgffkakcaaaGreatDoor
/- Plain laws for DecodeSquares: levels that are all 0 leave what is foretold, alike for each quantiser. Conditions: none. -/
namespace Go.Proofs.YtmgbbgffkakcaaaGreatDoor
set_option linter.unusedVariables false
theorem values_zero (n:Nat) (q:Int):valuesD (List.replicate n 0) q=List.replicate n 0:=by simp [valuesD]
/-- samples laid outside of a place leave it -/
theorem rowD_out {pix:List Int} {o:Nat} {row:List Int} {i:Nat} (ho:o+row.length≤pix.length) (hi:i<o∨o+row.length≤i):(rowD pix o row).getD i 0=pix.getD i 0:=by
 unfold rowD
 simp only [List.getD_eq_getElem?_getD]
 rcases hi with hi | hi
 ·rw [List.append_assoc,List.getElem?_append_left (by rw [List.length_take];omega),List.getElem?_take,if_pos hi]
 ·rw [List.getElem?_append_right (by simp;omega),List.getElem?_drop]
  congr 2
  simp
  omega
end Go.Proofs.YtmgbbgffkakcaaaGreatDoor
/- Plain laws for DecodeSquares: samples outside of a place stay. Conditions: the place lies in the plane. -/
namespace Go.Proofs.YtmgbbgffkakcaaaGreatDoor
set_option linter.unusedVariables false
theorem layP_out {W x y n j i:Nat} {b pix:List Int} (hx:x+n≤W) (hj:j<n) (hp:(y+n)*W≤pix.length) (hi:¬ (x≤i % W∧i % W<x+n∧y≤i / W∧i / W<y+n)) :
  (layP W x y n b pix j).getD i 0=pix.getD i 0∧(layP W x y n b pix j).length=pix.length:=by
 unfold layP
 have hc:((b.drop (j*n)).take n).length≤n:=by simp;omega
 have ho:(((y:Int)+(j:Int))*(W:Int)+(x:Int)).toNat=(y+j)*W+x:=by
  rw [← Int.natCast_add,← Int.natCast_mul,← Int.natCast_add];exact Int.toNat_natCast _
 rw [ho]
 have e:(y+j+1)*W=(y+j)*W+W:=Nat.succ_mul _ _
 have hb:(y+j)*W+x+n≤pix.length:=by
  have:(y+j+1)*W≤(y+n)*W:=Nat.mul_le_mul_right _ (by omega)
  omega
 generalize (b.drop (j*n)).take n=row at *
 refine ⟨rowD_out (by omega) ?_,by unfold rowD;simp;omega⟩
 by_cases h1:i<(y+j)*W+x
 ·exact .inl h1
 ·right
  by_cases h2:i<(y+j)*W+x+n
  ·exfalso
   apply hi
   have hdiv:i / W=y+j:=Nat.div_eq_of_lt_le (by omega) (by rw [e];omega)
   have hmod:=Nat.div_add_mod i W
   rw [hdiv,Nat.mul_comm] at hmod
   rw [hdiv]
   omega
  ·omega
theorem layF_out {W x y n i:Nat} {b:List Int} (hx:x+n≤W) (hi:¬ (x≤i % W∧i % W<x+n∧y≤i / W∧i / W<y+n)):∀ (k:Nat) {pix:List Int},k≤n→(y+n)*W≤pix.length →
  ((List.range k).foldl (layP W x y n b) pix).getD i 0=pix.getD i 0∧((List.range k).foldl (layP W x y n b) pix).length=pix.length
 | 0,pix,_,_=>⟨rfl,rfl⟩
 | k+1,pix,hk,hp=>by
  obtain ⟨a,c⟩:=layF_out hx hi k (pix:=pix) (by omega) hp
  rw [List.range_succ,List.foldl_append]
  obtain ⟨d,e⟩:=layP_out (b:=b) (pix:=(List.range k).foldl (layP W x y n b) pix) (j:=k) hx (by omega) (by rw [c];exact hp) hi
  exact ⟨d.trans a,e.trans c⟩
theorem layD_out {f:FrameD} {W x y n i:Nat} {b:List Int} (hW:f.W=(W:Int)) (hx:x+n≤W) (hp:(y+n)*W≤f.pix.length) (hi:¬ (x≤i % W∧i % W<x+n∧y≤i / W∧i / W<y+n)) :
  (layD f x y n b).pix.getD i 0=f.pix.getD i 0∧(layD f x y n b).pix.length=f.pix.length∧(layD f x y n b).W=f.W∧(layD f x y n b).H=f.H:=by
 obtain ⟨a,c⟩:=layF_out (b:=b) hx hi n (Nat.le_refl _) hp
 refine ⟨?_,?_,rfl,rfl⟩
 ·show ((List.range n).foldl (layP f.W x y n b) f.pix).getD i 0=_
  rw [hW]
  exact a
 ·show ((List.range n).foldl (layP f.W x y n b) f.pix).length=_
  rw [hW]
  exact c
theorem small_out {f:FrameD} {W x y i k:Nat} {q:Int} {s:SqD} (hk:k<4) (hW:f.W=(W:Int)) (hx:x+8≤W) (hp:(y+8)*W≤f.pix.length) (hi:¬ (x≤i % W∧i % W<x+8∧y≤i / W∧i / W<y+8)) :
  (smallD x y q s f k).pix.getD i 0=f.pix.getD i 0∧(smallD x y q s f k).pix.length=f.pix.length∧(smallD x y q s f k).W=f.W∧(smallD x y q s f k).H=f.H:=by
 have ex:((x:Int)+((k % 2:Nat):Int)*4)=((x+k % 2*4:Nat):Int):=by omega
 have ey:((y:Int)+((k / 2:Nat):Int)*4)=((y+k / 2*4:Nat):Int):=by omega
 unfold smallD oneD
 rw [ex,ey]
 have hle:(y+k / 2*4+4)*W≤(y+8)*W:=Nat.mul_le_mul_right _ (by omega)
 exact layD_out hW (by omega) (by omega) (by omega)
theorem laySq_out {f p:FrameD} {W x y i:Nat} {q:Int} {s:SqD} (hW:f.W=(W:Int)) (hx:x+8≤W) (hp:(y+8)*W≤f.pix.length) (hi:¬ (x≤i % W∧i % W<x+8∧y≤i / W∧i / W<y+8)) :
  (laySq f p x y q s).pix.getD i 0=f.pix.getD i 0:=by
 unfold laySq
 split
 ·exact (layD_out hW hx hp hi).1
 ·split
  ·exact (layD_out hW hx hp hi).1
  ·split
   ·unfold oneD
    exact (layD_out hW hx hp hi).1
   ·simp only [List.range_succ,List.range_zero,List.foldl_append,List.foldl_cons,List.foldl_nil,List.nil_append]
    obtain ⟨a0,b0,c0,d0⟩:=small_out (q:=q) (s:=s) (k:=0) (by omega) hW hx hp hi
    obtain ⟨a1,b1,c1,d1⟩:=small_out (f:=smallD x y q s f 0) (q:=q) (s:=s) (k:=1) (by omega) (c0.trans hW) hx (by rw [b0];exact hp) hi
    obtain ⟨a2,b2,c2,d2⟩:=small_out (f:=smallD x y q s (smallD x y q s f 0) 1) (q:=q) (s:=s) (k:=2) (by omega) (c1.trans (c0.trans hW)) hx (by rw [b1,b0];exact hp) hi
    obtain ⟨a3,b3,c3,d3⟩:=small_out (f:=smallD x y q s (smallD x y q s (smallD x y q s f 0) 1) 2) (q:=q) (s:=s) (k:=3) (by omega) (c2.trans (c1.trans (c0.trans hW))) hx (by rw [b2,b1,b0];exact hp) hi
    exact a3.trans (a2.trans (a1.trans a0))
end Go.Proofs.YtmgbbgffkakcaaaGreatDoor
/- Plain laws for DecodeSquares: samples inside of a place are the block's. Conditions: the place lies in the plane. -/
namespace Go.Proofs.YtmgbbgffkakcaaaGreatDoor
set_option linter.unusedVariables false
theorem rowD_at {pix:List Int} {o:Nat} {row:List Int} {i:Nat} (ho:o+row.length≤pix.length) (h1:o≤i) (h2:i<o+row.length):(rowD pix o row).getD i 0=row.getD (i-o) 0:=by
 unfold rowD
 simp only [List.getD_eq_getElem?_getD]
 have hl:(pix.take o).length=o:=by rw [List.length_take];omega
 rw [List.append_assoc,List.getElem?_append_right (by omega),hl,List.getElem?_append_left (by omega)]
theorem layP_at {W x y n j i:Nat} {b pix:List Int} (hW:0<W) (hx:x+n≤W) (hj:j<n) (hp:(y+n)*W≤pix.length) (hn:((b.drop (j*n)).take n).length=n) (hi:x≤i % W∧i % W<x+n) :
  (layP W x y n b pix j).length=pix.length∧(i / W=y+j→(layP W x y n b pix j).getD i 0=((b.drop (j*n)).take n).getD (i % W-x) 0)∧(i / W≠y+j→(layP W x y n b pix j).getD i 0=pix.getD i 0):=by
 unfold layP
 have ho:(((y:Int)+(j:Int))*(W:Int)+(x:Int)).toNat=(y+j)*W+x:=by
  rw [← Int.natCast_add,← Int.natCast_mul,← Int.natCast_add];exact Int.toNat_natCast _
 rw [ho]
 have e:(y+j+1)*W=(y+j)*W+W:=Nat.succ_mul _ _
 have hb:(y+j)*W+x+n≤pix.length:=by
  have:(y+j+1)*W≤(y+n)*W:=Nat.mul_le_mul_right _ (by omega)
  omega
 generalize (b.drop (j*n)).take n=row at *
 refine ⟨by unfold rowD;simp;omega,fun h=>?_,fun h=>?_⟩
 ·have hmod:=Nat.div_add_mod i W
  rw [h,Nat.mul_comm] at hmod
  rw [rowD_at (by omega) (by omega) (by omega)]
  congr 1
  omega
 ·apply rowD_out (by omega)
  by_cases h1:i<(y+j)*W+x
  ·exact .inl h1
  ·right
   by_cases h2:i<(y+j)*W+x+n
   ·exact absurd (Nat.div_eq_of_lt_le (by omega) (by rw [e];omega)) h
   ·omega
theorem layF_in {W x y n i:Nat} {b:List Int} (hW:0<W) (hx:x+n≤W) (hn:∀ j,j<n→((b.drop (j*n)).take n).length=n) (hi:x≤i % W∧i % W<x+n) (hy:y≤i / W):∀ (k:Nat) {pix:List Int},k≤n→(y+n)*W≤pix.length →
  ((List.range k).foldl (layP W x y n b) pix).length=pix.length∧(i / W<y+k→((List.range k).foldl (layP W x y n b) pix).getD i 0=((b.drop ((i / W-y)*n)).take n).getD (i % W-x) 0)
 | 0,pix,_,_=>⟨rfl,fun h=>by omega⟩
 | k+1,pix,hk,hp=>by
  obtain ⟨a,c⟩:=layF_in hW hx hn hi hy k (pix:=pix) (by omega) hp
  rw [List.range_succ,List.foldl_append]
  obtain ⟨d,e,g⟩:=layP_at (b:=b) (pix:=(List.range k).foldl (layP W x y n b) pix) (j:=k) hW hx (by omega) (by rw [a];exact hp) (hn k (by omega)) hi
  refine ⟨d.trans a,fun h=>?_⟩
  by_cases hr:i / W=y+k
  ·refine (e hr).trans ?_
   rw [hr,Nat.add_sub_cancel_left]
  ·exact (g hr).trans (c (by omega))
end Go.Proofs.YtmgbbgffkakcaaaGreatDoor
/- Plain law for DecodeSquares: a square as the frame ahead has it is that one's. Conditions: the place lies in both planes. -/
namespace Go.Proofs.YtmgbbgffkakcaaaGreatDoor
set_option linter.unusedVariables false
theorem chunk_flatMap {α β:Type} (g:α→List β) (k:Nat):∀ (l:List α) (j:Nat) (hj:j<l.length),(∀ x∈l,(g x).length=k)→((l.flatMap g).drop (j*k)).take k=g l[j]
 | a :: l,0,_,h=>by
  rw [Nat.zero_mul,List.drop_zero,List.flatMap_cons]
  exact List.take_left' (h a List.mem_cons_self)
 | a :: l,j+1,hj,h=>by
  have e:(j+1)*k=(g a).length+j*k:=by rw [h a List.mem_cons_self,Nat.succ_mul,Nat.add_comm]
  rw [e,List.flatMap_cons,List.drop_append,List.drop_eq_nil_of_le (by omega),List.nil_append,Nat.add_sub_cancel_left]
  exact chunk_flatMap g k l j (by simpa using hj) (fun x hx=>h x (List.mem_cons_of_mem _ hx))
end Go.Proofs.YtmgbbgffkakcaaaGreatDoor
