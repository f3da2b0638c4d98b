/- Joined texts: DRkL, DRkG. Conditions: each part names its own. -/
import Derived.Test.YtmgbbgffkakcaaaGreatDoorT1
import Derived.Test.YtmgbbgffkakcaaaGreatDoorR2
import Derived.Test.YtmgbbgffkakcaaaGreatDoorA2
import Derived.Test.YtmgbbgffkakcaaaGreatDoorW5
import Derived.Test.YtmgbbgffkakcaaaGreatDoorC1
import Derived.Deep.DeepCutAuto
import Derived.Test.YtmgbbgffkakcaaaGreatDoorW7
import Derived.Test.YtmgbbgffkakcaaaGreatDoorA1
namespace Go.Proofs.YtmgbbgffkakcaaaGreatDoor
open Go.RowKit
set_option linter.unusedVariables false
set_option linter.unusedSimpArgs false
set_option maxRecDepth 100000
set_option maxHeartbeats 16000000
section
theorem qDRkL0 {p:Prop} (h:p:=by
 exact ⟨hon.cell e0 (by rw [mSg];exact hne),hon.cell e1 (by rw [mSg];exact hne)⟩):p:=h
theorem klevel_any (c:Int) (n:Nat) (hn:n≤15) (hc:-16777216≤c∧c≤16777216) (w:World):Calls Tryz.prog 200 #[.int .i64 c,.int .i64 n] w fun e w'=>(e=.returned (.tuple #[.int .i64 (levD n c),.agg #[.int .i64 0,.slice none 0 0]])∧Only [] w w'):=by
 refine hidQ fun Q HPost=>?_
 have hs:=stepD_pos hn
 have HL:Hid (levD n c=if c<0 then -((stepD n / 2-c) / stepD n) else (c+stepD n / 2) / stepD n):=lh rfl
 have hq1:=Only.new w (.cells #[.int .i64 0,.slice none 0 0] 39)
 have HR1:Hid ((w.alloc (.cells #[.int .i64 0,.slice none 0 0] 39)).heap[w.heap.size]?=some (.cells #[.int .i64 0,.slice none 0 0] 39 (0,0))):=lh (heap_alloc_new w _)
 have HQ1:=lh hq1
 have HS:=lh (fun W=>kstep_any n hn W)
 clear hq1 hn
 generalize stepD n=s at *
 generalize levD n c=R at *
 obtain ⟨s0,s1⟩:=hs
 obtain ⟨c0,c1⟩:=hc
 have n1:¬ c < -16777216:=by omega
 have n2:¬ (16777216:Int)<c:=by omega
 go_enter Tryz.func200,Tryz.ntmps200
 go_wp2_with fail
 have Hz1:Hid ((w.alloc (.cells #[.int .i64 0,.slice none 0 0] 39)).heap.size=w.heap.size+1):=lh (by simp)
 generalize hW1:World.alloc w _=W1 at *
 clear hW1
 go_at_call 199
 refine (HS.out W1).mono ?_
 rintro e w2 ⟨rfl,hq2⟩
 have hq3:=hq2.q (Only.new w2 (.cells #[.int .i64 0,.slice none 0 0] 39))
 have HR2:Hid ((w2.alloc (.cells #[.int .i64 0,.slice none 0 0] 39)).heap[w2.heap.size]?=some (.cells #[.int .i64 0,.slice none 0 0] 39 (0,0))):=lh (heap_alloc_new w2 _)
 have HR1:=lh (hq3.row HR1.out)
 have HQ3:=lh (HQ1.out.q hq3)
 have Hne:Hid (¬ w2.heap.size=w.heap.size):=lh (by have:=hq2.size;have:=Hz1.out;omega)
 clear hq2 hq3
 go_wp2_with fail
 generalize hW3:World.alloc w2 _=W3 at *
 clear hW3
 obtain ⟨B2,hB2⟩:∃ z,z=w2.heap.size:=⟨_,rfl⟩
 rw [← hB2] at HR2 Hne ⊢
 clear hB2
 go_at_call 46
 refine (kok_any _ _ _).mono ?_
 rintro e w4 ⟨rfl,hq4⟩
 have HQ4:=lh (HQ3.out.q hq4)
 have HR24:=lh (hq4.row HR2.out)
 have HR14:=lh (hq4.row HR1.out)
 obtain ⟨e0,e1,-⟩:=row2 HR24.out
 obtain ⟨z0,z1,y0,y1,-⟩:=row2 HR14.out
 clear hq4
 obtain ⟨hrow,hon⟩:=row2_set (x:=.int .i64 0) (y:=.slice none 0 0) HR14.out
 have hne:=Hne.out
 have hall:=(HQ4.out.trans hon (U:=[]) (by simp) (fun g hg hlt=>by rw [mSg] at hg;omega))
 have t1:s.tdiv 2=s / 2:=Int.tdiv_eq_ediv_of_nonneg (by omega)
 have n3:¬ s=0:=by omega
 obtain ⟨h2,hh2⟩:∃ z,z=s / 2:=⟨_,rfl⟩
 rw [← hh2] at t1 HL
 have b2:0≤h2∧h2≤192:=by omega
 clear hh2
 obtain ⟨b0,b1⟩:=b2
 have a0:IntKind.i64.wrap h2=h2:=by rw [IntKind.wrap_i64];omega
 by_cases hneg:c<0
 ·rw [if_pos hneg] at HL
  have hsw:-c+h2=h2-c:=by omega
  have t2:(-c+h2).tdiv s=(h2-c) / s:=by rw [hsw];exact Int.tdiv_eq_ediv_of_nonneg (by omega)
  have hb:=div_in (a:=h2-c) (s:=s) (by omega) (by omega) s0
  have HB:=lh hb
  have a4:IntKind.i64.wrap (-c)=-c:=by rw [IntKind.wrap_i64];omega
  have a1:IntKind.i64.wrap (-c+h2)=-c+h2:=by rw [IntKind.wrap_i64];omega
  generalize (h2-c) / s=q at *
  have a2:IntKind.i64.wrap q=q:=by rw [IntKind.wrap_i64];have:=HB.out;omega
  have a3:IntKind.i64.wrap (-q)=-q:=by rw [IntKind.wrap_i64];have:=HB.out;omega
  clear hb hsw
  go_upto_region 5 with (fail)
  refine wp_region_held_drew (S:=(fun w'=>w'.cell? ⟨B2,0,none⟩=some (.int .i64 0)∧w'.cell? ⟨B2,1,none⟩=some (.slice none 0 0))) (by kernel_rfl) ?_ (fun hHeld=>?_)
  ·exact ⟨e0,e1⟩
  refine tk 0 27 ?_
  refine tk 1 28 ?_
  refine tk 2 29 ?_
  refine tk 3 30 ?_
  refine tk 4 31 ?_
  refine tk 5 32 ?_
  refine tk 6 33 ?_
  refine tk 7 34 ?_
  refine tk 8 35 ?_
  refine tk 9 4 ?_
  refine rdy (rdn 10 (fun K hK=>?_) .nil)
  go_simp
  refine hK.out _ _ ?_ (fun hHeld=>?_)
  ·exact qDRkL0
  clear hK K
  try simp only [Act.put,List.setIfInBounds_toArray,List.set_cons_zero,List.set_cons_succ]
  refine wpAnyH_done (by kernel_rfl) ?_ _
  go_wp2_with fail
  exact bodyPost_ret (v:=.tuple #[.int .i64 (-q),.agg #[.int .i64 0,.slice none 0 0]]) (results_tmp_cell Tryz.results200 _ _ w.heap.size _ _ _ _ _ rfl rfl hrow Tryz.underlying39 rfl (err_info _ rfl)) rfl (HPost.out _ _ ⟨by rw [HL.out],hall.drew⟩)
 ·rw [if_neg hneg] at HL
  have t2:(c+h2).tdiv s=(c+h2) / s:=Int.tdiv_eq_ediv_of_nonneg (by omega)
  have hb:=div_in (a:=c+h2) (s:=s) (by omega) (by omega) s0
  have HB:=lh hb
  have a1:IntKind.i64.wrap (c+h2)=c+h2:=by rw [IntKind.wrap_i64];omega
  generalize (c+h2) / s=q at *
  have a2:IntKind.i64.wrap q=q:=by rw [IntKind.wrap_i64];have:=HB.out;omega
  clear hb
  go_upto_region 6 with (fail)
  refine wp_region_held_drew (S:=(fun w'=>w'.cell? ⟨B2,0,none⟩=some (.int .i64 0)∧w'.cell? ⟨B2,1,none⟩=some (.slice none 0 0))) (by kernel_rfl) ?_ (fun hHeld=>?_)
  ·exact ⟨e0,e1⟩
  refine tk 0 36 ?_
  refine tk 1 37 ?_
  refine tk 2 38 ?_
  refine tk 3 39 ?_
  refine tk 4 40 ?_
  refine tk 5 41 ?_
  refine tk 6 42 ?_
  refine tk 7 4 ?_
  refine rdy (rdn 8 (fun K hK=>?_) .nil)
  go_simp
  refine hK.out _ _ ?_ (fun hHeld=>?_)
  ·exact qDRkL0
  clear hK K
  try simp only [Act.put,List.setIfInBounds_toArray,List.set_cons_zero,List.set_cons_succ]
  refine wpAnyH_done (by kernel_rfl) ?_ _
  go_wp2_with fail
  exact bodyPost_ret (v:=.tuple #[.int .i64 (q),.agg #[.int .i64 0,.slice none 0 0]]) (results_tmp_cell Tryz.results200 _ _ w.heap.size _ _ _ _ _ rfl rfl hrow Tryz.underlying39 rfl (err_info _ rfl)) rfl (HPost.out _ _ ⟨by rw [HL.out],hall.drew⟩)
theorem klevels_any {lo hi:Nat} {v:Value} {l:List Int} {w:World} (h:Ints .i64 lo hi w v l) (hl:l.length≤64) (hlev:∀ x∈l,-16777216≤x∧x≤16777216) (n:Nat) (hn:n≤15):Calls Tryz.prog 152 #[v,.int .i64 n] w fun e w'=>((∃ v',e=.returned (.tuple #[v',.agg #[.int .i64 0,.slice none 0 0]])∧Own .i64 3 w.heap.size w' v' (l.map (levD n)))∧Only [] w w'):=by
 refine hidQ fun Q HPost=>?_
 obtain ⟨la,lcap,rfl,-,-,hat,hcell⟩:=h.open
 have Hat:=lh hat
 have Hcell:=lh hcell
 have hq1:=Only.new w (.cells #[.int .i64 0,.slice none 0 0] 39)
 have HR1:Hid ((w.alloc (.cells #[.int .i64 0,.slice none 0 0] 39)).heap[w.heap.size]?=some (.cells #[.int .i64 0,.slice none 0 0] 39 (0,0))):=lh (heap_alloc_new w _)
 have Hz1:Hid ((w.alloc (.cells #[.int .i64 0,.slice none 0 0] 39)).heap.size=w.heap.size+1):=lh (by simp)
 have HQ1:=lh hq1
 have HS:=lh (fun W=>kstep_any n hn W)
 have HV:=lh (fun (x:Int) (hx:-16777216≤x∧x≤16777216) (W:World)=>klevel_any x n hn hx W)
 have HLb:=lh (fun (x:Int) (hx:-16777216≤x∧x≤16777216)=>levD_in hn hx)
 have HD:Hid (l.map (levD n)=l.map (levD n)):=lh rfl
 obtain ⟨LD,hLD⟩:∃ z:Int→Int,z=levD n:=⟨_,rfl⟩
 rw [← hLD] at HV HD HLb HPost
 clear hLD
 have Hlev:=lh hlev
 clear h hat hcell hq1 hn hlev HD
 generalize stepD n=st at *
 go_enter Tryz.func152,Tryz.ntmps152
 go_wp2_with fail
 generalize hW1:World.alloc w _=W1 at *
 clear hW1
 go_at_call 199
 refine (HS.out W1).mono ?_
 rintro e w2 ⟨rfl,hq2⟩
 have hq3:=hq2.q (Only.new w2 (.cells #[.int .i64 0,.slice none 0 0] 39))
 have HR3:Hid ((w2.alloc (.cells #[.int .i64 0,.slice none 0 0] 39)).heap[w2.heap.size]?=some (.cells #[.int .i64 0,.slice none 0 0] 39 (0,0))):=lh (heap_alloc_new w2 _)
 have HE3:=lh (hq3.row HR1.out)
 have HQ3:=lh (HQ1.out.q hq3)
 have Hz3:Hid (w.heap.size<w2.heap.size∧(w2.alloc (.cells #[.int .i64 0,.slice none 0 0] 39)).heap.size=w2.heap.size+1):=lh ⟨by have:=hq2.size;have:=Hz1.out;omega,by simp⟩
 clear hq2 hq3 HQ1 HR1 Hz1
 go_wp2_with fail
 generalize hW3:World.alloc w2 _=W3 at *
 clear hW3
 generalize w2.heap.size=B at *
 go_loopw [9,8,10,11] (fun i y _ _ wr=>∃ k:Nat,k≤l.length∧i=.int .i64 k∧Hid (Own .i64 3 W3.heap.size wr y ((l.take k).map LD))∧Hid (From W3.heap.size y)∧Hid (Only [] w wr)∧Hid (W3.heap.size≤wr.heap.size)∧Hid (wr.heap[B]?=some (.cells #[.int .i64 0,.slice none 0 0] 39 (0,0)))∧Hid (wr.heap[w.heap.size]?=some (.cells #[.int .i64 0,.slice none 0 0] 39 (0,0)))) (fun i _ _ _ _=>l.length-(intOf i).toNat)
 case atStart=>exact ⟨0,by omega,rfl,lh (Own.nil _ _ _ _),lh (From.nil _),HQ3,lh (Nat.le_refl _),HR3,HE3⟩
 case round =>
  obtain ⟨k,hk,rfl,HOk,HFk,HQk,HZk,HBk,HEk⟩:=hrel
  obtain ⟨e0,e1,-⟩:=row2 HBk.out
  by_cases hlt:k<l.length
  ·have hki:(k:Int)<(l.length:Int):=by omega
   have hk0:(0:Int)≤(k:Int):=by omega
   obtain ⟨b,off,rfl,_,_⟩:=Hat.out k hlt
   have hx:-16777216≤l.getD k 0∧l.getD k 0≤16777216:=Hlev.out _ (by rw [List.getD_eq_getElem?_getD,List.getElem?_eq_getElem hlt];exact List.getElem_mem _)
   have Htake:Hid ((l.take (k+1)).map LD=(l.take k).map LD ++ [LD (l.getD k 0)]):=lh (by
    rw [List.take_succ_eq_append_getElem hlt,List.map_append,List.getD_eq_getElem?_getD,List.getElem?_eq_getElem hlt];rfl)
   have Hc:=lh (Hcell.out b off rfl k hlt)
   generalize l.getD k 0=x at *
   have hxs:=HLb.out x hx
   simp only [InK] at hxs
   have HVx:=lh (HV.out x hx)
   obtain ⟨y0x,hy0⟩:∃ z,z=LD x:=⟨_,rfl⟩
   rw [← hy0] at Htake HVx hxs
   clear hy0
   have hin:∀ y∈[y0x],InK .i64 y:=by simp only [mSg,forall_eq,InK];omega
   have hsrc:=lh (fun (W:World)=>ints_newG (k:=.i64) (w:=W) (t:=3) (l:=[y0x]) rfl (by simp [maxLen]) hin 1 rfl rfl)
   have hby:=lh (show (((l.take k).map LD).length+[y0x].length)*8≤140737488355328 by simp;omega)
   have Hlen:=lh (show (((l.take k).map LD) ++ [y0x]).length=k+1 by simp;omega)
   obtain ⟨ra,rcap,rfl,-⟩:=HOk.out.ints.open
   have hlk:((l.take k).map LD).length=k:=by simp;omega
   rw [hlk] at HOk HFk ⊢
   have Hx:=lh hx
   clear hin hlk hx hxs
   go_wp2_with fail
   go_at_call 46
   refine (kok_any _ _ _).mono ?_
   rintro e w4 ⟨rfl,hq4⟩
   have hc:=(HQk.out.q hq4).cell Hc.out (by simp)
   have Hq4:=lh hq4
   clear hq4 e0 e1
   go_wp2_with fail
   go_at_call 200
   refine (HVx.out _).mono ?_
   rintro e w5 ⟨rfl,hq5⟩
   have hq45:=Hq4.out.q hq5
   have HQ5:=lh (HQk.out.q hq45)
   have HO5:=lh (HOk.out.quiet hq45)
   have hn5:=(Only.new w5 (.cells #[.int .i64 0,.slice none 0 0] 39)).q (Only.new _ (.cells #[.int .i64 (y0x)] 3))
   have HB5:=lh ((hq45.q hn5).row HBk.out)
   have HE5:=lh ((hq45.q hn5).row HEk.out)
   have H11:=lh ((Only.new (w5.alloc (.cells #[.int .i64 0,.slice none 0 0] 39)) (.cells #[.int .i64 (y0x)] 3)).row (heap_alloc_new w5 (.cells #[.int .i64 0,.slice none 0 0] 39)))
   have Hnb:Hid (¬ w5.heap.size∈(Value.slice ra k rcap).ownBlock.toList):=lh (fun hm=>by have:=(HO5.out.at w5.heap.size (by simpa using hm)).2;omega)
   have HBlt:Hid (B<W3.heap.size):=lh (by have:=Hz3.out;omega)
   have HElt:Hid (w.heap.size<W3.heap.size):=lh (by have:=Hz3.out;omega)
   have HN5:=lh hn5
   have hba:=lh (show W3.heap.size≤((w5.alloc (.cells #[.int .i64 0,.slice none 0 0] 39)).alloc (.cells #[.int .i64 (y0x)] 3)).heap.size by have:=HZk.out;have:=hq45.size;have:=hn5.size;omega)
   have hsrc5:=hsrc.out (w5.alloc (.cells #[.int .i64 0,.slice none 0 0] 39))
   rw [World.size_alloc] at hsrc5
   have Hsrc5:=lh hsrc5
   clear hq5 hq45 hc hn5 hsrc5
   go_wp2_with (first
    | (at_builtin;refine wpList_append_ints rfl (.tmp 36) (.tmp 38) _ rfl EI (HO5.out.quiet ((Only.new w5 (.cells #[.int .i64 0,.slice none 0 0] 39)).q (Only.new _ _))) rfl Hsrc5.out rfl hby.out hba.out (fun v1 w6 hown1 ho1=>?_);obtain ⟨x1,x1cap,hx1,_⟩:=hown1.ints.open;subst hx1;rw [Hlen.out] at hown1 ho1 ⊢;have HO1:=lh hown1;have HA1:=lh ho1;have hr11:=ho1.only.rowAt H11.out Hnb.out;have hr7:=ho1.row HFk.out HB5.out HBlt.out;have hre:=ho1.row HFk.out HE5.out HElt.out;have HB6:=lh hr7;have HE6:=lh hre;obtain ⟨q0,q1,-⟩:=row2 hr11;obtain ⟨n0,n1,m0,m1,-⟩:=row2 hr7;clear hown1 ho1 hr11 hr7 hre)
    | fail)
   obtain ⟨hrow,hon⟩:=row2_set (x:=.int .i64 0) (y:=.slice none 0 0) HB6.out
   have hfr:=HA1.out.from_ HFk.out hba.out
   have hz6:=HA1.out.only.size
   refine ⟨⟨k+1,by omega,by go_num,lh ?_,lh hfr,lh ?_,lh ?_,lh hrow,lh (hon.rowAt HE6.out (by rw [mSg];have:=Hz3.out;omega))⟩,by simp [intOf];omega⟩
   ·rw [Htake.out]
    exact HO1.out.only hon (fun g hg hh=>by rw [mSg] at hg;subst hg;have:=hfr _ hh;have:=HBlt.out;omega)
   ·exact ((HQ5.out.q HN5.out).trans HA1.out.only (U:=[]) (by simp) (fun g hg hlt=>by have:=HFk.out g (by simpa using hg);have:=HElt.out;omega)).trans hon (U:=[]) (by simp) (fun g hg hlt=>by rw [mSg] at hg;have:=Hz3.out;omega)
   ·exact Nat.le_trans (Nat.le_trans hba.out hz6) hon.size
  ·obtain rfl:k=l.length:=by omega
   have hki:¬ (l.length:Int)<(l.length:Int):=by omega
   rw [List.take_length] at HOk
   go_wp2_with fail
   go_at_call 46
   refine (kok_any _ _ _).mono ?_
   rintro e w4 ⟨rfl,hq4⟩
   have HO4:=lh (HOk.out.quiet hq4)
   have HQ4:=lh (HQk.out.q hq4)
   have HE4:=lh (hq4.row HEk.out)
   have HB4:=lh (hq4.row HBk.out)
   clear hq4 e0 e1
   obtain ⟨e0,e1,-⟩:=row2 HB4.out
   go_wp2_with fail
   go_at_call 46
   refine (kok_any _ _ _).mono ?_
   rintro e w5 ⟨rfl,hq5⟩
   have HO5:=lh (HO4.out.quiet hq5)
   have HQ5:=lh (HQ4.out.q hq5)
   have HE5:=lh (hq5.row HE4.out)
   have HB5:=lh (hq5.row HB4.out)
   clear hq5 e0 e1
   obtain ⟨e0,e1,-⟩:=row2 HB5.out
   obtain ⟨z0,z1,y0,y1,-⟩:=row2 HE5.out
   go_wp2_with fail
   obtain ⟨hrow,hon⟩:=row2_set (x:=.int .i64 0) (y:=.slice none 0 0) HE5.out
   have hne:¬ B=w.heap.size:=by have:=Hz3.out;omega
   have hall:=(HQ5.out.trans hon (U:=[]) (by simp) (fun g hg hlt=>by rw [mSg] at hg;omega))
   refine wp_region_held_drew (S:=(fun w'=>w'.cell? ⟨B,0,none⟩=some (.int .i64 0)∧w'.cell? ⟨B,1,none⟩=some (.slice none 0 0))) (by kernel_rfl) ?_ (fun hHeld=>?_)
   ·exact ⟨e0,e1⟩
   refine tk 0 45 ?_
   refine tk 1 46 ?_
   refine tk 2 4 ?_
   refine rdy (rdn 3 (fun K hK=>?_) .nil)
   go_simp
   refine hK.out _ _ ?_ (fun hHeld=>?_)
   ·exact qDRkL0
   clear hK K
   try simp only [Act.put,List.setIfInBounds_toArray,List.set_cons_zero,List.set_cons_succ]
   refine wpAnyH_done (by kernel_rfl) ?_ _
   go_wp2_with fail
   refine bodyPost_ret (results_tmp_cell Tryz.results152 _ _ w.heap.size _ _ _ _ _ rfl rfl hrow Tryz.underlying39 rfl (err_info _ rfl)) rfl (HPost.out _ _ ⟨⟨_,rfl,?_⟩,hall.drew⟩)
   exact ((HO5.out.only hon (fun g hg hh=>by rw [mSg] at hg;subst hg;have:=HFk.out _ hh;have:=Hz3.out;omega)).quiet (Only.refl _ _).drew).lower (by have:=Hz3.out;omega)
theorem sam_wide {l:List Int} (h:SamOk l):withinB l (-1048576) 1048576=true:=by
 unfold withinB
 rw [List.all_eq_true]
 intro x hx
 have:=h x hx
 rw [decide_eq_true_eq];omega
theorem ktwo_any {lo hi lo' hi':Nat} {u v:Value} {a b:List Int} {w:World} (ha:Ints .i64 lo hi w u a) (hb:Ints .i64 lo' hi' w v b) (hl:b.length=a.length) (hm:a.length≤64) (sa:SamOk a) (sb:SamOk b):Calls Tryz.prog 196 #[u,v] w fun e w'=>(e=.returned (.agg #[.int .i64 0,.slice none 0 0])∧Only [] w w'):=by
 refine hidQ fun Q HPost=>?_
 have HWa:=lh (fun (W:World) (o:Only [] w W)=>within_any (-1048576) 1048576 (ha.quiet o))
 have HWb:=lh (fun (W:World) (o:Only [] w W)=>within_any (-1048576) 1048576 (hb.quiet o))
 rw [sam_wide sa] at HWa
 rw [sam_wide sb] at HWb
 obtain ⟨aa,ac,rfl,-⟩:=ha.open
 obtain ⟨ba,bc,rfl,-⟩:=hb.open
 rw [hl] at HWb ⊢
 have HQ1:=lh (Only.new w (.cells #[.int .i64 0,.slice none 0 0] 39))
 have HR1:=lh (heap_alloc_new w (.cells #[.int .i64 0,.slice none 0 0] 39))
 clear ha hb hl hm sa sb
 go_enter Tryz.func196,Tryz.ntmps196
 go_wp2_with fail
 generalize hW1:World.alloc w _=W1 at *
 clear hW1
 go_at_call 26
 refine (HWa.out _ HQ1.out).mono ?_
 rintro e w2 ⟨rfl,hw2⟩
 subst hw2
 go_wp2_with fail
 go_at_call 26
 refine (HWb.out _ HQ1.out).mono ?_
 rintro e w2 ⟨rfl,hw2⟩
 subst hw2
 obtain ⟨z0,z1,y0,y1,-⟩:=row2 HR1.out
 go_wp2_with fail
 obtain ⟨hrow,hon⟩:=row2_set (x:=.int .i64 0) (y:=.slice none 0 0) HR1.out
 exact bodyPost_ret (v:=.agg #[.int .i64 0,.slice none 0 0]) (results_cell_row Tryz.results196 _ _ w.heap.size _ _ _ _ rfl hrow Tryz.underlying39 rfl (err_info _ rfl)) rfl (HPost.out _ _ ⟨rfl,HQ1.out.trans hon (by simp) (fun g hg hlt=>by rw [mSg] at hg;omega)⟩)
theorem ksub_any {lo hi lo' hi':Nat} {u v:Value} {a b:List Int} {w:World} (ha:Ints .i64 lo hi w u a) (hb:Ints .i64 lo' hi' w v b) (hl:b.length=a.length) (hm:a.length≤64) (sa:SamOk a) (sb:SamOk b):Calls Tryz.prog 150 #[u,v] w fun e w'=>((∃ v',e=.returned (.tuple #[v',.agg #[.int .i64 0,.slice none 0 0]])∧Own .i64 3 w.heap.size w' v' (subV a b))∧Only [] w w'):=by
 refine hidQ fun Q HPost=>?_
 have HT:=lh (fun (W:World) (o:Only [] w W)=>ktwo_any (ha.quiet o) (hb.quiet o) hl hm sa sb)
 have HN:=lh (fun (k:Nat) (h:k<a.length)=>subV_at h hl)
 have HDl:Hid ((subV a b).length=a.length):=lh (subV_len rfl hl)
 generalize subV a b=D at *
 have Hl:=lh hl
 have Hm:=lh hm
 have Hsa:=lh sa
 have Hsb:=lh sb
 obtain ⟨aa,ac,rfl,-,-,hata,hca⟩:=ha.open
 obtain ⟨ba,bc,rfl,-,-,hatb,hcb⟩:=hb.open
 have HAa:=lh hata
 have HCa:=lh hca
 have HAb:=lh hatb
 have HCb:=lh hcb
 rw [hl] at HT ⊢
 have hal:(a.length:Int)≤64:=by omega
 have hq1:=Only.new w (.cells #[.int .i64 0,.slice none 0 0] 39)
 have HR1:Hid ((w.alloc (.cells #[.int .i64 0,.slice none 0 0] 39)).heap[w.heap.size]?=some (.cells #[.int .i64 0,.slice none 0 0] 39 (0,0))):=lh (heap_alloc_new w _)
 have Hz1:Hid ((w.alloc (.cells #[.int .i64 0,.slice none 0 0] 39)).heap.size=w.heap.size+1):=lh (by simp)
 have HQ1:=lh hq1
 clear ha hb hl hm sa sb hata hatb hca hcb hq1
 go_enter Tryz.func150,Tryz.ntmps150
 go_wp2_with fail
 generalize hW1:World.alloc w _=W1 at *
 clear hW1
 go_at_call 196
 refine (HT.out W1 HQ1.out).mono ?_
 rintro e w2 ⟨rfl,hq2⟩
 have hq3:=hq2.q (Only.new w2 (.cells #[.int .i64 0,.slice none 0 0] 39))
 have HR3:Hid ((w2.alloc (.cells #[.int .i64 0,.slice none 0 0] 39)).heap[w2.heap.size]?=some (.cells #[.int .i64 0,.slice none 0 0] 39 (0,0))):=lh (heap_alloc_new w2 _)
 have HE3:=lh (hq3.row HR1.out)
 have HQ3:=lh (HQ1.out.q hq3)
 have Hz3:Hid (w.heap.size<w2.heap.size∧(w2.alloc (.cells #[.int .i64 0,.slice none 0 0] 39)).heap.size=w2.heap.size+1):=lh ⟨by have:=hq2.size;have:=Hz1.out;omega,by simp⟩
 clear hq2 hq3 HQ1 HR1 Hz1
 go_wp2_with fail
 generalize hW3:World.alloc w2 _=W3 at *
 clear hW3
 generalize w2.heap.size=B at *
 go_loopw [8,7] (fun i y wr=>∃ k:Nat,k≤a.length∧i=.int .i64 k∧Hid (Own .i64 3 W3.heap.size wr y (D.take k))∧Hid (From W3.heap.size y)∧Hid (Only [] w wr)∧Hid (W3.heap.size≤wr.heap.size)∧Hid (wr.heap[B]?=some (.cells #[.int .i64 0,.slice none 0 0] 39 (0,0)))∧Hid (wr.heap[w.heap.size]?=some (.cells #[.int .i64 0,.slice none 0 0] 39 (0,0)))) (fun i _ _=>a.length-(intOf i).toNat)
 case atStart=>exact ⟨0,by omega,rfl,lh (Own.nil _ _ _ _),lh (From.nil _),HQ3,lh (Nat.le_refl _),HR3,HE3⟩
 case round =>
  obtain ⟨k,hk,rfl,HOk,HFk,HQk,HZk,HBk,HEk⟩:=hrel
  obtain ⟨e0,e1,-⟩:=row2 HBk.out
  by_cases hlt:k<a.length
  ·have hki:(k:Int)<(a.length:Int):=by omega
   have hk0:(0:Int)≤(k:Int):=by omega
   obtain ⟨ga,oa,rfl,-,-⟩:=HAa.out k hlt
   obtain ⟨gb,ob,rfl,-,-⟩:=HAb.out k (by rw [Hl.out];exact hlt)
   have HcA:=lh (HCa.out ga oa rfl k hlt)
   have HcB:=lh (HCb.out gb ob rfl k (by rw [Hl.out];exact hlt))
   have hx:=Hsa.out.at k
   have hy:=Hsb.out.at k
   have hnx:D.take (k+1)=D.take k ++ [a.getD k 0-b.getD k 0]:=by
    have h1:=HN.out k hlt
    rw [List.take_succ_eq_append_getElem (by rw [HDl.out];exact hlt)]
    congr 2
    rw [List.getElem?_eq_getElem (by rw [HDl.out];exact hlt)] at h1
    injection h1
   have hdl:(D.take k).length=k:=by rw [List.length_take,HDl.out];omega
   obtain ⟨ra,rcap,rfl,-⟩:=HOk.out.ints.open
   rw [hdl] at HOk HFk ⊢
   generalize a.getD k 0=x at *
   generalize b.getD k 0=y at *
   have hw:IntKind.i64.wrap (x-y)=x-y:=by rw [IntKind.wrap_i64];omega
   obtain ⟨q,hq⟩:∃ z,z=x-y:=⟨_,rfl⟩
   have hsw:IntKind.i64.wrap (x-y)=q:=hw.trans hq.symm
   rw [← hq] at hnx
   have hink:∀ z∈[q],InK .i64 z:=by simp only [mSg,forall_eq,InK];omega
   have Hsrc:=lh (fun (W:World)=>ints_newG (k:=.i64) (w:=W) (t:=3) (l:=[q]) rfl (by simp [maxLen]) hink 1 rfl rfl)
   have Hby:=lh (show ((D.take k).length+[q].length)*8≤140737488355328 by rw [hdl];simp;omega)
   have Hlen:Hid ((D.take k ++ [q]).length=k+1):=lh (by rw [List.length_append,hdl];rfl)
   have Hnx:=lh hnx
   have HFx:Hid (From w.heap.size (.slice ra k rcap)):=lh (fun g hg=>by have:=HFk.out g hg;have:=Hz3.out;omega)
   clear hink hnx hdl hx hy hw hq
   have Hlt:=lh hlt
   clear hlt
   go_wp2_with fail
   go_at_call 46
   refine (kok_any _ _ _).mono ?_
   rintro e w4 ⟨rfl,hq4⟩
   have ca:=(HQk.out.q hq4).cell HcA.out (by simp)
   have cb:=(HQk.out.q hq4).cell HcB.out (by simp)
   have Hq4:=lh hq4
   clear hq4 e0 e1
   go_upto_region 6 with (fail)
   refine wp_region_held_drew (S:=(fun w'=>w'.cell? ⟨ga,oa+k,none⟩=some (.int .i64 x)∧w'.cell? ⟨gb,ob+k,none⟩=some (.int .i64 y))) (by kernel_rfl) ?_ (fun hHeld=>?_)
   ·exact ⟨ca,cb⟩
   refine tk 0 22 ?_
   refine tk 1 23 ?_
   refine tk 2 24 ?_
   refine tk 3 25 ?_
   refine tk 4 26 ?_
   refine tk 5 27 ?_
   refine tk 6 28 ?_
   refine tk 7 29 ?_
   refine tk 8 30 ?_
   refine tk 9 31 ?_
   refine rdy (rdc 10 32 (fun K hK=>?_) .nil)
   go_simp
   refine hK.out _ _ ?_ (fun hHeld=>?_)
   ·exact ⟨(Only.new w4 (.cells #[.int .i64 q] 3)).cell ca (by simp),(Only.new w4 (.cells #[.int .i64 q] 3)).cell cb (by simp)⟩
   clear hK K
   try simp only [Act.put,List.setIfInBounds_toArray,List.set_cons_zero,List.set_cons_succ]
   refine rdy (rdc 11 33 (fun K hK=>?_) .nil)
   refine wp_append_ints rfl (.tmp 22) (.tmp 32) _ rfl EI (((HOk.out.quiet Hq4.out).quiet (Only.new w4 (.cells #[.int .i64 q] 3))).quiet (Only.refl _ _).drew) rfl ((Hsrc.out w4).quiet (Only.refl _ _).drew) rfl Hby.out (by have:=HZk.out;have:=Hq4.out.size;have:=(Only.new w4 (.cells #[.int .i64 q] 3)).size;first | exact Nat.le_trans this (Nat.le_refl _) | (simp;omega)) (fun v1 w6 hown1 ho1=>?_)
   obtain ⟨x1,x1cap,hx1,_⟩:=hown1.ints.open
   subst hx1
   rw [Hlen.out] at hown1 ho1 ⊢
   have HO1:=lh hown1
   have HA1:=lh ho1
   have hd6:=((HQk.out.q (Hq4.out.q (Only.new w4 (.cells #[.int .i64 q] 3)))).drew).acc ho1 HFx.out
   have HD6:=lh hd6
   clear hown1 ho1
   refine hK.out _ _ ?_ (fun hHeld=>?_)
   ·exact ⟨hd6.cell HcA.out (by simp),hd6.cell HcB.out (by simp)⟩
   clear hK K
   try simp only [Act.put,List.setIfInBounds_toArray,List.set_cons_zero,List.set_cons_succ]
   refine tk 12 7 ?_
   refine wpAnyH_done (by kernel_rfl) ?_ _
   go_wp2_with fail
   have hb6:=HA1.out.row HFk.out (((Hq4.out.q (Only.new w4 (.cells #[.int .i64 q] 3))).drew).row HBk.out) (by have:=Hz3.out;omega)
   have he6:=HA1.out.row HFk.out (((Hq4.out.q (Only.new w4 (.cells #[.int .i64 q] 3))).drew).row HEk.out) (by have:=Hz3.out;omega)
   have hz6:=HA1.out.only.size
   have hz5:=(Only.new w4 (.cells #[.int .i64 q] 3)).size
   refine ⟨⟨k+1,by have:=Hlt.out;omega,by go_num,lh (by rw [Hnx.out];exact HO1.out),lh (HA1.out.from_ HFk.out ?_),HD6,lh ?_,lh hb6,lh he6⟩,by simp [intOf];have:=Hlt.out;omega⟩
   ·exact Nat.le_trans HZk.out (Nat.le_trans Hq4.out.size hz5)
   ·exact Nat.le_trans HZk.out (Nat.le_trans Hq4.out.size (Nat.le_trans hz5 hz6))
  ·obtain rfl:k=a.length:=by omega
   have hki:¬ (a.length:Int)<(a.length:Int):=by omega
   rw [List.take_of_length_le (by rw [HDl.out];exact Nat.le_refl _)] at HOk
   go_wp2_with fail
   go_at_call 46
   refine (kok_any _ _ _).mono ?_
   rintro e w4 ⟨rfl,hq4⟩
   have HQ4:=lh (HQk.out.q hq4)
   have Hq4:=lh hq4
   have hE4:=hq4.row HEk.out
   have hB4:=hq4.row HBk.out
   clear hq4 e0 e1
   obtain ⟨e0,e1,-⟩:=row2 hB4
   obtain ⟨z0,z1,y0,y1,-⟩:=row2 hE4
   obtain ⟨hrow,hon⟩:=row2_set (x:=.int .i64 0) (y:=.slice none 0 0) hE4
   have hne:¬ B=w.heap.size:=by have:=Hz3.out;omega
   have hall:=(HQ4.out.trans hon (U:=[]) (by simp) (fun g hg hlt=>by rw [mSg] at hg;omega))
   go_upto_region 7 with (fail)
   refine wp_region_held_drew (S:=(fun w'=>w'.cell? ⟨B,0,none⟩=some (.int .i64 0)∧w'.cell? ⟨B,1,none⟩=some (.slice none 0 0))) (by kernel_rfl) ?_ (fun hHeld=>?_)
   ·exact ⟨e0,e1⟩
   refine tk 0 34 ?_
   refine tk 1 35 ?_
   refine tk 2 4 ?_
   refine rdy (rdn 3 (fun K hK=>?_) .nil)
   go_simp
   refine hK.out _ _ ?_ (fun hHeld=>?_)
   ·exact qDRkL0
   clear hK K
   try simp only [Act.put,List.setIfInBounds_toArray,List.set_cons_zero,List.set_cons_succ]
   refine wpAnyH_done (by kernel_rfl) ?_ _
   go_wp2_with fail
   refine bodyPost_ret (results_tmp_cell Tryz.results150 _ _ w.heap.size _ _ _ _ _ rfl rfl hrow Tryz.underlying39 rfl (err_info _ rfl)) rfl (HPost.out _ _ ⟨⟨_,rfl,?_⟩,hall.drew⟩)
   exact ((((HOk.out.quiet Hq4.out).only hon (fun g hg hh=>by rw [mSg] at hg;subst hg;have:=HFk.out _ hh;have:=Hz3.out;omega)).quiet (Only.refl _ _).drew).lower (by have:=Hz3.out;omega))
theorem ksad_any {lo hi lo' hi':Nat} {u v:Value} {a b:List Int} {w:World} (ha:Ints .i64 lo hi w u a) (hb:Ints .i64 lo' hi' w v b) (hl:b.length=a.length) (hm:a.length≤64) (sa:SamOk a) (sb:SamOk b):Calls Tryz.prog 155 #[u,v] w fun e w'=>(e=.returned (.tuple #[.int .i64 (sadD a b),.agg #[.int .i64 0,.slice none 0 0]])∧Only [] w w'):=by
 refine hidQ fun Q HPost=>?_
 have HT:=lh (fun (W:World) (o:Only [] w W)=>ktwo_any (ha.quiet o) (hb.quiet o) hl hm sa sb)
 have Hst:=lh (fun (k:Nat) (h:k<a.length)=>sad_step h hl)
 have Hin:=lh (sad_in sa sb)
 have Hfin:Hid (sadD (a.take a.length) (b.take a.length)=sadD a b):=lh (by rw [List.take_of_length_le (by omega),List.take_of_length_le (by omega)])
 have H0:Hid (sadD (a.take 0) (b.take 0)=0):=lh (by simp [sadD])
 rw [← Hfin.out] at HPost
 clear Hfin
 generalize hT:(fun k=>sadD (a.take k) (b.take k))=T at *
 have hTk:∀ k,sadD (a.take k) (b.take k)=T k:=fun k=>by rw [← hT]
 simp only [hTk] at HPost Hst Hin H0
 clear hT hTk
 have Hl:=lh hl
 have Hm:=lh hm
 have Hsa:=lh sa
 have Hsb:=lh sb
 obtain ⟨aa,ac,rfl,-,-,hata,hca⟩:=ha.open
 obtain ⟨ba,bc,rfl,-,-,hatb,hcb⟩:=hb.open
 have HAa:=lh hata
 have HCa:=lh hca
 have HAb:=lh hatb
 have HCb:=lh hcb
 rw [hl] at HT ⊢
 have hal:(a.length:Int)≤64:=by omega
 have hq1:=Only.new w (.cells #[.int .i64 0,.slice none 0 0] 39)
 have HR1:Hid ((w.alloc (.cells #[.int .i64 0,.slice none 0 0] 39)).heap[w.heap.size]?=some (.cells #[.int .i64 0,.slice none 0 0] 39 (0,0))):=lh (heap_alloc_new w _)
 have Hz1:Hid ((w.alloc (.cells #[.int .i64 0,.slice none 0 0] 39)).heap.size=w.heap.size+1):=lh (by simp)
 have HQ1:=lh hq1
 clear ha hb hl hm sa sb hata hatb hca hcb hq1
 go_enter Tryz.func155,Tryz.ntmps155
 go_wp2_with fail
 generalize hW1:World.alloc w _=W1 at *
 clear hW1
 go_at_call 196
 refine (HT.out W1 HQ1.out).mono ?_
 rintro e w2 ⟨rfl,hq2⟩
 have hq3:=hq2.q (Only.new w2 (.cells #[.int .i64 0,.slice none 0 0] 39))
 have HR3:Hid ((w2.alloc (.cells #[.int .i64 0,.slice none 0 0] 39)).heap[w2.heap.size]?=some (.cells #[.int .i64 0,.slice none 0 0] 39 (0,0))):=lh (heap_alloc_new w2 _)
 have HE3:=lh (hq3.row HR1.out)
 have HQ3:=lh (HQ1.out.q hq3)
 have Hz3:Hid (w.heap.size<w2.heap.size∧(w2.alloc (.cells #[.int .i64 0,.slice none 0 0] 39)).heap.size=w2.heap.size+1):=lh ⟨by have:=hq2.size;have:=Hz1.out;omega,by simp⟩
 clear hq2 hq3 HQ1 HR1 Hz1
 go_wp2_with fail
 generalize hW3:World.alloc w2 _=W3 at *
 clear hW3
 generalize w2.heap.size=B at *
 go_loopw [8,7] (fun i y wr=>∃ k:Nat,k≤a.length∧i=.int .i64 k∧y=.int .i64 (T k)∧Hid (Only [] w wr)∧Hid (W3.heap.size≤wr.heap.size)∧Hid (wr.heap[B]?=some (.cells #[.int .i64 0,.slice none 0 0] 39 (0,0)))∧Hid (wr.heap[w.heap.size]?=some (.cells #[.int .i64 0,.slice none 0 0] 39 (0,0)))) (fun i _ _=>a.length-(intOf i).toNat)
 case atStart=>exact ⟨0,by omega,rfl,by rw [H0.out],HQ3,lh (Nat.le_refl _),HR3,HE3⟩
 case round =>
  obtain ⟨k,hk,rfl,rfl,HQk,HZk,HBk,HEk⟩:=hrel
  obtain ⟨e0,e1,-⟩:=row2 HBk.out
  by_cases hlt:k<a.length
  ·have hki:(k:Int)<(a.length:Int):=by omega
   have hk0:(0:Int)≤(k:Int):=by omega
   obtain ⟨ga,oa,rfl,-,-⟩:=HAa.out k hlt
   obtain ⟨gb,ob,rfl,-,-⟩:=HAb.out k (by rw [Hl.out];exact hlt)
   have HcA:=lh (HCa.out ga oa rfl k hlt)
   have HcB:=lh (HCb.out gb ob rfl k (by rw [Hl.out];exact hlt))
   have hx:=Hsa.out.at k
   have hy:=Hsb.out.at k
   have ht:=Hin.out k
   have HTk:=lh (Hst.out k hlt)
   generalize a.getD k 0=x at *
   generalize b.getD k 0=y at *
   generalize hc:T k=c at *
   obtain ⟨hx0,hx1⟩:=hx
   obtain ⟨hy0,hy1⟩:=hy
   obtain ⟨ht0,ht1⟩:=ht
   have ht2:c≤100000:=by omega
   clear hc ht1
   have Hlt:=lh hlt
   clear hlt
   go_wp2_with fail
   go_at_call 46
   refine (kok_any _ _ _).mono ?_
   rintro e w4 ⟨rfl,hq4⟩
   have ca:=(HQk.out.q hq4).cell HcA.out (by simp)
   have cb:=(HQk.out.q hq4).cell HcB.out (by simp)
   have Hq4:=lh hq4
   clear hq4 e0 e1
   go_upto_region 6 with (fail)
   go_quiet (fail)
   go_wp2_with fail
   exact ⟨⟨k+1,by have:=Hlt.out;omega,by go_num,by rw [HTk.out];congr 1;omega,lh (HQk.out.q (Hq4.out.drewN _)),lh (Nat.le_trans HZk.out Hq4.out.size),lh ((Hq4.out.drewN _).row HBk.out),lh ((Hq4.out.drewN _).row HEk.out)⟩,by simp [intOf];have:=Hlt.out;omega⟩
  ·obtain rfl:k=a.length:=by omega
   have hki:¬ (a.length:Int)<(a.length:Int):=by omega
   have Htr:Hid True:=lh trivial
   go_wp2_with fail
   go_at_call 46
   refine (kok_any _ _ _).mono ?_
   rintro e w4 ⟨rfl,hq4⟩
   have HQ4:=lh (HQk.out.q hq4)
   have Hq4:=lh hq4
   have hE4:=hq4.row HEk.out
   have hB4:=hq4.row HBk.out
   clear hq4 e0 e1
   obtain ⟨e0,e1,-⟩:=row2 hB4
   obtain ⟨z0,z1,y0,y1,-⟩:=row2 hE4
   obtain ⟨hrow,hon⟩:=row2_set (x:=.int .i64 0) (y:=.slice none 0 0) hE4
   have hne:¬ B=w.heap.size:=by have:=Hz3.out;omega
   have hall:=(HQ4.out.trans hon (U:=[]) (by simp) (fun g hg hlt=>by rw [mSg] at hg;omega))
   go_upto_region 7 with (fail)
   refine wp_region_held_drew (S:=(fun w'=>w'.cell? ⟨B,0,none⟩=some (.int .i64 0)∧w'.cell? ⟨B,1,none⟩=some (.slice none 0 0))) (by kernel_rfl) ?_ (fun hHeld=>?_)
   ·exact ⟨e0,e1⟩
   refine tk 0 43 ?_
   refine tk 1 44 ?_
   refine tk 2 4 ?_
   refine rdy (rdn 3 (fun K hK=>?_) .nil)
   go_simp
   refine hK.out _ _ ?_ (fun hHeld=>?_)
   ·exact qDRkL0
   clear hK K
   try simp only [Act.put,List.setIfInBounds_toArray,List.set_cons_zero,List.set_cons_succ]
   refine wpAnyH_done (by kernel_rfl) ?_ _
   go_wp2_with fail
   refine bodyPost_ret (results_tmp_cell Tryz.results155 _ _ w.heap.size _ _ _ _ _ rfl rfl hrow Tryz.underlying39 rfl (err_info _ rfl)) rfl (HPost.out _ _ ⟨by first | rfl | trivial,hall.drew⟩)
end
section
theorem k6at_any {lo hi:Nat} {pv:Value} {w:World} {f:FrameD} (hok:FrOk f) (h:Ints .i64 lo hi w pv f.pix) (x y:Int) (hx:0≤x∧x<f.W) (hy:0≤y∧y<f.H) :
  Calls Tryz.prog 149 #[.agg #[.int .i64 f.W,.int .i64 f.H,pv],.int .i64 x,.int .i64 y] w fun e w'=>e=.returned (.int .i64 (f.pix.getD (y*f.W+x).toNat 0))∧Only [] w w':=by
 have hW:8≤f.W∧f.W≤32:=⟨hok.w0,hok.w1⟩
 have hH:8≤f.H∧f.H≤32:=⟨hok.h0,hok.h1⟩
 obtain ⟨i1,i2,i3,i4⟩:=atD_idx hW hH x y
 rw [show min (max y 0) (f.H-1)=y by omega] at i1 i2
 rw [show min (max x 0) (f.W-1)=x by omega] at i2
 have hlen:=hok.len
 obtain ⟨b,off,cap,rfl,-,-,hc⟩:=h.at (i:=(y*f.W+x).toNat) (by omega)
 have HQ:=lh (Only.new w (.cells #[.int .i64 f.W,.int .i64 f.H,.slice (some ⟨b,off,none⟩) f.pix.length cap] 24))
 have hc2:=(Only.new w (.cells #[.int .i64 f.W,.int .i64 f.H,.slice (some ⟨b,off,none⟩) f.pix.length cap] 24)).cell hc (by simp)
 have HR:=lh (heap_alloc_new w (.cells #[.int .i64 f.W,.int .i64 f.H,.slice (some ⟨b,off,none⟩) f.pix.length cap] 24))
 generalize f.pix.getD (y*f.W+x).toNat 0=v at *
 generalize f.pix.length=N at *
 generalize f.W=W at *
 generalize f.H=H at *
 obtain ⟨k,hk⟩:∃ k:Nat,(y*W+x).toNat=k:=⟨_,rfl⟩
 have hk2:y*W+x=(k:Int):=by omega
 rw [hk] at hc hc2
 obtain ⟨hx0,hx1⟩:=hx
 obtain ⟨hy0,hy1⟩:=hy
 obtain ⟨hW1,hW2⟩:=hW
 obtain ⟨hH1,hH2⟩:=hH
 have p1:¬ y<0:=by omega
 have p2:¬ H-1<y:=by omega
 have p3:¬ x<0:=by omega
 have p4:¬ W-1<x:=by omega
 have a1:IntKind.i64.wrap (H-1)=H-1:=by rw [IntKind.wrap_i64];omega
 have a2:IntKind.i64.wrap (W-1)=W-1:=by rw [IntKind.wrap_i64];omega
 have hm1:0≤y*W:=i1
 have a3:IntKind.i64.wrap (y*W)=y*W:=by rw [IntKind.wrap_i64];omega
 have a4:IntKind.i64.wrap (y*W+x)=(k:Int):=by rw [hk2,IntKind.wrap_i64];omega
 have q0:(0:Int)≤(k:Int):=by omega
 have q1:(k:Int)<(N:Int):=by omega
 clear hc h hok hlen i1 i2 i3 i4 hk hk2 hm1
 obtain ⟨r0,r1,r2⟩:=frame_cells HR.out
 go_enter Tryz.func149,Tryz.ntmps149
 go_wp2_with fail
 go_ret
 exact ⟨rfl,HQ.out⟩
theorem kget_any {lo hi:Nat} {pv:Value} {w:World} {f:FrameD} (hok:FrOk f) (h:Ints .i64 lo hi w pv f.pix) (x y:Int) (hx:0≤x∧x+8≤f.W) (hy:0≤y∧y+8≤f.H) :
  Calls Tryz.prog 100 #[.agg #[.int .i64 f.W,.int .i64 f.H,pv],.int .i64 x,.int .i64 y,.int .i64 8] w fun e w'=>∃ v',e=.returned v'∧Own .i64 3 w.heap.size w' v' (getSq f x y 8)∧Only [] w w':=by
 refine hidQ fun Q HPost=>?_
 obtain ⟨a,cap,rfl,-⟩:=h.open
 have hq1:=Only.new w (.cells #[.int .i64 f.W,.int .i64 f.H,.slice a f.pix.length cap] 24)
 have HR1:=lh (heap_alloc_new w (.cells #[.int .i64 f.W,.int .i64 f.H,.slice a f.pix.length cap] 24))
 have HQ1:=lh hq1
 have HI:=lh (h.quiet hq1)
 have HM:=lh (fun (W:World) (o:Ints .i64 lo hi W (.slice a f.pix.length cap) f.pix)=>by have:=kmay_any f.W f.H o;rw [show mayF ⟨f.W,f.H,f.pix⟩=true from mayF_iff.2 hok] at this;exact this)
 have HA:=lh (fun (W:World) (o:Ints .i64 lo hi W (.slice a f.pix.length cap) f.pix) (x y:Int) (hx:0≤x∧x<f.W) (hy:0≤y∧y<f.H)=>k6at_any hok o x y hx hy)
 have Hin:=lh (fun k=>hok.sam.at k)
 have HD:=lh (getK_all f x y)
 have hw1:=hok.w1
 have hh1:=hok.h1
 obtain ⟨hx0,hx1⟩:=hx
 obtain ⟨hy0,hy1⟩:=hy
 have x2:x≤24:=by omega
 have y2:y≤24:=by omega
 clear h hq1 hok
 obtain ⟨r0,r1,r2⟩:=frame_cells HR1.out
 go_enter Tryz.func100,Tryz.ntmps100
 go_wp2_with fail
 clear r0 r1 r2
 generalize hW1:World.alloc w _=W1 at *
 have HZ1:Hid (w.heap.size<W1.heap.size):=lh (by rw [← hW1];simp)
 clear hW1
 go_at_call 66
 refine (HM.out W1 HI.out).mono ?_
 rintro e w2 ⟨rfl,hq2⟩
 have HQ2:=lh hq2
 clear hq2 HM
 go_wp2_with fail
 go_loopw [10,9,11] (fun j r _ wr=>∃ (k:Nat),k≤8∧j=.int .i64 k∧Hid (Own .i64 3 W1.heap.size wr r (getK f x y (k*8)))∧Hid (From W1.heap.size r)∧Hid (Only [] W1 wr)) (fun j _ _ _=>8-(intOf j).toNat)
 case atStart=>exact ⟨0,by omega,rfl,lh (Own.nil _ _ _ _),lh (From.nil _),HQ2⟩
 case round =>
  obtain ⟨k,hk,rfl,HOk,HFk,HQk⟩:=hrel
  by_cases hlt:k<8
  ·have hki:(k:Int)<8:=by omega
   have hk0:(0:Int)≤(k:Int):=by omega
   go_wp2_with fail
   go_loopw [11,9] (fun i r wr=>∃ (n:Nat),n≤8∧i=.int .i64 n∧Hid (Own .i64 3 W1.heap.size wr r (getK f x y (k*8+n)))∧Hid (From W1.heap.size r)∧Hid (Only [] W1 wr)) (fun i _ _=>8-(intOf i).toNat)
   case atStart=>exact ⟨0,by omega,rfl,HOk,HFk,HQk⟩
   case round =>
    obtain ⟨n,hn,rfl,HOn,HFn,HQn⟩:=hrel
    by_cases hnlt:n<8
    ·have hni:(n:Int)<8:=by omega
     have hn0:(0:Int)≤(n:Int):=by omega
     have Hmore:=lh (getK_more f x y (j:=k) hnlt)
     have HC:=lh (fun W o=>HA.out W o (x+(n:Int)) (y+(k:Int)) (by omega) (by omega))
     have hin:=Hin.out ((y+(k:Int))*f.W+(x+(n:Int))).toNat
     generalize f.pix.getD ((y+(k:Int))*f.W+(x+(n:Int))).toNat 0=hv at *
     have hink:∀ z∈[hv],InK .i64 z:=by simp only [mSg,forall_eq,InK];omega
     have hsrc:=lh (fun (W:World)=>ints_newG (k:=.i64) (w:=W) (t:=3) (l:=[hv]) rfl (by simp [maxLen]) hink 1 rfl rfl)
     have hby:=lh (show ((getK f x y (k*8+n)).length+[hv].length)*8≤140737488355328 by rw [getK_len];simp;omega)
     have Hlen:Hid ((getK f x y (k*8+n) ++ [hv]).length=k*8+n+1):=lh (by rw [List.length_append,getK_len];rfl)
     obtain ⟨ra,rcap,rfl,-⟩:=HOn.out.ints.open
     rw [getK_len] at HOn HFn ⊢
     obtain ⟨r0,r1,r2⟩:=frame_cells (HQn.out.row HR1.out)
     have HIn:=lh (HI.out.quiet HQn.out)
     clear hink hin
     go_wp2_with fail
     go_at_call 149
     refine (HC.out _ HIn.out).mono ?_
     rintro e w3 ⟨rfl,hq3⟩
     have HQ3:=lh hq3
     have HO3:=lh (HOn.out.quiet hq3)
     have hba:=lh (fun (o:Obj)=>(show W1.heap.size≤(w3.alloc o).heap.size by have:=HQn.out.size;have:=hq3.size;simp;omega))
     clear hq3
     go_wp2_with (first
      | (at_builtin;refine wpList_append_ints rfl (.tmp 49) (.tmp 58) _ rfl EI (HO3.out.quiet (Only.new _ _)) rfl (hsrc.out _) rfl hby.out (hba.out _) (fun v1 w4 hown1 ho1=>?_);obtain ⟨x1,x1cap,hx1,_⟩:=hown1.ints.open;subst hx1;rw [Hlen.out] at hown1 ho1 ⊢;have HO1:=lh hown1;have HA1:=lh ho1;clear hown1 ho1)
      | fail)
     refine ⟨⟨n+1,by omega,by go_num,lh ?_,lh (HA1.out.from_ HFn.out (hba.out _)),lh (((HQn.out.q HQ3.out).q (Only.new _ _)).acc HA1.out HFn.out)⟩,by simp [intOf];omega⟩
     rw [← Nat.add_assoc,Hmore.out]
     exact HO1.out
    ·obtain rfl:n=8:=by omega
     have hni:¬ ((8:Nat):Int)<8:=by omega
     have HO8:Hid (getK f x y (k*8+8)=getK f x y ((k+1)*8)):=lh (by rw [show (k+1)*8=k*8+8 by omega])
     rw [HO8.out] at HOn
     go_wp2_with fail
     exact ⟨⟨k+1,by omega,by go_num,HOn,HFn,HQn⟩,by simp [intOf];omega⟩
  ·obtain rfl:k=8:=by omega
   have hki:¬ ((8:Nat):Int)<8:=by omega
   have HO8:Hid (getK f x y (8*8)=getSq f x y 8):=HD
   rw [HO8.out] at HOk
   go_wp2_with fail
   exact HPost.out _ _ ⟨_,rfl,HOk.out.lower (Nat.le_of_lt HZ1.out),HQ1.out.q HQk.out⟩
end
end Go.Proofs.YtmgbbgffkakcaaaGreatDoor
