/- Joined texts: DRkF, DRkB. Conditions: each part names its own. -/
import Derived.Test.YtmgbbgffkakcaaaGreatDoorT1
import Derived.Test.YtmgbbgffkakcaaaGreatDoorA4
import Derived.Test.YtmgbbgffkakcaaaGreatDoorA3
import Derived.Test.YtmgbbgffkakcaaaGreatDoorW6
namespace Go.Proofs.YtmgbbgffkakcaaaGreatDoor
open Go.RowKit
set_option linter.unusedVariables false
set_option linter.unusedSimpArgs false
set_option maxRecDepth 100000
set_option maxHeartbeats 16000000
section
theorem small_within {l:List Int} (h:∀ x∈l,-255≤x∧x≤255):withinB l (-65536) 65536=true:=by
 unfold withinB
 rw [List.all_eq_true]
 intro x hx
 have:=h x hx
 rw [decide_eq_true_eq];omega
theorem qDRkF0 {p:Prop} (h:p:=by
 obtain ⟨a,cap,rfl,-⟩:=h.open
 rw [hl] at HWi HSu ⊢
 generalize turnD l=T at *
 have HQ1:=lh (Only.new w (.cells #[.int .i64 0,.slice none 0 0] 39))
 have HR1:Hid ((w.alloc (.cells #[.int .i64 0,.slice none 0 0] 39)).heap[w.heap.size]?=some (.cells #[.int .i64 0,.slice none 0 0] 39 (0,0))):=lh (heap_alloc_new w _)
 clear h hb hab
 go_enter Tryz.func151,Tryz.ntmps151
 go_wp2_with fail
 generalize hW1:World.alloc w _=W1 at *
 clear hW1
 go_at_call 197
 refine (HSd.out _).mono ?_
 rintro e w' ⟨rfl,rfl⟩
 go_wp2_with fail
 go_at_call 26
 refine (HWi.out _ HQ1.out).mono ?_
 rintro e w' ⟨rfl,rfl⟩
 go_wp2_with fail
 go_at_call 198
 refine (HSu.out _ HQ1.out).mono ?_
 rintro e w2 ⟨⟨v',rfl,hown⟩,hq2⟩
 obtain ⟨a',cap',rfl,-⟩:=hown.ints.open
 have hr2:=hq2.row HR1.out
 have HO:=lh hown
 have HQ2:=lh (HQ1.out.q hq2)
 have HW:=lh HQ1.out.size
 obtain ⟨z0,z1,y0,y1,-⟩:=row2 hr2
 obtain ⟨hrow,hon⟩:=row2_set (x:=.int .i64 0) (y:=.slice none 0 0) hr2
 have HZ:Hid (w.heap.size<W1.heap.size):=lh (Array.getElem?_eq_some_iff.1 HR1.out).1
 clear hown hq2
 go_wp2_with fail
 exact bodyPost_ret (results_tmp_cell Tryz.results151 _ _ w.heap.size _ _ _ _ _ rfl rfl hrow Tryz.underlying39 rfl (err_info _ rfl)) rfl (HPost.out _ _ ⟨⟨_,rfl,(HO.out.only hon (fun g hg hh=>by rw [mSg] at hg;subst hg;have:=(HO.out.at _ hh).1;have:=HZ.out;omega)).lower HW.out⟩,HQ2.out.trans hon (by simp) (fun g hg hlt=>by rw [mSg] at hg;omega)⟩)):p:=h
theorem kforward4_any {lo hi:Nat} {v:Value} {l:List Int} {w:World} (h:Ints .i64 lo hi w v l) (hl:l.length=16) (hb:∀ x∈l,-255≤x∧x≤255):Calls Tryz.prog 151 #[v] w fun e w'=>((∃ v',e=.returned (.tuple #[v',.agg #[.int .i64 0,.slice none 0 0]])∧Own .i64 3 w.heap.size w' v' (turnD l))∧Only [] w w'):=by
 refine hidQ fun Q HPost=>?_
 have HWi:=lh (fun (W:World) (o:Only [] w W)=>within_any (-65536) 65536 (h.quiet o))
 rw [small_within hb] at HWi
 have hab:AbsLe 6266880 l:=fun j hj=>by
  have:=hb _ (show l.getD j 0∈l by rw [List.getD_eq_getElem?_getD,List.getElem?_eq_getElem hj];exact List.getElem_mem _)
  omega
 have HSu:=lh (fun (W:World) (o:Only [] w W)=>ksums4_any (h.quiet o) hl hab)
 rw [show sumsD 4 l=turnD l from (turnD_sums (n:=4) (by omega) hl).symm] at HSu
 have HSd:Hid (∀ W,Calls Tryz.prog 197 #[.int .i64 16] W fun e w'=>e=.returned (.int .i64 4)∧W=w'):=lh (fun W=>kside_wht 16 (by omega) W)
 exact qDRkF0
theorem kforward8_any {lo hi:Nat} {v:Value} {l:List Int} {w:World} (h:Ints .i64 lo hi w v l) (hl:l.length=64) (hb:∀ x∈l,-255≤x∧x≤255):Calls Tryz.prog 151 #[v] w fun e w'=>((∃ v',e=.returned (.tuple #[v',.agg #[.int .i64 0,.slice none 0 0]])∧Own .i64 3 w.heap.size w' v' (turnD l))∧Only [] w w'):=by
 refine hidQ fun Q HPost=>?_
 have HWi:=lh (fun (W:World) (o:Only [] w W)=>within_any (-65536) 65536 (h.quiet o))
 rw [small_within hb] at HWi
 have hab:AbsLe 6266880 l:=fun j hj=>by
  have:=hb _ (show l.getD j 0∈l by rw [List.getD_eq_getElem?_getD,List.getElem?_eq_getElem hj];exact List.getElem_mem _)
  omega
 have HSu:=lh (fun (W:World) (o:Only [] w W)=>ksums8_any (h.quiet o) hl hab)
 rw [show sumsD 8 l=turnD l from (turnD_sums (n:=8) (by omega) hl).symm] at HSu
 have HSd:Hid (∀ W,Calls Tryz.prog 197 #[.int .i64 64] W fun e w'=>e=.returned (.int .i64 8)∧W=w'):=lh (fun W=>kside_wht 64 (by omega) W)
 exact qDRkF0
theorem qDRkF1 {p:Prop} (h:p:=by
 rintro e w4 ⟨⟨tv,rfl,hown4⟩,hq4⟩
 obtain ⟨ta,tc,rfl,-⟩:=hown4.ints.open
 have hn5:=Only.new w4 (.cells #[.int .i64 0,.slice none 0 0] 39)
 have HT5:=lh (hown4.ints.quiet hn5)
 have HQ5:=lh (HQ3.out.q (hq4.q hn5))
 clear hown4 hq4 hn5
 go_wp2_with fail
 generalize hW5:World.alloc w4 _=W5 at *
 clear hW5
 go_at_call 152
 refine (HLv.out _ _ _ _ HT5.out).mono ?_
 rintro e w6 ⟨⟨lv,rfl,hown6⟩,hq6⟩
 obtain ⟨la,lc,rfl,-⟩:=hown6.ints.open
 have HL6:=lh hown6
 have HQ6:=lh (HQ5.out.q hq6)
 have HZ:=lh HQ5.out.size
 clear hown6 hq6
 go_wp2_with fail
 exact HPost.out _ _ ⟨⟨_,rfl,(HL6.out.quiet (Only.new _ _)).lower HZ.out⟩,HQ6.out.q (Only.new _ _)⟩):p:=h
theorem klev4_any {lo hi lo' hi':Nat} {u v:Value} {b p:List Int} {w:World} (hb:Ints .i64 lo hi w u b) (hp:Ints .i64 lo' hi' w v p) (lb:b.length=16) (lp:p.length=16) (sb:SamOk b) (sp:SamOk p) (q:Nat) (hq:q≤15) :
  Calls Tryz.prog 102 #[u,v,.int .i64 q] w fun e w'=>((∃ v',e=.returned v'∧Own .i64 3 w.heap.size w' v' (levelsE b p q))∧Only [] w w'):=by
 refine hidQ fun Q HPost=>?_
 have HS:=lh (ksub_any hb hp (by rw [lb,lp]) (by rw [lb];omega) sb sp)
 have hdl:(subV b p).length=16:=subV_len lb lp
 have hdi:=subV_in sb sp
 have htl:(turnD (subV b p)).length=16:=by rw [turnD_sums (n:=4) (by omega) hdl];simp
 have htb:∀ x∈turnD (subV b p),-16777216≤x∧x≤16777216:=turnD_small (n:=4) (by omega) hdl hdi
 have HD:=lh (And.intro hdl hdi)
 have HT:=lh (And.intro htl htb)
 have HE:Hid (levelsE b p q=(turnD (subV b p)).map (levD q)):=lh rfl
 rw [HE.out] at HPost
 obtain ⟨ba,bc,rfl,-⟩:=hb.open
 obtain ⟨pa,pc,rfl,-⟩:=hp.open
 rw [lb,lp] at HS ⊢
 generalize subV b p=D at *
 clear hb hp lb lp sb sp hdl hdi htl htb HE
 have HLv:=lh (fun (W:World) (lo hi:Nat) (v:Value) (h:Ints .i64 lo hi W v (turnD D))=>klevels_any h (by rw [HT.out.1];omega) HT.out.2 q hq)
 generalize (turnD D).map (levD q)=LV at *
 go_enter Tryz.func102,Tryz.ntmps102
 go_wp2_with fail
 go_at_call 150
 refine HS.out.mono ?_
 rintro e w2 ⟨⟨dv,rfl,hown2⟩,hq2⟩
 obtain ⟨da,dc,rfl,-⟩:=hown2.ints.open
 have hn3:=Only.new w2 (.cells #[.int .i64 0,.slice none 0 0] 39)
 have HD3:=lh (hown2.ints.quiet hn3)
 have HQ3:=lh (hq2.q hn3)
 clear hown2 hq2 hn3
 go_wp2_with fail
 generalize hW3:World.alloc w2 _=W3 at *
 clear hW3
 go_at_call 151
 refine (kforward4_any HD3.out HD.out.1 HD.out.2).mono ?_
 exact qDRkF1
theorem klev8_any {lo hi lo' hi':Nat} {u v:Value} {b p:List Int} {w:World} (hb:Ints .i64 lo hi w u b) (hp:Ints .i64 lo' hi' w v p) (lb:b.length=64) (lp:p.length=64) (sb:SamOk b) (sp:SamOk p) (q:Nat) (hq:q≤15) :
  Calls Tryz.prog 102 #[u,v,.int .i64 q] w fun e w'=>((∃ v',e=.returned v'∧Own .i64 3 w.heap.size w' v' (levelsE b p q))∧Only [] w w'):=by
 refine hidQ fun Q HPost=>?_
 have HS:=lh (ksub_any hb hp (by rw [lb,lp]) (by rw [lb];omega) sb sp)
 have hdl:(subV b p).length=64:=subV_len lb lp
 have hdi:=subV_in sb sp
 have htl:(turnD (subV b p)).length=64:=by rw [turnD_sums (n:=8) (by omega) hdl];simp
 have htb:∀ x∈turnD (subV b p),-16777216≤x∧x≤16777216:=turnD_small (n:=8) (by omega) hdl hdi
 have HD:=lh (And.intro hdl hdi)
 have HT:=lh (And.intro htl htb)
 have HE:Hid (levelsE b p q=(turnD (subV b p)).map (levD q)):=lh rfl
 rw [HE.out] at HPost
 obtain ⟨ba,bc,rfl,-⟩:=hb.open
 obtain ⟨pa,pc,rfl,-⟩:=hp.open
 rw [lb,lp] at HS ⊢
 generalize subV b p=D at *
 clear hb hp lb lp sb sp hdl hdi htl htb HE
 have HLv:=lh (fun (W:World) (lo hi:Nat) (v:Value) (h:Ints .i64 lo hi W v (turnD D))=>klevels_any h (by rw [HT.out.1];omega) HT.out.2 q hq)
 generalize (turnD D).map (levD q)=LV at *
 go_enter Tryz.func102,Tryz.ntmps102
 go_wp2_with fail
 go_at_call 150
 refine HS.out.mono ?_
 rintro e w2 ⟨⟨dv,rfl,hown2⟩,hq2⟩
 obtain ⟨da,dc,rfl,-⟩:=hown2.ints.open
 have hn3:=Only.new w2 (.cells #[.int .i64 0,.slice none 0 0] 39)
 have HD3:=lh (hown2.ints.quiet hn3)
 have HQ3:=lh (hq2.q hn3)
 clear hown2 hq2 hn3
 go_wp2_with fail
 generalize hW3:World.alloc w2 _=W3 at *
 clear hW3
 go_at_call 151
 refine (kforward8_any HD3.out HD.out.1 HD.out.2).mono ?_
 exact qDRkF1
end
theorem results_ttc {P:Program} {fn:Func} {p q r:Tmp} {ty:TypeId} (h:fn.results=#[.tmp q,.tmp r,.cell p ty]) (tmps:Array Value) (w:World) (g:Nat) (t:TypeId) (cs:Array Value) (fr:Nat×Nat) (d:TypeDesc) (v u:Value)
  (hp:tmps.getD p undef=.pointer (some ⟨g,0,none⟩)) (hq:tmps.getD q undef=v) (hr:tmps.getD r undef=u) (hg:w.heap[g]?=some (.cells cs t fr))
  (hu:P.underlying ty=some d) (hd:(match d with | .struct _ | .array _ _=>true | _=>false)=true) (hi:(P.info? ty).map (·.size)=some cs.size) :
  (results fn tmps).run P w=.ok (.tuple #[v,u,.agg cs]) w:=by
 have hp':tmps[p]?.getD undef=.pointer (some ⟨g,0,none⟩):=by simpa using hp
 have hq':tmps[q]?.getD undef=v:=by simpa using hq
 have hr':tmps[r]?.getD undef=u:=by simpa using hr
 simp [results,h,hp',hq',hr',asAddr,run_loadVar_row w g t ty cs fr d hg hu hd hi]
section
theorem qDRkB0 {p:Prop} (h:p:=by
 exact ⟨hon.cell v0 (by rw [mSg];exact hn0),hon.cell v1 (by rw [mSg];exact hn0),hon.cell e0 (by rw [mSg];exact hne),hon.cell e1 (by rw [mSg];exact hne)⟩):p:=h
theorem kcost_any {lo hi lo' hi':Nat} {u v:Value} {a b:List Int} {vx vy:Int} {w:World} (ha:Ints .i64 lo hi w u a) (hb:Ints .i64 lo' hi' w v b) (hl:b.length=a.length) (hm:a.length≤64) (sa:SamOk a) (sb:SamOk b) (hvx:-15≤vx∧vx≤15) (hvy:-15≤vy∧vy≤15) :
  Calls Tryz.prog 105 #[u,v,.agg #[.int .i64 vx,.int .i64 vy]] w fun e w'=>(e=.returned (.tuple #[.int .i64 (costE a b vx vy),.agg #[.int .i64 0,.slice none 0 0]])∧Only [] w w'):=by
 refine hidQ fun Q HPost=>?_
 have HSa:=lh (fun (W:World) (o:Only [] w W)=>ksad_any (ha.quiet o) (hb.quiet o) hl hm sa sb)
 have HMy:=lh (fun (W:World)=>kvmay_any vx vy W hvx hvy)
 have hsi:=sad_in sa sb a.length
 rw [List.take_of_length_le (Nat.le_refl _),List.take_of_length_le (by omega)] at hsi
 have hs1:0≤sadD a b∧sadD a b≤20000:=by omega
 have HC:Hid (costE a b vx vy=4*sadD a b+max vx (-vx)+max vy (-vy)):=lh rfl
 rw [HC.out] at HPost
 obtain ⟨aa,ac,rfl,-⟩:=ha.open
 obtain ⟨ba,bc,rfl,-⟩:=hb.open
 generalize sadD a b=s at *
 obtain ⟨s0,s1⟩:=hs1
 obtain ⟨a0,a1⟩:=hvx
 obtain ⟨b0,b1⟩:=hvy
 have k0:IntKind.i64.wrap (4*s)=4*s:=by rw [IntKind.wrap_i64];omega
 have nx:IntKind.i64.wrap (-vx)=-vx:=by rw [IntKind.wrap_i64];omega
 have ny:IntKind.i64.wrap (-vy)=-vy:=by rw [IntKind.wrap_i64];omega
 obtain ⟨hb2,HV1,HE1,HZ1⟩:=boxes2 w (.cells #[.int .i64 vx,.int .i64 vy] 62) (.cells #[.int .i64 0,.slice none 0 0] 39)
 have HQ1:=lh hb2
 clear ha hb hl hm sa sb hsi hb2 HC
 go_enter Tryz.func105,Tryz.ntmps105
 go_wp2_with fail
 generalize hW1:World.alloc (World.alloc w _) _=W1 at *
 clear hW1
 go_at_call 155
 refine (HSa.out _ HQ1.out).mono ?_
 rintro e w2 ⟨rfl,hq2⟩
 have hn3:=Only.new w2 (.cells #[.int .i64 0,.slice none 0 0] 39)
 have HB3:=lh (heap_alloc_new w2 (.cells #[.int .i64 0,.slice none 0 0] 39))
 have HX3:=lh (hq2.q hn3)
 have Hne:Hid (w.heap.size+1<w2.heap.size):=lh (by have:=hq2.size;have:=HZ1.out;omega)
 clear hq2 hn3
 go_wp2_with fail
 generalize hW3:World.alloc w2 _=W3 at *
 clear hW3
 obtain ⟨B,hB⟩:∃ z,z=w2.heap.size:=⟨_,rfl⟩
 rw [← hB] at HB3 Hne ⊢
 clear hB
 go_at_call 46
 refine (kok_any _ _ _).mono ?_
 rintro e w4 ⟨rfl,hq4⟩
 have HX4:=lh (HX3.out.q hq4)
 have HB4:=lh (hq4.row HB3.out)
 clear hq4
 obtain ⟨v0,v1,-⟩:=row2 (HX4.out.row HV1.out)
 go_wp2_with fail
 clear v0 v1
 go_at_call 153
 refine (HMy.out _).mono ?_
 rintro e w5 ⟨rfl,hq5⟩
 have HX5:=lh (HX4.out.q hq5)
 have HB5:=lh (hq5.row HB4.out)
 clear hq5
 obtain ⟨v0,v1,-⟩:=row2 (HX5.out.row HV1.out)
 obtain ⟨e0,e1,-⟩:=row2 HB5.out
 obtain ⟨z0,z1,y0,y1',-⟩:=row2 (HX5.out.row HE1.out)
 obtain ⟨hrow,hon⟩:=row2_set (x:=.int .i64 0) (y:=.slice none 0 0) (HX5.out.row HE1.out)
 have hne:¬ B=w.heap.size+1:=by have:=Hne.out;omega
 have hn0:¬ w.heap.size=w.heap.size+1:=by omega
 have hall:=((HQ1.out.q HX5.out).trans hon (U:=[]) (by simp) (fun g hg hlt=>by rw [mSg] at hg;omega))
 go_upto_region 6 with (fail)
 by_cases hx:vx<0
 ·by_cases hy:vy<0
  ·have x1:vx < -vx:=by omega
   have x2:¬ -vx<vx:=by omega
   have y1:vy < -vy:=by omega
   have y2:¬ -vy<vy:=by omega
   have k1:IntKind.i64.wrap (4*s+-vx)=4*s+-vx:=by rw [IntKind.wrap_i64];omega
   have k2:IntKind.i64.wrap (4*s+-vx+-vy)=4*s+-vx+-vy:=by rw [IntKind.wrap_i64];omega
   have hfin:Hid (4*s+-vx+-vy=4*s+max vx (-vx)+max vy (-vy)):=lh (by omega)
   refine wp_region_held_drew (S:=(fun w'=>w'.cell? ⟨w.heap.size,0,none⟩=some (.int .i64 vx)∧w'.cell? ⟨w.heap.size,1,none⟩=some (.int .i64 vy)∧w'.cell? ⟨B,0,none⟩=some (.int .i64 0)∧w'.cell? ⟨B,1,none⟩=some (.slice none 0 0))) (by kernel_rfl) ?_ (fun hHeld=>?_)
   ·exact ⟨v0,v1,e0,e1⟩
   refine tk 0 24 ?_
   refine tk 1 25 ?_
   refine tk 2 26 ?_
   refine tk 3 27 ?_
   refine tk 4 28 ?_
   refine tk 5 29 ?_
   refine tk 6 30 ?_
   refine tk 7 31 ?_
   refine tk 8 32 ?_
   refine tk 9 33 ?_
   refine tk 10 34 ?_
   refine tk 11 35 ?_
   refine tk 12 36 ?_
   refine tk 13 37 ?_
   refine tk 14 38 ?_
   refine tk 15 39 ?_
   refine tk 16 40 ?_
   refine tk 17 6 ?_
   refine rdy (rdn 18 (fun K hK=>?_) .nil)
   go_simp
   refine hK.out _ _ ?_ (fun hHeld=>?_)
   ·exact qDRkB0
   clear hK K
   try simp only [Act.put,List.setIfInBounds_toArray,List.set_cons_zero,List.set_cons_succ]
   refine wpAnyH_done (by kernel_rfl) ?_ _
   go_wp2_with fail
   exact bodyPost_ret (v:=.tuple #[.int .i64 (4*s+-vx+-vy),.agg #[.int .i64 0,.slice none 0 0]]) (results_tmp_cell Tryz.results105 _ _ (w.heap.size+1) _ _ _ _ _ rfl rfl hrow Tryz.underlying39 rfl (err_info _ rfl)) rfl (HPost.out _ _ ⟨by rw [hfin.out],hall.drew⟩)
  ·have x1:vx < -vx:=by omega
   have x2:¬ -vx<vx:=by omega
   have y1:¬ vy < -vy:=by omega
   have y2:-vy≤vy:=by omega
   have k1:IntKind.i64.wrap (4*s+-vx)=4*s+-vx:=by rw [IntKind.wrap_i64];omega
   have k2:IntKind.i64.wrap (4*s+-vx+vy)=4*s+-vx+vy:=by rw [IntKind.wrap_i64];omega
   have hfin:Hid (4*s+-vx+vy=4*s+max vx (-vx)+max vy (-vy)):=lh (by omega)
   refine wp_region_held_drew (S:=(fun w'=>w'.cell? ⟨w.heap.size,0,none⟩=some (.int .i64 vx)∧w'.cell? ⟨w.heap.size,1,none⟩=some (.int .i64 vy)∧w'.cell? ⟨B,0,none⟩=some (.int .i64 0)∧w'.cell? ⟨B,1,none⟩=some (.slice none 0 0))) (by kernel_rfl) ?_ (fun hHeld=>?_)
   ·exact ⟨v0,v1,e0,e1⟩
   refine tk 0 24 ?_
   refine tk 1 25 ?_
   refine tk 2 26 ?_
   refine tk 3 27 ?_
   refine tk 4 28 ?_
   refine tk 5 29 ?_
   refine tk 6 30 ?_
   refine tk 7 31 ?_
   refine tk 8 32 ?_
   refine tk 9 33 ?_
   refine tk 10 34 ?_
   refine tk 11 35 ?_
   refine tk 12 36 ?_
   refine tk 13 37 ?_
   refine tk 14 38 ?_
   refine tk 15 39 ?_
   refine tk 16 40 ?_
   refine tk 17 6 ?_
   refine rdy (rdn 18 (fun K hK=>?_) .nil)
   go_simp
   refine hK.out _ _ ?_ (fun hHeld=>?_)
   ·exact qDRkB0
   clear hK K
   try simp only [Act.put,List.setIfInBounds_toArray,List.set_cons_zero,List.set_cons_succ]
   refine wpAnyH_done (by kernel_rfl) ?_ _
   go_wp2_with fail
   exact bodyPost_ret (v:=.tuple #[.int .i64 (4*s+-vx+vy),.agg #[.int .i64 0,.slice none 0 0]]) (results_tmp_cell Tryz.results105 _ _ (w.heap.size+1) _ _ _ _ _ rfl rfl hrow Tryz.underlying39 rfl (err_info _ rfl)) rfl (HPost.out _ _ ⟨by rw [hfin.out],hall.drew⟩)
 ·by_cases hy:vy<0
  ·have x1:¬ vx < -vx:=by omega
   have x2:-vx≤vx:=by omega
   have y1:vy < -vy:=by omega
   have y2:¬ -vy<vy:=by omega
   have k1:IntKind.i64.wrap (4*s+vx)=4*s+vx:=by rw [IntKind.wrap_i64];omega
   have k2:IntKind.i64.wrap (4*s+vx+-vy)=4*s+vx+-vy:=by rw [IntKind.wrap_i64];omega
   have hfin:Hid (4*s+vx+-vy=4*s+max vx (-vx)+max vy (-vy)):=lh (by omega)
   refine wp_region_held_drew (S:=(fun w'=>w'.cell? ⟨w.heap.size,0,none⟩=some (.int .i64 vx)∧w'.cell? ⟨w.heap.size,1,none⟩=some (.int .i64 vy)∧w'.cell? ⟨B,0,none⟩=some (.int .i64 0)∧w'.cell? ⟨B,1,none⟩=some (.slice none 0 0))) (by kernel_rfl) ?_ (fun hHeld=>?_)
   ·exact ⟨v0,v1,e0,e1⟩
   refine tk 0 24 ?_
   refine tk 1 25 ?_
   refine tk 2 26 ?_
   refine tk 3 27 ?_
   refine tk 4 28 ?_
   refine tk 5 29 ?_
   refine tk 6 30 ?_
   refine tk 7 31 ?_
   refine tk 8 32 ?_
   refine tk 9 33 ?_
   refine tk 10 34 ?_
   refine tk 11 35 ?_
   refine tk 12 36 ?_
   refine tk 13 37 ?_
   refine tk 14 38 ?_
   refine tk 15 39 ?_
   refine tk 16 40 ?_
   refine tk 17 6 ?_
   refine rdy (rdn 18 (fun K hK=>?_) .nil)
   go_simp
   refine hK.out _ _ ?_ (fun hHeld=>?_)
   ·exact qDRkB0
   clear hK K
   try simp only [Act.put,List.setIfInBounds_toArray,List.set_cons_zero,List.set_cons_succ]
   refine wpAnyH_done (by kernel_rfl) ?_ _
   go_wp2_with fail
   exact bodyPost_ret (v:=.tuple #[.int .i64 (4*s+vx+-vy),.agg #[.int .i64 0,.slice none 0 0]]) (results_tmp_cell Tryz.results105 _ _ (w.heap.size+1) _ _ _ _ _ rfl rfl hrow Tryz.underlying39 rfl (err_info _ rfl)) rfl (HPost.out _ _ ⟨by rw [hfin.out],hall.drew⟩)
  ·have x1:¬ vx < -vx:=by omega
   have x2:-vx≤vx:=by omega
   have y1:¬ vy < -vy:=by omega
   have y2:-vy≤vy:=by omega
   have k1:IntKind.i64.wrap (4*s+vx)=4*s+vx:=by rw [IntKind.wrap_i64];omega
   have k2:IntKind.i64.wrap (4*s+vx+vy)=4*s+vx+vy:=by rw [IntKind.wrap_i64];omega
   have hfin:Hid (4*s+vx+vy=4*s+max vx (-vx)+max vy (-vy)):=lh (by omega)
   refine wp_region_held_drew (S:=(fun w'=>w'.cell? ⟨w.heap.size,0,none⟩=some (.int .i64 vx)∧w'.cell? ⟨w.heap.size,1,none⟩=some (.int .i64 vy)∧w'.cell? ⟨B,0,none⟩=some (.int .i64 0)∧w'.cell? ⟨B,1,none⟩=some (.slice none 0 0))) (by kernel_rfl) ?_ (fun hHeld=>?_)
   ·exact ⟨v0,v1,e0,e1⟩
   refine tk 0 24 ?_
   refine tk 1 25 ?_
   refine tk 2 26 ?_
   refine tk 3 27 ?_
   refine tk 4 28 ?_
   refine tk 5 29 ?_
   refine tk 6 30 ?_
   refine tk 7 31 ?_
   refine tk 8 32 ?_
   refine tk 9 33 ?_
   refine tk 10 34 ?_
   refine tk 11 35 ?_
   refine tk 12 36 ?_
   refine tk 13 37 ?_
   refine tk 14 38 ?_
   refine tk 15 39 ?_
   refine tk 16 40 ?_
   refine tk 17 6 ?_
   refine rdy (rdn 18 (fun K hK=>?_) .nil)
   go_simp
   refine hK.out _ _ ?_ (fun hHeld=>?_)
   ·exact qDRkB0
   clear hK K
   try simp only [Act.put,List.setIfInBounds_toArray,List.set_cons_zero,List.set_cons_succ]
   refine wpAnyH_done (by kernel_rfl) ?_ _
   go_wp2_with fail
   exact bodyPost_ret (v:=.tuple #[.int .i64 (4*s+vx+vy),.agg #[.int .i64 0,.slice none 0 0]]) (results_tmp_cell Tryz.results105 _ _ (w.heap.size+1) _ _ _ _ _ rfl rfl hrow Tryz.underlying39 rfl (err_info _ rfl)) rfl (HPost.out _ _ ⟨by rw [hfin.out],hall.drew⟩)
theorem sad_comm (a b:List Int):sadD a b=sadD b a:=by
 unfold sadD
 rw [List.zipWith_comm]
 congr 2
 funext x y
 omega
theorem kbest_any {n:Nat} (hn:n=4∨n=8) {lo hi lo' hi' lo2 hi2:Nat} {bv tv lv:Value} {b top left:List Int} {w:World} (hb:Ints .i64 lo2 hi2 w bv b) (ht:Ints .i64 lo hi w tv top) (hl:Ints .i64 lo' hi' w lv left) (lb:b.length=n*n) (lt:top.length=n) (ll:left.length=n) (sb:SamOk b) (st:SamOk top) (sl:SamOk left) {corner:Int} (hc:0≤corner∧corner≤255) :
  Calls Tryz.prog 107 #[bv,tv,lv,.int .i64 corner] w fun e w'=>(e=.returned (.tuple #[.int .i64 (bestE b top left corner).1,.int .i64 (bestE b top left corner).2,.agg #[.int .i64 0,.slice none 0 0]])∧Only [] w w'):=by
 refine hidQ fun Q HPost=>?_
 have HPr:=lh (fun (W:World) (o:Only [] w W) (m:Nat) (hm:m≤3)=>(by
  rcases hn with rfl | rfl
  ·exact kpredict4_any (ht.quiet o) (hl.quiet o) lt ll st sl hc (mode:=(m:Int)) (by omega)
  ·exact kpredict8_any (ht.quiet o) (hl.quiet o) lt ll st sl hc (mode:=(m:Int)) (by omega):Calls Tryz.prog 108 #[.int .i64 (m:Int),tv,lv,.int .i64 corner] W fun e w'=>((∃ v',e=.returned (.tuple #[v',.agg #[.int .i64 0,.slice none 0 0]])∧Own .i64 3 W.heap.size w' v' (predD (m:Int) top left corner))∧Only [] W w')))
 have HWi:=lh (fun (W:World) (o:Only [] w W)=>by have:=within_any 0 255 (hb.quiet o);rw [show withinB b 0 255=true from samOk_iff.2 sb] at this;exact this)
 have hpl:∀ m:Nat,(predD (m:Int) top left corner).length=n*n:=fun m=>by rw [predD_len,lt]
 have HPl:=lh (fun m:Nat=>(by rw [hpl m];rcases hn with rfl | rfl <;> omega:0<(predD (m:Int) top left corner).length))
 have HSad:=lh (fun (W:World) (o:Only [] w W) (m:Nat) (l1 l2:Nat) (v:Value) (hv:Ints .i64 l1 l2 W v (predD (m:Int) top left corner))=>by have:=ksad_any hv (hb.quiet o) (by rw [hpl m,lb]) (by rw [hpl m];rcases hn with rfl | rfl <;> omega) (predD_in st sl (by rw [lt];rcases hn with rfl | rfl <;> omega) (m:Int) corner) sb;rw [sad_comm] at this;exact this)
 have HE:Hid (bestE b top left corner=bestGo b top left corner ([0,1,2,3].drop 0) (0,-1)):=lh rfl
 have HStep:=lh (fun (k:Nat) (h:k<4) (bm:Nat) (ls:Int)=>(by rw [drop_modes h];rfl:bestGo b top left corner (([0,1,2,3]:List Nat).drop k) (bm,ls)=bestGo b top left corner (([0,1,2,3]:List Nat).drop (k+1)) (if ls<0∨sadD b (predD (k:Int) top left corner)<ls then (k,sadD b (predD (k:Int) top left corner)) else (bm,ls))))
 have HEnd:Hid (∀ r,bestGo b top left corner (([0,1,2,3]:List Nat).drop 4) r=r):=lh (fun r=>rfl)
 obtain ⟨a1,c1,rfl,-⟩:=hb.open
 obtain ⟨a2,c2,rfl,-⟩:=ht.open
 obtain ⟨a3,c3,rfl,-⟩:=hl.open
 obtain ⟨m,hm⟩:∃ m,m=n*n:=⟨_,rfl⟩
 have hnw:IntKind.i64.wrap ((n:Int)*(n:Int))=(m:Int):=by rw [hm];rcases hn with rfl | rfl <;> decide
 rw [← hm] at lb
 rw [lb] at HWi HSad
 rw [lt,ll] at HPr
 rw [lb,lt,ll]
 have HP0:=lh (fun (W:World) (o:Only [] w W)=>HPr.out W o 0 (by omega))
 have hp0:=HPl.out 0
 obtain ⟨BE,hBE⟩:∃ z,z=bestE b top left corner:=⟨_,rfl⟩
 rw [← hBE] at HE HPost
 generalize hgo:bestGo b top left corner=go at *
 rw [show ((0:Nat):Int)=0 from rfl] at HP0 hp0
 obtain ⟨P0,hP0⟩:∃ z,z=predD 0 top left corner:=⟨_,rfl⟩
 rw [← hP0] at HP0 hp0
 have HPn:=lh hp0
 have HQ1:=lh (Only.new w (.cells #[.int .i64 0,.slice none 0 0] 39))
 have HE1:=lh (heap_alloc_new w (.cells #[.int .i64 0,.slice none 0 0] 39))
 have HZ1:Hid ((w.alloc (.cells #[.int .i64 0,.slice none 0 0] 39)).heap.size=w.heap.size+1):=lh (by simp)
 clear hb ht hl lb lt ll sb st sl hc hpl hBE hgo hn hm hP0 hp0
 go_enter Tryz.func107,Tryz.ntmps107
 go_wp2_with fail
 generalize hW1:World.alloc w _=W1 at *
 clear hW1
 go_at_call 108
 refine (HP0.out _ HQ1.out).mono ?_
 rintro e w2 ⟨⟨v2,rfl,ho2⟩,hq2⟩
 obtain ⟨g2,cap2,rfl,-,-⟩:=ho2.form HPn.out
 have HX3:=lh (hq2.q (Only.new w2 (.cells #[.int .i64 0,.slice none 0 0] 39)))
 have HB3:=lh (heap_alloc_new w2 (.cells #[.int .i64 0,.slice none 0 0] 39))
 have Hne:Hid (w.heap.size<w2.heap.size):=lh (by have:=hq2.size;have:=HZ1.out;omega)
 clear ho2 hq2
 go_wp2_with fail
 generalize hW3:World.alloc w2 _=W3 at *
 clear hW3
 obtain ⟨B,hB⟩:∃ z,z=w2.heap.size:=⟨_,rfl⟩
 rw [← hB] at HB3 Hne ⊢
 clear hB
 go_at_call 46
 refine (kok_any _ _ _).mono ?_
 rintro e w4 ⟨rfl,hq4⟩
 have HX4:=lh (HX3.out.q hq4)
 have HB4:=lh (hq4.row HB3.out)
 clear hq4
 go_wp2_with fail
 go_at_call 26
 refine (HWi.out _ (HQ1.out.q HX4.out)).mono ?_
 rintro e w5 ⟨rfl,hw5⟩
 subst hw5
 go_wp2_with fail
 go_loopw [13,14,15,16,17,18,19] (fun u v i _ _ _ _ wr=>∃ (k bm:Nat) (ls:Int),k≤4∧i=.int .i64 k∧u=.int .i64 bm∧v=.int .i64 ls∧Hid (go (([0,1,2,3]:List Nat).drop k) (bm,ls)=BE)∧Hid (Only [] w4 wr)) (fun _ _ i _ _ _ _ _=>4-(intOf i).toNat)
 case atStart=>exact ⟨0,0,-1,by omega,rfl,rfl,rfl,lh HE.out.symm,lh (Only.refl _ _)⟩
 case round =>
  obtain ⟨k,bm,ls,hk,rfl,rfl,rfl,Hgo,HQk⟩:=hrel
  by_cases hlt:k<4
  ·have hki:(k:Int)<4:=by omega
   have hk0:(0:Int)≤(k:Int):=by omega
   have HQw:=lh ((HQ1.out.q HX4.out).q HQk.out)
   have HFk:=lh (HPr.out wr HQw.out k (by omega))
   have HSk:=lh (fun (W:World) (o:Only [] w W)=>HSad.out W o k)
   have HLk:=lh (HPl.out k)
   have HSt:=lh (HStep.out k hlt bm ls)
   generalize sadD b (predD (k:Int) top left corner)=sd at *
   generalize predD (k:Int) top left corner=P at *
   go_wp2_with fail
   go_at_call 108
   refine HFk.out.mono ?_
   rintro e w6 ⟨⟨v6,rfl,ho6⟩,hq6⟩
   obtain ⟨g6,cap6,rfl,-,-⟩:=ho6.form HLk.out
   have HX7:=lh (HQk.out.q (hq6.q (Only.new w6 (.cells #[.int .i64 0,.slice none 0 0] 39))))
   have HO7:=lh (ho6.ints.quiet (Only.new w6 (.cells #[.int .i64 0,.slice none 0 0] 39)))
   clear ho6 hq6
   go_wp2_with fail
   generalize hW7:World.alloc w6 _=W7 at *
   clear hW7
   go_at_call 155
   refine (HSk.out _ ((HQ1.out.q HX4.out).q HX7.out) _ _ _ HO7.out).mono ?_
   rintro e w8 ⟨rfl,hq8⟩
   have HX9:=lh (HX7.out.q (hq8.q (Only.new w8 (.cells #[.int .i64 0,.slice none 0 0] 39))))
   clear hq8
   by_cases hls:ls<0
   ·have HSn:Hid (go (([0,1,2,3]:List Nat).drop (k+1)) (k,sd)=BE):=lh (by rw [← Hgo.out,HSt.out,if_pos (.inl hls)])
    clear HSt
    go_wp2_with fail
    exact ⟨⟨k+1,k,sd,by omega,by go_num,rfl,rfl,HSn,HX9⟩,by simp [intOf];omega⟩
   ·by_cases hsd:sd<ls
    ·have HSn:Hid (go (([0,1,2,3]:List Nat).drop (k+1)) (k,sd)=BE):=lh (by rw [← Hgo.out,HSt.out,if_pos (.inr hsd)])
     clear HSt
     go_wp2_with fail
     exact ⟨⟨k+1,k,sd,by omega,by go_num,rfl,rfl,HSn,HX9⟩,by simp [intOf];omega⟩
    ·have HSn:Hid (go (([0,1,2,3]:List Nat).drop (k+1)) (bm,ls)=BE):=lh (by rw [← Hgo.out,HSt.out,if_neg (by omega)])
     clear HSt
     go_wp2_with fail
     exact ⟨⟨k+1,bm,ls,by omega,by go_num,rfl,rfl,HSn,HX9⟩,by simp [intOf];omega⟩
  ·obtain rfl:k=4:=by omega
   have hki:¬ ((4:Nat):Int)<4:=by omega
   have hBE:BE=(bm,ls):=by rw [← Hgo.out,HEnd.out]
   have HBE:=lh hBE
   clear hBE
   have hb5:=HQk.out.row HB4.out
   have he5:=HQk.out.row (HX4.out.row HE1.out)
   obtain ⟨e0,e1,-⟩:=row2 hb5
   obtain ⟨z0,z1,y0,y1,-⟩:=row2 he5
   obtain ⟨hrow,hon⟩:=row2_set (x:=.int .i64 0) (y:=.slice none 0 0) he5
   have hne:¬ B=w.heap.size:=by have:=Hne.out;omega
   have hall:=((HQ1.out.q (HX4.out.q HQk.out)).trans hon (U:=[]) (by simp) (fun g hg hlt=>by rw [mSg] at hg;omega))
   go_upto_region 16 with (fail)
   refine wp_region_held_drew (S:=(fun w'=>w'.cell? ⟨B,0,none⟩=some (.int .i64 0)∧w'.cell? ⟨B,1,none⟩=some (.slice none 0 0))) (by kernel_rfl) ?_ (fun hHeld=>?_)
   ·exact ⟨e0,e1⟩
   refine tk 0 71 ?_
   refine tk 1 72 ?_
   refine tk 2 73 ?_
   refine tk 3 8 ?_
   refine tk 4 9 ?_
   refine rdy (rdn 5 (fun K hK=>?_) .nil)
   go_simp
   refine hK.out _ _ ?_ (fun hHeld=>?_)
   ·exact ⟨hon.cell e0 (by rw [mSg];exact hne),hon.cell e1 (by rw [mSg];exact hne)⟩
   clear hK K
   try simp only [Act.put,List.setIfInBounds_toArray,List.set_cons_zero,List.set_cons_succ]
   refine wpAnyH_done (by kernel_rfl) ?_ _
   go_wp2_with fail
   refine bodyPost_ret (v:=.tuple #[.int .i64 bm,.int .i64 ls,.agg #[.int .i64 0,.slice none 0 0]]) (results_ttc Tryz.results107 _ _ w.heap.size _ _ _ _ _ _ rfl rfl rfl hrow Tryz.underlying39 rfl (err_info _ rfl)) rfl (HPost.out _ _ ⟨?_,hall.drew⟩)
   rw [HBE.out]
end
end Go.Proofs.YtmgbbgffkakcaaaGreatDoor
