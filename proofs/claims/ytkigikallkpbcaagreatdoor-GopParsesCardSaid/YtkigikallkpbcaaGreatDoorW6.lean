/- Joined texts: EBest, EMot, ESea. Conditions: each part names its own. -/
import Derived.Test.YtkigikallkpbcaaGreatDoorT1
import Derived.Test.YtkigikallkpbcaaGreatDoorW5
import Derived.Test.YtkigikallkpbcaaGreatDoorS8
import Derived.Test.YtkigikallkpbcaaGreatDoorS6
import Derived.Deep.DeepCutAuto
import Derived.Test.YtkigikallkpbcaaGreatDoorK6
import Derived.Test.YtkigikallkpbcaaGreatDoorR1
import Derived.Test.YtkigikallkpbcaaGreatDoorK7
import Derived.Test.YtkigikallkpbcaaGreatDoorS7
import Derived.Test.YtkigikallkpbcaaGreatDoorC4
import Derived.Test.YtkigikallkpbcaaGreatDoorR2
import Derived.WalkMore
import Derived.Deep.CutBlock
namespace Go.Proofs.YtkigikallkpbcaaGreatDoor
open Go.RowKit
set_option linter.unusedVariables false
set_option linter.unusedSimpArgs false
set_option maxRecDepth 100000
set_option maxHeartbeats 16000000
theorem drop_modes {k:Nat} (h:k<4):([0,1,2,3]:List Nat).drop k=k :: ([0,1,2,3]:List Nat).drop (k+1):=by
 match k,h with
 | 0,_=>rfl
 | 1,_=>rfl
 | 2,_=>rfl
 | 3,_=>rfl
section
theorem mbest_any {n:Nat} (hn:n=4∨n=8) {lo hi lo' hi' lo2 hi2:Nat} {bv tv lv:Value} {b top left:List Int} {w:World} (hb:Ints .i64 lo2 hi2 w bv b) (ht:Ints .i64 lo hi w tv top) (hl:Ints .i64 lo' hi' w lv left) (lb:b.length=n*n) (lt:top.length=n) (ll:left.length=n) (sb:SamOk b) (st:SamOk top) (sl:SamOk left) {corner:Int} (hc:0≤corner∧corner≤255) :
  Calls Tryz.prog 158 #[bv,tv,lv,.int .i64 corner] w fun e w'=>e=.returned (.tuple #[.int .i64 (bestE b top left corner).1,.int .i64 (bestE b top left corner).2,.nilIface])∧Only [] w w':=by
 refine hidQ fun Q HPost=>?_
 have HCk:=lh (icheck_any ht hl (by omega) (by omega) st sl hc)
 have HSm:=lh (fun (W:World) (o:Only [] w W)=>by have:=samples_any (hb.quiet o) (by rcases hn with rfl | rfl <;> omega);rw [show withinB b 0 255=true by unfold withinB;simpa using fun z hz=>sb z hz] at this;exact this)
 have HF:=lh (fun (W:World) (o:Only [] w W) (m:Nat) (hm:m≤3)=>(by
  rcases hn with rfl | rfl
  ·exact foretell4_any (ht.quiet o) (hl.quiet o) lt ll st sl hc (mode:=(m:Int)) (by omega)
  ·exact foretell8_any (ht.quiet o) (hl.quiet o) lt ll st sl hc (mode:=(m:Int)) (by omega):Calls Tryz.prog 173 #[.int .i64 (m:Int),tv,lv,.int .i64 corner] W fun e w'=>∃ v',e=.returned v'∧Own .i64 3 W.heap.size w' v' (predD (m:Int) top left corner)∧Only [] W w'))
 have hpl:∀ m:Nat,(predD (m:Int) top left corner).length=n*n:=fun m=>by rw [predD_len,lt]
 have HPl:=lh (fun m:Nat=>(by rw [hpl m];rcases hn with rfl | rfl <;> omega:0<(predD (m:Int) top left corner).length))
 have HSad:=lh (fun (W:World) (o:Only [] w W) (m:Nat) (l1 l2:Nat) (v:Value) (hv:Ints .i64 l1 l2 W v (predD (m:Int) top left corner))=>sad_any (hb.quiet o) hv (by rw [hpl m,lb]) (by rcases hn with rfl | rfl <;> omega) sb (predD_in st sl (by rcases hn with rfl | rfl <;> omega) _ _))
 have HE:Hid (bestE b top left corner=bestGo b top left corner ([0,1,2,3].drop 0) (0,-1)):=lh rfl
 have HStep:=lh (fun (k:Nat) (h:k<4) (bm:Nat) (ls:Int)=>(by rw [drop_modes h];rfl:bestGo b top left corner (([0,1,2,3]:List Nat).drop k) (bm,ls)=bestGo b top left corner (([0,1,2,3]:List Nat).drop (k+1)) (if ls<0∨sadD b (predD (k:Int) top left corner)<ls then (k,sadD b (predD (k:Int) top left corner)) else (bm,ls))))
 have HEnd:Hid (∀ r,bestGo b top left corner (([0,1,2,3]:List Nat).drop 4) r=r):=lh (fun r=>rfl)
 have hnn:n*n=16∨n*n=64:=by rcases hn with rfl | rfl <;> simp
 obtain ⟨a1,c1,rfl,-⟩:=hb.open
 obtain ⟨a2,c2,rfl,-⟩:=ht.open
 obtain ⟨a3,c3,rfl,-⟩:=hl.open
 obtain ⟨m,hm⟩:∃ m,m=n*n:=⟨_,rfl⟩
 rw [← hm] at lb hnn
 have hne:((m:Int) != (n:Int)*(n:Int))=false:=by rw [hm];simp
 rw [lb] at HSm HSad
 rw [lt,ll] at HCk HF
 rw [lb,lt,ll]
 obtain ⟨BE,hBE⟩:∃ z,z=bestE b top left corner:=⟨_,rfl⟩
 rw [← hBE] at HE HPost
 generalize hgo:bestGo b top left corner=go at *
 have hnw:IntKind.i64.wrap ((n:Int)*(n:Int))=(n:Int)*(n:Int):=by
  rcases hn with rfl | rfl <;> decide
 clear hb ht hl lb lt ll sb st sl hc hpl hBE hgo hn hm
 go_enter Tryz.func158,Tryz.ntmps158
 go_wp2_with fail
 go_at_call 172
 refine HCk.out.mono ?_
 rintro e w1 ⟨rfl,hq1⟩
 have HQ1:=lh hq1
 clear hq1
 go_wp2_with fail
 go_at_call 102
 refine (HSm.out w1 HQ1.out).mono ?_
 rintro e w2 ⟨rfl,hq2⟩
 have HQ2:=lh (HQ1.out.q hq2)
 clear hq2 HSm HCk
 go_wp2_with fail
 go_loopw [12,13,40] (fun u v i wr=>∃ (k bm:Nat) (ls:Int),k≤4∧i=.int .i64 k∧u=.int .i64 bm∧v=.int .i64 ls∧Hid (go (([0,1,2,3]:List Nat).drop k) (bm,ls)=BE)∧Hid (Only [] w wr)) (fun _ _ i _=>4-(intOf i).toNat)
 case atStart=>exact ⟨0,0,-1,by omega,rfl,rfl,rfl,lh HE.out.symm,HQ2⟩
 case round =>
  obtain ⟨k,bm,ls,hk,rfl,rfl,rfl,Hgo,HQk⟩:=hrel
  by_cases hlt:k<4
  ·have hki:(k:Int)<4:=by omega
   have hk0:(0:Int)≤(k:Int):=by omega
   have HFk:=lh (HF.out wr HQk.out k (by omega))
   have HSk:=lh (fun (W:World) (o:Only [] w W)=>HSad.out W o k)
   have HLk:=lh (HPl.out k)
   have HSt:=lh (HStep.out k hlt bm ls)
   generalize sadD b (predD (k:Int) top left corner)=sd at *
   generalize predD (k:Int) top left corner=P at *
   go_wp2_with fail
   go_at_call 173
   refine HFk.out.mono ?_
   rintro e w3 ⟨v3,rfl,hown,hq3⟩
   obtain ⟨g3,gc3,rfl,-,-⟩:=hown.form HLk.out
   have HO3:=lh hown
   have HQ3:=lh (HQk.out.q hq3)
   clear hown hq3
   go_wp2_with fail
   go_at_call 156
   refine (HSk.out w3 HQ3.out _ _ _ HO3.out.ints).mono ?_
   rintro e w4 ⟨rfl,hq4⟩
   have HQ4:=lh (HQ3.out.q hq4)
   clear hq4
   by_cases hb1:ls<0
   ·have Hn:Hid (go (([0,1,2,3]:List Nat).drop (k+1)) (k,sd)=BE):=lh (by rw [← Hgo.out,HSt.out,if_pos (Or.inl hb1)])
    go_wp2_with fail
    exact ⟨⟨k+1,k,sd,by omega,by go_num,rfl,rfl,Hn,HQ4⟩,by simp [intOf];omega⟩
   ·by_cases hb2:sd<ls
    ·have Hn:Hid (go (([0,1,2,3]:List Nat).drop (k+1)) (k,sd)=BE):=lh (by rw [← Hgo.out,HSt.out,if_pos (Or.inr hb2)])
     go_wp2_with fail
     exact ⟨⟨k+1,k,sd,by omega,by go_num,rfl,rfl,Hn,HQ4⟩,by simp [intOf];omega⟩
    ·have Hn:Hid (go (([0,1,2,3]:List Nat).drop (k+1)) (bm,ls)=BE):=lh (by rw [← Hgo.out,HSt.out,if_neg (fun h=>h.elim hb1 hb2)])
     go_wp2_with fail
     exact ⟨⟨k+1,bm,ls,by omega,by go_num,rfl,rfl,Hn,HQ4⟩,by simp [intOf];omega⟩
  ·obtain rfl:k=4:=by omega
   have hki:¬ ((4:Nat):Int)<4:=by omega
   have HB:Hid (BE=(bm,ls)):=lh (by rw [← Hgo.out,HEnd.out])
   rw [HB.out] at HPost
   go_wp2_with fail
   exact bodyPost_ret (v:=.tuple #[.int .i64 bm,.int .i64 ls,.nilIface]) (by simp [results,Tryz.results158,go_sem]) rfl (HPost.out _ _ ⟨rfl,HQk.out⟩)
theorem mone_any {n q:Nat} (hn:n=4∨n=8) {lo hi lo2 hi2:Nat} {pv bv:Value} {f:FrameD} {b:List Int} {w:World} (hok:FrOk f) (h:Ints .i64 lo hi w pv f.pix) (hb:Ints .i64 lo2 hi2 w bv b) (lb:b.length=n*n) (sb:SamOk b) (x y:Int) (hx:0≤x) (hxn:x+n≤f.W) (hy:0≤y) (hyn:y+n≤f.H) (hq:q≤15) :
  Calls Tryz.prog 133 #[.agg #[.int .i64 f.W,.int .i64 f.H,pv],bv,.int .i64 x,.int .i64 y,.int .i64 n,.int .i64 q] w fun e w'=>∃ v',e=.returned (.tuple #[.int .i64 (bestAt f b x y n).1,.int .i64 (bestAt f b x y n).2,v'])∧Own .i64 3 w.heap.size w' v' (oneL f b x y n q)∧Only [] w w':=by
 refine hidQ fun Q HPost=>?_
 have hE:=lh (fun (W:World) (o:Only [] w W)=>edges_any hok (h.quiet o) x y n hn hx hxn hy hyn)
 have tl:=topD_len f x y n
 have ll:=leftD_len f x y n
 have ts:=topD_in hok.sam x y n
 have ls:=leftD_in hok.sam x y n
 have cs:=sampleD_in hok.sam (x-1) (y-1)
 have HBs:=lh (fun (W:World) (o:Only [] w W) (l1 h1 l2 h2:Nat) (v1 v2:Value) (i1:Ints .i64 l1 h1 W v1 (topD f x y n)) (i2:Ints .i64 l2 h2 W v2 (leftD f x y n))=>mbest_any hn (hb.quiet o) i1 i2 lb tl ll sb ts ls cs)
 have hble:=bestAt_le f b x y n
 have HPr:=lh (fun (W:World) (l1 h1 l2 h2:Nat) (v1 v2:Value) (i1:Ints .i64 l1 h1 W v1 (topD f x y n)) (i2:Ints .i64 l2 h2 W v2 (leftD f x y n))=>predict_any i1 i2 (by omega) (by omega) ts ls cs (mode:=((bestAt f b x y n).1:Int)) (by omega))
 have hpo:=predE_ok hok.sam x y (n:=n) (by rcases hn with rfl | rfl <;> omega) (bestAt f b x y n).1
 have HLv:=lh (fun (W:World) (o:Only [] w W) (l1 h1:Nat) (v1:Value) (i1:Ints .i64 l1 h1 W v1 (predE f x y n (bestAt f b x y n).1))=>declevels_any hn (hb.quiet o) i1 lb hpo.1 sb hpo.2 q hq)
 have HA:Hid (bestE b (topD f x y n) (leftD f x y n) (sampleD f (x-1) (y-1))=bestAt f b x y n):=lh rfl
 have HB:Hid (predD ((bestAt f b x y n).1:Int) (topD f x y n) (leftD f x y n) (sampleD f (x-1) (y-1))=predE f x y n (bestAt f b x y n).1):=lh rfl
 have HC:Hid (levelsE b (predE f x y n (bestAt f b x y n).1) q=oneL f b x y n q):=lh rfl
 rw [HA.out] at HBs
 rw [HB.out] at HPr
 rw [HC.out] at HLv
 have HTl:Hid (0<(topD f x y n).length∧0<(leftD f x y n).length∧0<(predE f x y n (bestAt f b x y n).1).length):=lh ⟨by rw [tl];omega,by rw [ll];omega,by rw [hpo.1];rcases hn with rfl | rfl <;> omega⟩
 obtain ⟨pa,pc,rfl,-⟩:=h.open
 obtain ⟨qa,qc,rfl,-⟩:=hb.open
 have HQ0:=lh (Only.new w (.cells #[.int .i64 f.W,.int .i64 f.H,.slice pa f.pix.length pc] 73))
 have HR0:=lh (heap_alloc_new w (.cells #[.int .i64 f.W,.int .i64 f.H,.slice pa f.pix.length pc] 73))
 generalize predE f x y n (bestAt f b x y n).1=P at *
 generalize oneL f b x y n q=L at *
 generalize bestAt f b x y n=BA at *
 generalize topD f x y n=T at *
 generalize leftD f x y n=LF at *
 generalize sampleD f (x-1) (y-1)=C at *
 obtain ⟨bm,bs⟩:=BA
 simp only at HPost HBs HPr hble
 obtain ⟨m,hm⟩:∃ m,m=n*n:=⟨_,rfl⟩
 rw [← hm] at lb
 rw [lb] at HBs HLv ⊢
 clear h hb hok lb sb tl ll ts ls cs hpo hn hm hx hxn hy hyn HA HB HC
 obtain ⟨a0,a1,a2⟩:=frame_cells HR0.out
 go_enter Tryz.func133,Tryz.ntmps133
 go_wp2_with fail
 clear a0 a1 a2
 generalize hW1:World.alloc w _=W1 at *
 clear hW1 HR0
 go_at_call 147
 refine (hE.out W1 HQ0.out).mono ?_
 rintro e w2 ⟨v1,v2,rfl,ho1,ho2,hq2⟩
 obtain ⟨g1,gc1,rfl,-,-⟩:=ho1.form HTl.out.1
 obtain ⟨g2,gc2,rfl,-,-⟩:=ho2.form HTl.out.2.1
 have HO1:=lh ho1
 have HO2:=lh ho2
 have HQ2:=lh (HQ0.out.q hq2)
 clear ho1 ho2 hq2 hE
 go_wp2_with fail
 go_at_call 158
 refine (HBs.out w2 HQ2.out _ _ _ _ _ _ HO1.out.ints HO2.out.ints).mono ?_
 rintro e w3 ⟨rfl,hq3⟩
 have HI1:=lh (HO1.out.quiet hq3)
 have HI2:=lh (HO2.out.quiet hq3)
 have HQ3:=lh (HQ2.out.q hq3)
 clear hq3 HO1 HO2 HBs
 go_wp2_with fail
 go_at_call 148
 refine (HPr.out w3 _ _ _ _ _ _ HI1.out.ints HI2.out.ints).mono ?_
 rintro e w4 ⟨v4,rfl,ho4,hq4⟩
 obtain ⟨g4,gc4,rfl,-,-⟩:=ho4.form HTl.out.2.2
 have HO4:=lh ho4
 have HQ4:=lh (HQ3.out.q hq4)
 clear ho4 hq4 HPr
 go_wp2_with fail
 go_at_call 130
 refine (HLv.out w4 HQ4.out _ _ _ HO4.out.ints).mono ?_
 rintro e w5 ⟨v5,rfl,ho5,hq5⟩
 have HO5:=lh ho5
 have HQ5:=lh (HQ4.out.q hq5)
 have HZ:=lh HQ4.out.size
 clear ho5 hq5 HLv
 go_wp2_with fail
 exact bodyPost_ret (v:=.tuple #[.int .i64 bm,.int .i64 bs,v5]) (by simp [results,Tryz.results133,go_sem]) rfl (HPost.out _ _ ⟨v5,rfl,HO5.out.lower HZ.out,HQ5.out⟩)
end
theorem sadD_in {a b:List Int} (h:a.length≤64) (sa:SamOk a) (sb:SamOk b):0≤sadD a b∧sadD a b≤16320:=by
 have h1:=sad_in sa sb (max a.length b.length)
 rw [List.take_of_length_le (by omega),List.take_of_length_le (by omega)] at h1
 have h2:=sad_in sa sb 64
 have e:sadD (a.take 64) (b.take 64)=sadD a b:=by
  rw [List.take_of_length_le h]
  unfold sadD
  congr 1
  refine List.ext_getElem? (fun i=>?_)
  rw [List.getElem?_zipWith,List.getElem?_zipWith]
  by_cases hi:i<a.length
  ·rw [List.getElem?_take_of_lt (by omega)]
  ·rw [List.getElem?_eq_none (by omega)]
 rw [e] at h2
 omega
section
theorem msize_any (v:Int) (h:-15≤v∧v≤15) (w:World):Calls Tryz.prog 157 #[.int .i64 v] w fun e w'=>e=.returned (.int .i64 (max v (-v)))∧w=w':=by
 obtain ⟨h0,h1⟩:=h
 go_enter Tryz.func157,Tryz.ntmps157
 go_wp2
 all_goals
  go_ret
  exact ⟨ret_int (by omega),rfl⟩
theorem mcost_any {lo hi lo' hi':Nat} {u v:Value} {a b:List Int} {w:World} (ha:Ints .i64 lo hi w u a) (hb:Ints .i64 lo' hi' w v b) (la:a.length=64) (lb:b.length=64) (sa:SamOk a) (sb:SamOk b) (vx vy:Int) (hvx:-15≤vx∧vx≤15) (hvy:-15≤vy∧vy≤15) :
  Calls Tryz.prog 132 #[u,v,.agg #[.int .i64 vx,.int .i64 vy]] w fun e w'=>e=.returned (.tuple #[.int .i64 (costE a b vx vy),.nilIface])∧Only [] w w':=by
 refine hidQ fun Q HPost=>?_
 have HS:=lh (fun (W:World) (o:Only [] w W)=>sad_any (ha.quiet o) (hb.quiet o) (by omega) (by omega) sa sb)
 obtain ⟨n0,n1⟩:=sadD_in (a:=a) (b:=b) (by omega) sa sb
 have HV:=lh (fun (W:World)=>vmay_any vx vy W)
 rw [show (vpartB vx && vpartB vy)=true by simp [vpartB,hvx,hvy]] at HV
 have HX:=lh (msize_any vx hvx)
 have HY:=lh (msize_any vy hvy)
 have HC:Hid (costE a b vx vy=4*sadD a b+max vx (-vx)+max vy (-vy)):=lh rfl
 have mx:0≤max vx (-vx)∧max vx (-vx)≤15:=by omega
 have my:0≤max vy (-vy)∧max vy (-vy)≤15:=by omega
 have HR:=lh (heap_alloc_new w (.cells #[.int .i64 vx,.int .i64 vy] 155))
 have HQ:=lh (Only.new w (.cells #[.int .i64 vx,.int .i64 vy] 155))
 obtain ⟨p,pc,rfl,-⟩:=ha.open
 obtain ⟨q,qc,rfl,-⟩:=hb.open
 rw [la,lb] at *
 generalize costE a b vx vy=CC at *
 generalize sadD a b=n at *
 generalize hmx:max vx (-vx)=m1 at *
 generalize hmy:max vy (-vy)=m2 at *
 obtain ⟨mx0,mx1⟩:=mx
 obtain ⟨my0,my1⟩:=my
 clear ha hb la lb sa sb hmx hmy hvx hvy
 go_enter Tryz.func132,Tryz.ntmps132
 go_wp2_with fail
 generalize World.alloc w _=W1 at *
 go_at_call 156
 refine (HS.out W1 HQ.out).mono ?_
 rintro e w2 ⟨rfl,hq2⟩
 have HQ2:=lh (HQ.out.q hq2)
 have HR2:=lh (hq2.row HR.out)
 clear hq2 HR HS
 obtain ⟨u0,u1,-⟩:=row2 HR2.out
 go_wp2_with fail
 go_at_call 143
 refine (HV.out w2).mono ?_
 rintro e w3 ⟨rfl,hq3⟩
 have HQ3:=lh (HQ2.out.q hq3)
 have HR3:=lh (hq3.row HR2.out)
 clear hq3 HR2 HV u0 u1
 obtain ⟨u0,u1,-⟩:=row2 HR3.out
 have d0:=HR3.out
 go_wp2_with fail
 refine wp_region_held_drew (S:=(fun w'=>w'.cell? ⟨w.heap.size,0,none⟩=some (.int .i64 vx)∧w'.cell? ⟨w.heap.size,1,none⟩=some (.int .i64 vy))) (by kernel_rfl) ?_ (fun hHeld=>?_)
 ·exact ⟨u0,u1⟩
 refine tk 0 25 ?_
 refine tk 1 26 ?_
 refine tk 2 27 ?_
 refine tk 3 28 ?_
 refine tk 6 31 ?_
 refine tk 7 32 ?_
 refine rdy (rdc 4 29 (fun K hK=>?_) .nil)
 go_simp
 go_at_call 157
 refine (HX.out _).mono ?_
 rintro e w4 ⟨rfl,hw4⟩
 have hd4:Only [] w3 w4:=by rw [← hw4];exact (Only.refl _ _).drew
 clear hw4
 refine hK.out _ _ ?_ (fun hHeld=>?_)
 ·exact ⟨hd4.cell u0 (by simp),hd4.cell u1 (by simp)⟩
 clear hK K
 try simp only [Act.put,List.setIfInBounds_toArray,List.set_cons_zero,List.set_cons_succ]
 refine tk 5 30 ?_
 refine rdy (rdc 8 33 (fun K hK=>?_) .nil)
 go_simp
 go_at_call 157
 refine (HY.out _).mono ?_
 rintro e w5 ⟨rfl,hw5⟩
 have hd5:Only [] w3 w5:=by rw [← hw5];exact hd4
 have HQ6:=lh (HQ3.out.q hd5)
 clear hw5
 refine hK.out _ _ ?_ (fun hHeld=>?_)
 ·exact ⟨hd5.cell u0 (by simp),hd5.cell u1 (by simp)⟩
 clear hK K
 try simp only [Act.put,List.setIfInBounds_toArray,List.set_cons_zero,List.set_cons_succ]
 refine tk 9 34 ?_
 refine tk 10 6 ?_
 refine tk 11 7 ?_
 refine wpAnyH_done (by kernel_rfl) ?_ _
 go_wp2_with fail
 refine HPost.out _ _ ⟨?_,HQ6.out⟩
 rw [HC.out]
 have t1:IntKind.i64.wrap (4*n)=4*n:=by rw [IntKind.wrap_i64];omega
 have t2:IntKind.i64.wrap (4*n+m1)=4*n+m1:=by rw [IntKind.wrap_i64];omega
 have t3:IntKind.i64.wrap (4*n+m1+m2)=4*n+m1+m2:=by rw [IntKind.wrap_i64];omega
 simp [t1,t2,t3]
/-- a search in memory -/
abbrev SeekRow (K:Nat) (w:World) (f:FrameD) (pv bv:Value) (x y:Int) (s:Seek):Prop :=
 w.heap[K]?=some (.cells #[.int .i64 f.W,.int .i64 f.H,pv,bv,.int .i64 x,.int .i64 y,.int .i64 s.vx,.int .i64 s.vy,.int .i64 s.cost] 263 (0,0))
theorem SeekRow.cells {K:Nat} {w:World} {f:FrameD} {pv bv:Value} {x y:Int} {s:Seek} (h:SeekRow K w f pv bv x y s) :
  w.cell? ⟨K,0,none⟩=some (.int .i64 f.W)∧w.cell? ⟨K,1,none⟩=some (.int .i64 f.H)∧w.cell? ⟨K,2,none⟩=some pv∧w.cell? ⟨K,3,none⟩=some bv∧w.cell? ⟨K,4,none⟩=some (.int .i64 x)∧w.cell? ⟨K,5,none⟩=some (.int .i64 y) ∧
   w.cell? ⟨K,6,none⟩=some (.int .i64 s.vx)∧w.cell? ⟨K,7,none⟩=some (.int .i64 s.vy)∧w.cell? ⟨K,8,none⟩=some (.int .i64 s.cost):=by
 refine ⟨?_,?_,?_,?_,?_,?_,?_,?_,?_⟩ <;> (rw [cell_of_row _ _ _ _ _ _ h];rfl)
theorem SeekRow.put {K:Nat} {w:World} {f:FrameD} {pv bv:Value} {x y:Int} {s:Seek} (h:SeekRow K w f pv bv x y s) (vx vy c:Int) :
  SeekRow K (((w.setCell ⟨K,6,none⟩ (.int .i64 vx)).setCell ⟨K,7,none⟩ (.int .i64 vy)).setCell ⟨K,8,none⟩ (.int .i64 c)) f pv bv x y ⟨vx,vy,c⟩∧Only [K] w (((w.setCell ⟨K,6,none⟩ (.int .i64 vx)).setCell ⟨K,7,none⟩ (.int .i64 vy)).setCell ⟨K,8,none⟩ (.int .i64 c)):=by
 have h1:=heap_setCell_same w K 6 _ _ (.int .i64 vx) h
 have h2:=heap_setCell_same _ K 7 _ _ (.int .i64 vy) h1
 have h3:=heap_setCell_same _ K 8 _ _ (.int .i64 c) h2
 exact ⟨h3,(((Only.refl _ _).setCell (by simp) _).setCell (by simp) _).setCell (by simp) _⟩
theorem mtry_any {lo hi lo' hi' K:Nat} {pv bv:Value} {w:World} {f:FrameD} {b:List Int} {s:Seek} {x y:Int} (hok:FrOk f) (h:Ints .i64 lo hi w pv f.pix) (hb:Ints .i64 lo' hi' w bv b) (lb:b.length=64) (sb:SamOk b) (hx:0≤x∧x≤32) (hy:0≤y∧y≤32) (vx vy:Int) (hvx:-15≤vx∧vx≤15) (hvy:-15≤vy∧vy≤15) (hr:SeekRow K w f pv bv x y s) :
  Calls Tryz.prog 155 #[.pointer (some ⟨K,0,none⟩),.agg #[.int .i64 vx,.int .i64 vy]] w fun e w'=>e=.returned (.tuple #[])∧SeekRow K w' f pv bv x y (tryE f b x y s (vx,vy))∧Only [K] w w':=by
 refine hidQ fun Q HPost=>?_
 have HSq:=lh (fun (W:World) (o:Only [] w W)=>msquare_any hok (h.quiet o) x y vx vy hx hy hvx hvy)
 have hPl:=blockD_len f x y 8 vx vy
 have hPs:=blockD_in hok.sam x y 8 vx vy
 have HCo:=lh (fun (W:World) (o:Only [] w W) (l1 l2:Nat) (v:Value) (hv:Ints .i64 l1 l2 W v (blockD f x y 8 vx vy))=>mcost_any hv (hb.quiet o) (by rw [hPl]) lb hPs sb vx vy hvx hvy)
 have HT:Hid (tryE f b x y s (vx,vy)=if costE (blockD f x y 8 vx vy) b vx vy<s.cost then ⟨vx,vy,costE (blockD f x y 8 vx vy) b vx vy⟩ else s):=lh rfl
 have HPl:Hid ((blockD f x y 8 vx vy).length=64):=lh (by rw [hPl])
 obtain ⟨pa,pc,rfl,-⟩:=h.open
 obtain ⟨qa,qc,rfl,-⟩:=hb.open
 rw [lb] at hr HCo HPost
 have hq1:=Only.new w (.cells #[.int .i64 vx,.int .i64 vy] 155)
 have HV:=lh (heap_alloc_new w (.cells #[.int .i64 vx,.int .i64 vy] 155))
 have HR:=lh (hq1.row hr)
 have HQ1:=lh hq1
 have hKl:K<w.heap.size:=(Array.getElem?_eq_some_iff.1 hr).1
 generalize tryE f b x y s (vx,vy)=s2 at *
 generalize costE (blockD f x y 8 vx vy) b vx vy=CC at *
 generalize blockD f x y 8 vx vy=P at *
 clear h hb lb sb hok hx hy hvx hvy hr hq1 hPl hPs
 go_enter Tryz.func155,Tryz.ntmps155
 go_wp2_with fail
 generalize hW1:World.alloc w _=W1 at *
 have HZ1:Hid (K<W1.heap.size∧w.heap.size<W1.heap.size):=lh (by rw [← hW1];simp;omega)
 clear hW1
 obtain ⟨a0,a1,a2,a3,a4,a5,a6,a7,a8⟩:=(SeekRow.cells HR.out)
 obtain ⟨v0,v1,-⟩:=row2 HV.out
 refine wp_region_held_drew (S:=(fun w'=>w'.cell? ⟨K,0,none⟩=some (.int .i64 f.W)∧w'.cell? ⟨K,1,none⟩=some (.int .i64 f.H)∧w'.cell? ⟨K,2,none⟩=some (.slice pa f.pix.length pc)∧w'.cell? ⟨K,3,none⟩=some (.slice qa 64 qc)∧w'.cell? ⟨K,4,none⟩=some (.int .i64 x)∧w'.cell? ⟨K,5,none⟩=some (.int .i64 y)∧w'.cell? ⟨w.heap.size,0,none⟩=some (.int .i64 vx)∧w'.cell? ⟨w.heap.size,1,none⟩=some (.int .i64 vy))) (by kernel_rfl) ?_ (fun hHeld=>?_)
 ·exact ⟨a0,a1,a2,a3,a4,a5,v0,v1⟩
 refine tk 0 7 ?_
 refine tk 1 8 ?_
 refine tk 2 9 ?_
 refine tk 3 10 ?_
 refine tk 4 11 ?_
 refine tk 5 12 ?_
 refine tk 6 13 ?_
 refine tk 7 14 ?_
 refine tk 8 15 ?_
 refine tk 9 16 ?_
 refine tk 10 17 ?_
 refine tk 11 18 ?_
 refine tk 12 19 ?_
 refine tk 14 21 ?_
 refine tk 15 22 ?_
 refine tk 16 23 ?_
 refine tk 17 24 ?_
 refine tk 18 25 ?_
 refine rdy (rdc 13 20 (fun K hK=>?_) .nil)
 go_simp
 go_at_call 144
 refine (HSq.out _ HQ1.out.drew).mono ?_
 rintro e w3 ⟨v3,rfl,hown3,hq3⟩
 obtain ⟨g3,gc3,rfl,-,-⟩:=hown3.form (by have:=HPl.out;omega)
 have hd3:=(Only.refl [] W1).drew.q hq3
 have HQ3:=lh hd3
 have HO3:=lh hown3
 clear hown3 hq3
 refine hK.out _ _ ?_ (fun hHeld=>?_)
 ·exact ⟨(hd3).cell a0 (by simp),(hd3).cell a1 (by simp),(hd3).cell a2 (by simp),(hd3).cell a3 (by simp),(hd3).cell a4 (by simp),(hd3).cell a5 (by simp),(hd3).cell v0 (by simp),(hd3).cell v1 (by simp)⟩
 clear hK K
 try simp only [Act.put,List.setIfInBounds_toArray,List.set_cons_zero,List.set_cons_succ]
 refine rdy (rdc 19 26 (fun K hK=>?_) .nil)
 go_simp
 go_at_call 132
 refine (HCo.out _ (HQ1.out.q HQ3.out) _ _ _ HO3.out.ints).mono ?_
 rintro e w4 ⟨rfl,hq4⟩
 have hd4:=HQ3.out.q hq4
 have HQ4:=lh hd4
 clear hq4
 refine hK.out _ _ ?_ (fun hHeld=>?_)
 ·exact ⟨(hd4).cell a0 (by simp),(hd4).cell a1 (by simp),(hd4).cell a2 (by simp),(hd4).cell a3 (by simp),(hd4).cell a4 (by simp),(hd4).cell a5 (by simp),(hd4).cell v0 (by simp),(hd4).cell v1 (by simp)⟩
 clear hK K
 try simp only [Act.put,List.setIfInBounds_toArray,List.set_cons_zero,List.set_cons_succ]
 refine tk 20 6 ?_
 refine tk 21 27 ?_
 refine tk 22 28 ?_
 refine tk 23 4 ?_
 refine tk 24 5 ?_
 refine wpAnyH_done (by kernel_rfl) ?_ _
 have HR4:=lh (HQ4.out.row HR.out)
 have HV4:=lh (HQ4.out.row HV.out)
 have HQw:=lh (HQ1.out.q HQ4.out)
 clear a0 a1 a2 a3 a4 a5 a6 a7 a8 v0 v1 hd3 hd4
 obtain ⟨-,-,-,-,-,-,a6,a7,a8⟩:=(SeekRow.cells HR4.out)
 obtain ⟨v0,v1,-⟩:=row2 HV4.out
 have f6:=frozen_of_row _ K 6 _ _ HR4.out
 have f7:=frozen_of_row _ K 7 _ _ HR4.out
 have f8:=frozen_of_row _ K 8 _ _ HR4.out
 by_cases hc:CC<s.cost
 ·have HS2:Hid (s2=⟨vx,vy,CC⟩):=lh (by rw [HT.out,if_pos hc])
  have HPut:=lh (SeekRow.put HR4.out vx vy CC)
  have hKw:¬ K=w.heap.size:=by omega
  have hKw2:¬ w.heap.size=K:=by omega
  go_wp2_with fail
  refine bodyPost_end (results_none Tryz.results155 _ _ _) rfl (HPost.out _ _ ⟨rfl,?_,?_⟩)
  ·rw [HS2.out];exact HPut.out.1
  ·exact (HQw.out.mono (U:=[K]) (by simp)).trans HPut.out.2 (fun _ h _=>h) (fun _ h _=>h)
 ·have HS2:Hid (s2=s):=lh (by rw [HT.out,if_neg hc])
  go_wp2_with fail
  refine bodyPost_end (results_none Tryz.results155 _ _ _) rfl (HPost.out _ _ ⟨rfl,?_,HQw.out.mono (by simp)⟩)
  rw [HS2.out];exact HR4.out
end
theorem sadD_nonneg:∀ a b:List Int,0≤sadD a b
 | [],b=>by simp [sadD]
 | _ :: _,[]=>by simp [sadD]
 | x :: a,y :: b=>by
  have:=sadD_nonneg a b
  simp only [sadD,List.zipWith_cons_cons,List.sum_cons] at this ⊢
  omega
theorem costE_nonneg (a b:List Int) (vx vy:Int):0≤costE a b vx vy:=by
 have:=sadD_nonneg a b
 unfold costE
 omega
theorem fold_zero {f:FrameD} {b:List Int} {x y:Int}:∀ (l:List (Int×Int)) (s:Seek),s.cost≤0→l.foldl (tryE f b x y) s=s
 | [],s,_=>rfl
 | v :: l,s,h=>by
  have e:tryE f b x y s v=s:=if_neg (by have:=costE_nonneg (blockD f x y 8 v.1 v.2) b v.1 v.2;omega)
  rw [List.foldl_cons,e]
  exact fold_zero l s h
def gridPre (r k n:Nat):List (Int×Int):=((List.range k).flatMap fun j:Nat=>(List.range (2*r+1)).map fun i:Nat=>(2*((i:Int)-r),2*((j:Int)-r))) ++ (List.range n).map fun i:Nat=>(2*((i:Int)-r),2*((k:Int)-r))
theorem gridPre_more (r k n:Nat):gridPre r k (n+1)=gridPre r k n ++ [(2*((n:Int)-r),2*((k:Int)-r))]:=by
 unfold gridPre
 rw [List.range_succ (n:=n),List.map_append,List.append_assoc]
 rfl
theorem gridPre_row (r k:Nat):gridPre r k (2*r+1)=gridPre r (k+1) 0:=by
 unfold gridPre
 rw [List.range_succ (n:=k),List.flatMap_append]
 simp
theorem gridPre_all (r:Nat):gridPre r (2*r+1) 0=gridE r:=by
 unfold gridPre gridE
 simp
theorem gridPre_n (r k:Nat) {n m:Nat} (h:n≤m):∃ t,gridPre r k m=gridPre r k n ++ t:=by
 induction m with
 | zero =>
  obtain rfl:n=0:=by omega
  exact ⟨[],by simp⟩
 | succ m ih =>
  rcases (by omega:n=m+1∨n≤m) with rfl | h
  ·exact ⟨[],by simp⟩
  ·obtain ⟨t,e⟩:=ih h
   exact ⟨t ++ [(2*((m:Int)-r),2*((k:Int)-r))],by rw [gridPre_more,e,List.append_assoc]⟩
theorem gridPre_k (r:Nat) {k K:Nat} (h:k≤K):∃ t,gridPre r K 0=gridPre r k 0 ++ t:=by
 induction K with
 | zero =>
  obtain rfl:k=0:=by omega
  exact ⟨[],by simp⟩
 | succ K ih =>
  rcases (by omega:k=K+1∨k≤K) with rfl | h
  ·exact ⟨[],by simp⟩
  ·obtain ⟨t,e⟩:=ih h
   obtain ⟨u,g⟩:=gridPre_n r K (Nat.zero_le (2*r+1))
   exact ⟨t ++ u,by rw [← gridPre_row,g,e,List.append_assoc]⟩
theorem gridPre_pre {r k n:Nat} (hk:k<2*r+1) (hn:n≤2*r+1):∃ t,gridE r=gridPre r k n ++ t:=by
 obtain ⟨t,e⟩:=gridPre_n r k hn
 obtain ⟨u,g⟩:=gridPre_k r (k:=k+1) (K:=2*r+1) (by omega)
 exact ⟨t ++ u,by rw [← gridPre_all,g,← gridPre_row,e,List.append_assoc]⟩
def nearPre (vx vy:Int) (k n:Nat):List (Int×Int):=(((List.range k).flatMap fun j:Nat=>(List.range 3).map fun i:Nat=>(vx+((i:Int)-1),vy+((j:Int)-1))) ++ (List.range n).map fun i:Nat=>(vx+((i:Int)-1),vy+((k:Int)-1))).filter mayV
theorem nearPre_yes (vx vy:Int) (k n:Nat) (h:mayV (vx+((n:Int)-1),vy+((k:Int)-1))=true):nearPre vx vy k (n+1)=nearPre vx vy k n ++ [(vx+((n:Int)-1),vy+((k:Int)-1))]:=by
 unfold nearPre
 rw [List.range_succ (n:=n),List.map_append,← List.append_assoc,List.filter_append]
 simp [h]
theorem nearPre_no (vx vy:Int) (k n:Nat) (h:mayV (vx+((n:Int)-1),vy+((k:Int)-1))=false):nearPre vx vy k (n+1)=nearPre vx vy k n:=by
 unfold nearPre
 rw [List.range_succ (n:=n),List.map_append,← List.append_assoc,List.filter_append]
 simp [h]
theorem nearPre_row (vx vy:Int) (k:Nat):nearPre vx vy k 3=nearPre vx vy (k+1) 0:=by
 unfold nearPre
 rw [List.range_succ (n:=k),List.flatMap_append]
 simp
theorem nearPre_all (vx vy:Int):nearPre vx vy 3 0=nearE vx vy:=by
 unfold nearPre nearE
 simp
theorem fold_ok {f:FrameD} {b:List Int} {x y:Int} (l:List (Int×Int)) (s:Seek) (h:∀ v∈l,-15≤v.1∧v.1≤15∧-15≤v.2∧v.2≤15) (g:SeekOk s):SeekOk (l.foldl (tryE f b x y) s) :=
 tryE_fold (P:=fun a c=>-15≤a∧a≤15∧-15≤c∧c≤15) l s h g
theorem mayV_eq (a b:Int):mayV (a,b)=(vpartB a && vpartB b):=by
 unfold mayV vpartB
 rw [Bool.eq_iff_iff]
 simp
 omega
section
theorem msearch_any {lo hi lo' hi' r:Nat} {pv bv:Value} {w:World} {f:FrameD} {b:List Int} (hok:FrOk f) (h:Ints .i64 lo hi w pv f.pix) (hb:Ints .i64 lo' hi' w bv b) (lb:b.length=64) (sb:SamOk b) (x y:Int) (hx:0≤x∧x+8≤f.W) (hy:0≤y∧y+8≤f.H) (hr:r≤7) (hhi:hi≤w.heap.size) (hhi':hi'≤w.heap.size) :
  Calls Tryz.prog 131 #[.agg #[.int .i64 f.W,.int .i64 f.H,pv],bv,.int .i64 x,.int .i64 y,.int .i64 r] w fun e w'=>(e=.returned (.tuple #[.agg #[.int .i64 (searchE f b x y r).vx,.int .i64 (searchE f b x y r).vy],.nilIface])∧Only [] w w'):=by
 refine hidQ fun Q HPost=>?_
 have HTry:=lh (fun (W:World) (SB:Nat) (vx vy:Int) (s:Seek) (o:Ints .i64 lo hi W pv f.pix) (o2:Ints .i64 lo' hi' W bv b) (hvx:-15≤vx∧vx≤15) (hvy:-15≤vy∧vy≤15) hr=>mtry_any (K:=SB) (s:=s) hok o o2 lb sb (x:=x) (y:=y) (by have:=hok.w1;omega) (by have:=hok.h1;omega) vx vy hvx hvy hr)
 have HSq:=lh (fun (W:World) (o:Only [] w W)=>msquare_any hok (h.quiet o) x y 0 0 (by have:=hok.w1;omega) (by have:=hok.h1;omega) (by omega) (by omega))
 have HPl:Hid ((blockD f x y 8 0 0).length=64):=lh (by rw [blockD_len])
 have HCo:=lh (fun (W:World) (o:Only [] w W) (l1 l2:Nat) (v:Value) (hv:Ints .i64 l1 l2 W v (blockD f x y 8 0 0))=>mcost_any hv (hb.quiet o) HPl.out lb (blockD_in hok.sam x y 8 0 0) sb 0 0 (by omega) (by omega))
 have HM:=lh (fun (W:World) (o:Only [] w W)=>by have:=pmay_any f.W f.H (h.quiet o);rw [show mayF ⟨f.W,f.H,f.pix⟩=true from mayF_iff.2 hok] at this;exact this)
 have HIn:=lh (fun (W:World)=>by have:=pin_any f.W f.H x y 8 pv W ⟨hok.w0,hok.w1⟩ ⟨hok.h0,hok.h1⟩ (by omega);rw [show liesD f.W f.H x y 8=true by unfold liesD;simp;omega] at this;exact this)
 have HSa:=lh (fun (W:World) (o:Only [] w W)=>by have:=samples_any (hb.quiet o) (by omega);rw [show withinB b 0 255=true by unfold withinB;simpa using fun z hz=>sb z hz] at this;exact this)
 have HP:=lh h
 have HB:=lh hb
 have HE:Hid (searchE f b x y r=(nearE (seek1 f b x y r).vx (seek1 f b x y r).vy).foldl (tryE f b x y) (seek1 f b x y r)):=lh rfl
 have H1:Hid (seek1 f b x y r=(gridE r).foldl (tryE f b x y) (seek0 f b x y)):=lh rfl
 have H1ok:Hid (SeekOk (seek1 f b x y r)):=lh (by
  rw [H1.out]
  refine fold_ok _ _ (fun v hv=>?_) (by simp [seek0,SeekOk])
  unfold gridE at hv
  obtain ⟨j,hj,hv⟩:=List.mem_flatMap.1 hv
  obtain ⟨i,hi,rfl⟩:=List.mem_map.1 hv
  rw [List.mem_range] at hi hj
  simp only
  omega)
 have H0:Hid (seek0 f b x y=⟨0,0,costE (blockD f x y 8 0 0) b 0 0⟩):=lh rfl
 obtain ⟨pa,pc,rfl,-⟩:=h.open
 obtain ⟨qa,qc,rfl,-⟩:=hb.open
 rw [lb] at *
 obtain ⟨S0,hS0⟩:∃ z,z=seek0 f b x y:=⟨_,rfl⟩
 obtain ⟨S1,hS1⟩:∃ z,z=seek1 f b x y r:=⟨_,rfl⟩
 obtain ⟨S2,hS2⟩:∃ z,z=searchE f b x y r:=⟨_,rfl⟩
 rw [← hS0] at H0 H1
 rw [← hS1] at H1 H1ok HE
 rw [← hS2] at HE HPost
 have r0:(0:Int)≤(r:Int):=by omega
 have r1:(r:Int)≤7:=by omega
 have hq2:Only [] w ((w.alloc (.cells #[.int .i64 f.W,.int .i64 f.H,.slice pa f.pix.length pc] 73)).alloc (.cells #[.int .i64 0,.int .i64 0] 155)):=(Only.new w _).alloc _
 have HR1:Hid (((w.alloc (.cells #[.int .i64 f.W,.int .i64 f.H,.slice pa f.pix.length pc] 73)).alloc (.cells #[.int .i64 0,.int .i64 0] 155)).heap[w.heap.size]?=some (.cells #[.int .i64 f.W,.int .i64 f.H,.slice pa f.pix.length pc] 73 (0,0))):=lh ((Only.new (w.alloc _) _).row (heap_alloc_new w _))
 have HR2:Hid (((w.alloc (.cells #[.int .i64 f.W,.int .i64 f.H,.slice pa f.pix.length pc] 73)).alloc (.cells #[.int .i64 0,.int .i64 0] 155)).heap[w.heap.size+1]?=some (.cells #[.int .i64 0,.int .i64 0] 155 (0,0))):=lh (heap_alloc_new' (by simp))
 have HZ2:Hid (w.heap.size+1<((w.alloc (.cells #[.int .i64 f.W,.int .i64 f.H,.slice pa f.pix.length pc] 73)).alloc (.cells #[.int .i64 0,.int .i64 0] 155)).heap.size):=lh (by simp)
 have HQ2:=lh hq2
 have HHi:=lh (And.intro hhi hhi')
 clear h hb lb sb hok hx hy hhi hhi' hS0 hS1 hS2 hq2 hr
 obtain ⟨a0,a1,a2⟩:=frame_cells HR1.out
 go_enter Tryz.func131,Tryz.ntmps131
 go_wp2_with fail
 go_step3
 go_wp2_with fail
 generalize hW2:World.alloc (World.alloc w _) _=W2 at *
 clear hW2 a0 a1 a2
 go_at_call 79
 refine (HM.out W2 HQ2.out).mono ?_
 rintro e w3 ⟨rfl,hq3⟩
 obtain ⟨a0,a1,a2⟩:=frame_cells (hq3.row HR1.out)
 have HQ3:=lh hq3
 clear hq3 HM
 go_wp2_with fail
 go_at_call 154
 refine (HIn.out w3).mono ?_
 rintro e w4 ⟨rfl,hq4⟩
 have HQ4:=lh (HQ3.out.q hq4)
 clear hq4 HIn a0 a1 a2
 go_wp2_with fail
 go_at_call 102
 refine (HSa.out w4 (HQ2.out.q HQ4.out)).mono ?_
 rintro e w5 ⟨rfl,hq5⟩
 have HQ5:=lh (HQ4.out.q hq5)
 clear hq5 HSa
 obtain ⟨a0,a1,a2⟩:=frame_cells (HQ5.out.row HR1.out)
 have HK0:=lh (heap_alloc_new w5 (.cells #[.int .i64 f.W,.int .i64 f.H,.slice pa f.pix.length pc,.slice qa 64 qc,.int .i64 x,.int .i64 y,.int .i64 0,.int .i64 0,.int .i64 0] 263))
 have HQn:=lh (Only.new w5 (.cells #[.int .i64 f.W,.int .i64 f.H,.slice pa f.pix.length pc,.slice qa 64 qc,.int .i64 x,.int .i64 y,.int .i64 0,.int .i64 0,.int .i64 0] 263))
 go_wp2_with fail
 generalize hW6:World.alloc w5 _=W6 at *
 have HZ6:Hid (W2.heap.size≤w5.heap.size∧w5.heap.size<W6.heap.size):=lh ⟨HQ5.out.size,by rw [← hW6];simp⟩
 have HQ6:=lh (HQ5.out.q HQn.out)
 clear hW6 a0 a1 a2 HQn
 generalize w5.heap.size=SB at *
 obtain ⟨a0,a1,a2⟩:=frame_cells (HQ6.out.row HR1.out)
 obtain ⟨-,-,-,-,-,-,k6,k7,k8⟩:=(SeekRow.cells (s:=⟨0,0,0⟩) HK0.out)
 simp only at k6 k7 k8
 refine wp_region_held_drew (S:=(fun w'=>w'.cell? ⟨w.heap.size,0,none⟩=some (.int .i64 f.W)∧w'.cell? ⟨w.heap.size,1,none⟩=some (.int .i64 f.H)∧w'.cell? ⟨w.heap.size,2,none⟩=some (.slice pa f.pix.length pc)∧w'.cell? ⟨SB,6,none⟩=some (.int .i64 0)∧w'.cell? ⟨SB,7,none⟩=some (.int .i64 0))) (by kernel_rfl) ?_ (fun hHeld=>?_)
 ·exact ⟨a0,a1,a2,k6,k7⟩
 refine tk 0 60 ?_
 refine tk 1 61 ?_
 refine tk 2 62 ?_
 refine tk 3 63 ?_
 refine tk 4 64 ?_
 refine tk 5 65 ?_
 refine tk 6 66 ?_
 refine tk 7 67 ?_
 refine tk 9 69 ?_
 refine tk 10 70 ?_
 refine tk 11 71 ?_
 refine tk 12 72 ?_
 refine tk 13 73 ?_
 refine rdy (rdc 8 68 (fun K hK=>?_) .nil)
 go_simp
 go_at_call 144
 refine (HSq.out _ (HQ2.out.q HQ6.out).drew).mono ?_
 rintro e w7 ⟨v7,rfl,hown7,hq7⟩
 obtain ⟨g7,gc7,rfl,-,-⟩:=hown7.form (by have:=HPl.out;omega)
 have hd7:=(Only.refl [] W6).drew.q hq7
 have HQ7:=lh hd7
 have HO7:=lh hown7
 clear hown7 hq7
 refine hK.out _ _ ?_ (fun hHeld=>?_)
 ·exact ⟨(hd7).cell a0 (by simp),(hd7).cell a1 (by simp),(hd7).cell a2 (by simp),(hd7).cell k6 (by simp),(hd7).cell k7 (by simp)⟩
 clear hK K
 try simp only [Act.put,List.setIfInBounds_toArray,List.set_cons_zero,List.set_cons_succ]
 refine rdy (rdc 14 74 (fun K hK=>?_) .nil)
 go_simp
 go_at_call 132
 refine (HCo.out _ ((HQ2.out.q HQ6.out).q HQ7.out) _ _ _ HO7.out.ints).mono ?_
 rintro e w8 ⟨rfl,hq8⟩
 have hd8:=HQ7.out.q hq8
 have HQ8:=lh hd8
 clear hq8
 have HR8:Hid (SeekRow SB w8 f (.slice pa f.pix.length pc) (.slice qa 64 qc) x y ⟨0,0,0⟩):=lh (hd8.row HK0.out)
 have cx8:=(SeekRow.cells HR8.out).2.2.2.2.2.2.2.2
 have fx8:=frozen_of_row _ SB 8 _ _ HR8.out
 have HSet:=lh (show SeekRow SB (w8.setCell ⟨SB,8,none⟩ (.int .i64 (costE (blockD f x y 8 0 0) b 0 0))) f (.slice pa f.pix.length pc) (.slice qa 64 qc) x y ⟨0,0,costE (blockD f x y 8 0 0) b 0 0⟩∧Only [SB] w8 (w8.setCell ⟨SB,8,none⟩ (.int .i64 (costE (blockD f x y 8 0 0) b 0 0))) from ⟨heap_setCell_same w8 SB 8 _ _ _ HR8.out,(Only.refl _ _).setCell (by simp) _⟩)
 have r9a:=(SeekRow.cells HSet.out.1).2.2.2.2.2.2.1
 have r9b:=(SeekRow.cells HSet.out.1).2.2.2.2.2.2.2.1
 have hKw:w.heap.size∉[SB]:=by have:=HZ6.out;have:=HZ2.out;simp only [mSg];omega
 have e0:=HSet.out.2.cell (hd8.cell a0 (by simp)) hKw
 have e1:=HSet.out.2.cell (hd8.cell a1 (by simp)) hKw
 have e2:=HSet.out.2.cell (hd8.cell a2 (by simp)) hKw
 refine hK.out _ _ ?_ (fun hHeld=>?_)
 ·exact ⟨(hd8).cell a0 (by simp),(hd8).cell a1 (by simp),(hd8).cell a2 (by simp),(hd8).cell k6 (by simp),(hd8).cell k7 (by simp)⟩
 clear hK K
 try simp only [Act.put,List.setIfInBounds_toArray,List.set_cons_zero,List.set_cons_succ]
 refine tk 15 59 ?_
 refine tk 16 75 ?_
 refine tk 17 76 ?_
 refine tk 18 77 ?_
 refine tk 19 78 ?_
 refine rdy (rdn 20 (fun K hK=>?_) .nil)
 go_simp
 refine hK.out _ _ ?_ (fun hHeld=>?_)
 ·exact ⟨e0,e1,e2,r9a,r9b⟩
 clear hK K
 try simp only [Act.put,List.setIfInBounds_toArray,List.set_cons_zero,List.set_cons_succ]
 refine wpAnyH_done (by kernel_rfl) ?_ _
 go_wp2_with fail
 go_step3
 go_upto_block 1 with (fail)
 have HS0:Hid (SeekRow SB _ f (.slice pa f.pix.length pc) (.slice qa 64 qc) x y S0):=lh (by rw [H0.out];exact HSet.out.1)
 have HQ9:Hid (Only [SB] W6 (w8.setCell ⟨SB,8,none⟩ (.int .i64 (costE (blockD f x y 8 0 0) b 0 0)))):=lh ((HQ8.out.mono (U:=[SB]) (by simp)).trans HSet.out.2 (fun _ h _=>h) (fun _ h _=>h))
 clear a0 a1 a2 k6 k7 k8 cx8 fx8 HSet e0 e1 e2 r9a r9b HSq HCo HK0 HR8 HQ8 HQ7 HO7 hd7 hd8 HPl H0
 generalize World.setCell w8 _ _=W9 at *
 have HP9:Hid (∀ wx,Only [SB] W9 wx→Ints .i64 lo hi wx (.slice pa f.pix.length pc) f.pix∧Ints .i64 lo' hi' wx (.slice qa 64 qc) b):=lh (fun wx o=>by have z1:=HZ6.out;have z2:=HZ2.out;have z3:=HHi.out;have o1:=HQ9.out.trans o (U:=[SB]) (fun _ h _=>h) (fun _ h _=>h);exact ⟨((HP.out.quiet HQ2.out).quiet HQ6.out).only o1 (fun g hg=>by rw [mSg] at hg;omega),((HB.out.quiet HQ2.out).quiet HQ6.out).only o1 (fun g hg=>by rw [mSg] at hg;omega)⟩)
 clear HP HB
 go_cut [] (fun wx=>Hid (SeekRow SB wx f (.slice pa f.pix.length pc) (.slice qa 64 qc) x y S1)∧Hid (Only [SB] W9 wx))
 case first =>
  go_wp2_with fail
  go_loopw [13,14] (fun a _ wr=>∃ k:Nat,k≤2*r+1∧a=.int .i64 ((k:Int)-r)∧Hid (SeekRow SB wr f (.slice pa f.pix.length pc) (.slice qa 64 qc) x y ((gridPre r k 0).foldl (tryE f b x y) S0))∧Hid (Only [SB] W9 wr)) (fun a _ _=>((r:Int)+1-intOf a).toNat)
  case atStart=>exact ⟨0,by omega,by go_num,HS0,lh (Only.refl _ _)⟩
  case round =>
   obtain ⟨k,hk,rfl,HSk,HQk⟩:=hrel
   by_cases hlt:k<2*r+1
   ·have hki:(k:Int)-r≤r:=by omega
    go_wp2_with fail
    go_loopw [14] (fun a wr=>∃ n:Nat,n≤2*r+1∧a=.int .i64 ((n:Int)-r)∧Hid (SeekRow SB wr f (.slice pa f.pix.length pc) (.slice qa 64 qc) x y ((gridPre r k n).foldl (tryE f b x y) S0))∧Hid (Only [SB] W9 wr)) (fun a _=>((r:Int)+1-intOf a).toNat)
    case atStart=>exact ⟨0,by omega,by go_num,HSk,HQk⟩
    case round =>
     obtain ⟨n,hn,rfl,HSn,HQn⟩:=hrel
     by_cases hnlt:n<2*r+1
     ·have hni:(n:Int)-r≤r:=by omega
      have Hmore:Hid ((gridPre r k (n+1)).foldl (tryE f b x y) S0=tryE f b x y ((gridPre r k n).foldl (tryE f b x y) S0) (2*((n:Int)-r),2*((k:Int)-r))):=lh (by rw [gridPre_more,List.foldl_append];rfl)
      have Hstop:Hid (((gridPre r k n).foldl (tryE f b x y) S0).cost=0→S1=(gridPre r k n).foldl (tryE f b x y) S0):=lh (fun hz=>by obtain ⟨t,e⟩:=gridPre_pre hlt hn;rw [H1.out,e,List.foldl_append];exact fold_zero t _ (by omega))
      generalize (gridPre r k n).foldl (tryE f b x y) S0=s at *
      have c8:=(SeekRow.cells HSn.out).2.2.2.2.2.2.2.2
      by_cases hz:s.cost=0
      ·have HS1:=lh (Hstop.out hz)
       rw [hz] at c8
       go_wp2_with fail
       go_meet
       exact ⟨by rw [HS1.out];exact HSn,HQn⟩
      ·have HT:=lh (HTry.out wr SB (2*((n:Int)-r)) (2*((k:Int)-r)) s (HP9.out wr HQn.out).1 (HP9.out wr HQn.out).2 (by omega) (by omega) HSn.out)
       have m1:IntKind.i64.wrap (2*((n:Int)-r))=2*((n:Int)-r):=by rw [IntKind.wrap_i64];omega
       have m2:IntKind.i64.wrap (2*((k:Int)-r))=2*((k:Int)-r):=by rw [IntKind.wrap_i64];omega
       clear Hstop
       go_wp2_with fail
       go_at_call 155
       refine HT.out.mono ?_
       rintro e wt ⟨rfl,hrt,hqt⟩
       have HRt:=lh hrt
       have HQt:=lh (HQn.out.trans hqt (U:=[SB]) (fun _ h _=>h) (fun _ h _=>h))
       clear hrt hqt c8
       go_wp2_with fail
       exact ⟨⟨n+1,by omega,by go_num,by rw [Hmore.out];exact HRt,HQt⟩,by simp [intOf];omega⟩
     ·obtain rfl:n=2*r+1:=by omega
      have hni:¬ (((2*r+1:Nat):Int)-r)≤r:=by omega
      have Hrow:=lh (gridPre_row r k)
      rw [Hrow.out] at HSn
      go_wp2_with fail
      exact ⟨⟨k+1,by omega,by go_num,HSn,HQn⟩,by simp [intOf];omega⟩
   ·obtain rfl:k=2*r+1:=by omega
    have hki:¬ (((2*r+1:Nat):Int)-r)≤r:=by omega
    have Hall:=lh (gridPre_all r)
    rw [Hall.out,← H1.out] at HSk
    go_wp2_with fail
    go_meet
    exact ⟨HSk,HQk⟩
 case rest =>
  obtain ⟨HS1,HQ10⟩:=hcut
  obtain ⟨W10,hW10⟩:∃ z,z=wc:=⟨_,rfl⟩
  subst hW10
  clear HS0 H1
  obtain ⟨-,-,-,-,-,-,k6,k7,k8⟩:=(SeekRow.cells HS1.out)
  obtain ⟨o1,o2,o3,o4⟩:=H1ok.out
  have HVr:Hid ((W10.alloc (.cells #[.int .i64 S1.vx,.int .i64 S1.vy] 155)).heap[W10.heap.size]?=some (.cells #[.int .i64 S1.vx,.int .i64 S1.vy] 155 (0,0))):=lh (heap_alloc_new _ _)
  have hsz10:w.heap.size+1<W10.heap.size:=by have:=HZ2.out;have:=HZ6.out;have:=HQ9.out.size;have:=HQ10.out.size;omega
  have HQ11:Hid (Only [] w (W10.alloc (.cells #[.int .i64 S1.vx,.int .i64 S1.vy] 155))):=lh ((HQ2.out.q HQ6.out).trans ((HQ9.out.trans HQ10.out (U:=[SB]) (fun _ h _=>h) (fun _ h _=>h)).alloc _) (U:=[]) (by simp) (fun g hg hlt=>by rw [mSg] at hg;have:=HZ2.out;have:=HZ6.out;omega))
  have HT11:Hid ((W10.alloc (.cells #[.int .i64 S1.vx,.int .i64 S1.vy] 155)).heap[w.heap.size+1]?=some (.cells #[.int .i64 0,.int .i64 0] 155 (0,0))):=lh ((HQ6.out.q (Only.refl [] _)).trans ((HQ9.out.trans HQ10.out (U:=[SB]) (fun _ h _=>h) (fun _ h _=>h)).alloc _) (U:=[SB]) (by simp) (fun _ h _=>h) |>.rowAt HR2.out (by have:=HZ2.out;have:=HZ6.out;simp only [mSg];omega))
  have HS11:Hid (SeekRow SB (W10.alloc (.cells #[.int .i64 S1.vx,.int .i64 S1.vy] 155)) f (.slice pa f.pix.length pc) (.slice qa 64 qc) x y S1):=lh ((Only.new W10 _).rowAt HS1.out (by simp))
  have HP11:Hid (∀ wx,Only [SB] (W10.alloc (.cells #[.int .i64 S1.vx,.int .i64 S1.vy] 155)) wx→Ints .i64 lo hi wx (.slice pa f.pix.length pc) f.pix∧Ints .i64 lo' hi' wx (.slice qa 64 qc) b):=lh (fun wx o=>HP9.out wx ((HQ10.out.alloc _).trans o (U:=[SB]) (fun _ h _=>h) (fun _ h _=>h)))
  have HVS:Hid (W10.heap.size∉[SB]∧w.heap.size+1∉[SB]):=lh (by have:=HZ2.out;have:=HZ6.out;have:=HQ9.out.size;have:=HQ10.out.size;simp only [mSg];omega)
  go_wp2_with fail
  clear k6 k7 k8 HP9 HS1 HQ9 HQ10
  generalize hW11:World.alloc W10 _=W11 at *
  clear hW11
  generalize W10.heap.size=V at *
  go_loopw [16,17,18] (fun a _ _ wr=>∃ k:Nat,k≤3∧a=.int .i64 ((k:Int)-1)∧Hid (SeekRow SB wr f (.slice pa f.pix.length pc) (.slice qa 64 qc) x y ((nearPre S1.vx S1.vy k 0).foldl (tryE f b x y) S1))∧Hid (Only [SB] W11 wr)) (fun a _ _ _=>((2:Int)-intOf a).toNat)
  case atStart=>exact ⟨0,by omega,by go_num,HS11,lh (Only.refl _ _)⟩
  case round =>
   obtain ⟨k,hk,rfl,HSk,HQk⟩:=hrel
   by_cases hlt:k<3
   ·have hki:(k:Int)-1≤1:=by omega
    go_wp2_with fail
    go_loopw [17,18] (fun a _ wr=>∃ n:Nat,n≤3∧a=.int .i64 ((n:Int)-1)∧Hid (SeekRow SB wr f (.slice pa f.pix.length pc) (.slice qa 64 qc) x y ((nearPre S1.vx S1.vy k n).foldl (tryE f b x y) S1))∧Hid (Only [SB] W11 wr)) (fun a _ _=>((2:Int)-intOf a).toNat)
    case atStart=>exact ⟨0,by omega,by go_num,HSk,HQk⟩
    case round =>
     obtain ⟨n,hn,rfl,HSn,HQn⟩:=hrel
     by_cases hnlt:n<3
     ·have hni:(n:Int)-1≤1:=by omega
      obtain ⟨v0,v1,-⟩:=row2 (HQn.out.rowAt HVr.out HVS.out.1)
      obtain ⟨X,hX⟩:∃ z,z=S1.vx+((n:Int)-1):=⟨_,rfl⟩
      obtain ⟨Y,hY⟩:∃ z,z=S1.vy+((k:Int)-1):=⟨_,rfl⟩
      have m1:IntKind.i64.wrap (S1.vx+((n:Int)-1))=X:=by rw [IntKind.wrap_i64];omega
      have m2:IntKind.i64.wrap (S1.vy+((k:Int)-1))=Y:=by rw [IntKind.wrap_i64];omega
      have Hyes:=lh (fun h=>by rw [nearPre_yes S1.vx S1.vy k n h,List.foldl_append];rfl:mayV (S1.vx+((n:Int)-1),S1.vy+((k:Int)-1))=true→(nearPre S1.vx S1.vy k (n+1)).foldl (tryE f b x y) S1=tryE f b x y ((nearPre S1.vx S1.vy k n).foldl (tryE f b x y) S1) (S1.vx+((n:Int)-1),S1.vy+((k:Int)-1)))
      have Hno:=lh (fun h=>nearPre_no S1.vx S1.vy k n h)
      rw [← hX,← hY] at Hyes Hno
      have Hm:=lh (mayV_eq X Y)
      have HXY:Hid (mayV (X,Y)=true→(-15≤X∧X≤15)∧(-15≤Y∧Y≤15)):=lh (fun h=>by unfold mayV at h;simp only [Bool.and_eq_true,decide_eq_true_eq] at h;omega)
      have HVX:=lh (fun W=>vmay_any X Y W)
      rw [← Hm.out] at HVX
      have HRv:=lh (heap_alloc_new wr (.cells #[.int .i64 X,.int .i64 Y] 155))
      have HQv:=lh (Only.new wr (.cells #[.int .i64 X,.int .i64 Y] 155))
      clear hX hY Hm
      generalize hs:(nearPre S1.vx S1.vy k n).foldl (tryE f b x y) S1=s at *
      have Hs:=lh hs
      clear hs
      go_wp2_with fail
      clear v0 v1 m1 m2
      generalize hWv:World.alloc wr _=Wv at *
      clear hWv
      generalize wr.heap.size=G at *
      obtain ⟨v0,v1,-⟩:=row2 HRv.out
      skip
      go_wp2_with fail
      go_at_call 143
      refine (HVX.out Wv).mono ?_
      rintro e wm ⟨rfl,hqm⟩
      obtain ⟨v2,v3,-⟩:=row2 (hqm.row HRv.out)
      have HQm:=lh (HQv.out.q hqm)
      clear hqm v0 v1 HVX
      cases hm:mayV (X,Y) with
      | true =>
       have HT:=lh (HTry.out wm SB X Y s (HP11.out wm (HQn.out.trans HQm.out (U:=[SB]) (fun _ h _=>h) (by simp))).1 (HP11.out wm (HQn.out.trans HQm.out (U:=[SB]) (fun _ h _=>h) (by simp))).2 (HXY.out hm).1 (HXY.out hm).2 (HQm.out.row HSn.out))
       have Hmore:=lh (Hyes.out hm)
       clear hm Hyes Hno HXY
       go_wp2_with fail
       go_at_call 155
       refine HT.out.mono ?_
       rintro e wt ⟨rfl,hrt,hqt⟩
       have HRt:=lh hrt
       have HQt:=lh ((HQn.out.trans HQm.out (U:=[SB]) (fun _ h _=>h) (by simp)).trans hqt (U:=[SB]) (fun _ h _=>h) (fun _ h _=>h))
       clear hrt hqt v2 v3
       go_wp2_with fail
       exact ⟨⟨n+1,by omega,by go_num,by rw [Hmore.out];exact HRt,HQt⟩,by simp [intOf];omega⟩
      | false =>
       have Hmore:Hid ((nearPre S1.vx S1.vy k (n+1)).foldl (tryE f b x y) S1=s):=lh (by rw [Hno.out hm];exact Hs.out)
       clear hm Hyes Hno HXY
       go_wp2_with fail
       exact ⟨⟨n+1,by omega,by go_num,by rw [Hmore.out];exact lh (HQm.out.row HSn.out),lh (HQn.out.trans HQm.out (U:=[SB]) (fun _ h _=>h) (by simp))⟩,by simp [intOf];omega⟩
     ·obtain rfl:n=3:=by omega
      have hni:¬ (((3:Nat):Int)-1)≤1:=by omega
      have Hrow:=lh (nearPre_row S1.vx S1.vy k)
      rw [Hrow.out] at HSn
      go_wp2_with fail
      exact ⟨⟨k+1,by omega,by go_num,HSn,HQn⟩,by simp [intOf];omega⟩
   ·obtain rfl:k=3:=by omega
    have hki:¬ (((3:Nat):Int)-1)≤1:=by omega
    have Hall:=lh (nearPre_all S1.vx S1.vy)
    rw [Hall.out,← HE.out] at HSk
    obtain ⟨-,-,-,-,-,-,k6,k7,k8⟩:=(SeekRow.cells HSk.out)
    have HTr:=lh (HQk.out.rowAt HT11.out HVS.out.2)
    obtain ⟨v0,v1,y0,y1,-⟩:=row2 HTr.out
    obtain ⟨hrow,hon⟩:=row2_set (x:=.int .i64 S2.vx) (y:=.int .i64 S2.vy) HTr.out
    have HRow:=lh hrow
    have HOn:=lh hon
    clear hrow hon
    go_wp2_with fail
    try rw [Exit.noGoto_ret]
    refine bodyPost_ret (v:=.tuple #[.agg #[.int .i64 S2.vx,.int .i64 S2.vy],.nilIface]) (results_cell_row2 Tryz.results131 _ _ (w.heap.size+1) _ _ _ _ _ rfl rfl HRow.out Tryz.underlying155 rfl (by kernel_rfl)) rfl (HPost.out _ _ ⟨rfl,?_⟩)
    exact (HQ11.out.trans HQk.out (U:=[]) (by simp) (fun g hg hlt=>by rw [mSg] at hg;have:=HZ2.out;have:=HZ6.out;omega)).trans HOn.out (U:=[]) (by simp) (fun g hg hlt=>by rw [mSg] at hg;omega)
end
end Go.Proofs.YtkigikallkpbcaaGreatDoor
