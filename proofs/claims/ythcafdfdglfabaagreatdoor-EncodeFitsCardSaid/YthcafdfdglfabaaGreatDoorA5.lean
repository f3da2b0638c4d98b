/- Joined texts: DRkF, DRkB. Conditions: each part names its own. -/
import Derived.Test.YthcafdfdglfabaaGreatDoorA4
import Derived.Test.YthcafdfdglfabaaGreatDoorA3
namespace Go.Proofs.YthcafdfdglfabaaGreatDoor
open Go.RowKit
set_option linter.unusedVariables false
set_option linter.unusedSimpArgs false
set_option maxRecDepth 100000
set_option maxHeartbeats 16000000
section
theorem oG {l:List Int} (h:∀ x∈l,-255<=x/\x<=255):aX l (-65536) 65536=true:=by
 unfold aX;rw [List.all_eq_true];intro x hx;have:=h x hx;rw [decide_eq_true_eq];omega
theorem GM {p:Prop} (h:p:=by
 obtain ⟨a,cap,rfl,-⟩:=h.open;rw [hl] at Wp HSu |-
 generalize bL l=T at *
 have MT:=lh (ae.new w (.cells #[(),JEu] 39));have Nq:Hid ((w.alloc (.cells #[(),JEu] 39)).heap[w.heap.size]?=some (.cells #[(),JEu] 39 (0,0))):=lh (heap_alloc_new w _);clear h hb XC;go_enter Tryz.func150,Tryz.ntmps150;go_wp2_with fail;generalize NB:World.alloc w _=W1 at *
 clear NB;go_at_call 204;refine (HSd.out _).mono ?_;rintro e w' ⟨rfl,rfl⟩;go_wp2_with fail;go_at_call 61;refine (Wp.out _ MT).mono ?_;rintro e w' ⟨rfl,rfl⟩;go_wp2_with fail;go_at_call 205;refine (HSu.out _ MT).mono ?_;rintro e w2 ⟨⟨v',rfl,MQ⟩,MV⟩;obtain ⟨a',Te,rfl,-⟩:=MQ.ints.open;have Rn:=MV.row Nq;have HO:=lh MQ;have Na:=lh (MT.q MV);have HW:=lh MT.size;obtain ⟨z0,z1,y0,y1,-⟩:=aJ Rn;obtain ⟨MS,Nd⟩:=aH (x:=.int .i64 0) (y:=.slice none 0 0) Rn;have HZ:Hid (w.heap.size<W1.heap.size):=lh (Array.getElem?_eq_some_iff.1 Nq).1;clear MQ MV;go_wp2_with fail;exact bodyPost_ret (aA Tryz.results150 _ _ w.heap.size _ _ _ _ _ rfl rfl MS Tryz.underlying39 rfl (aR _ rfl)) rfl (MM.out _ _ ⟨⟨_,rfl,(HO.only Nd (fun g hg hh=>by rw [mSg] at hg;subst hg;have:=(HO.at _ hh).1;have:=HZ.out;omega)).lower HW⟩,Na.trans Nd Mg (fun g hg MO=>Mj)⟩)):p:=h
theorem sN {lo hi:Nat} {v:Value} {l:List Int} {w:World} (h:ah .i64 lo hi w v l) (hl:l.length=16) (hb:∀ x∈l,-255<=x/\x<=255):Calls Tryz.prog 150 #[v] w fun e w'=>((∃ v',e=.returned (.tuple #[v',.agg #[(),JEu]])/\Own .i64 3 w.heap.size w' v' (bL l))/\ae [] w w'):=by
 refine aN fun Q MM=>?_
 have Wp:=lh (fun (W:World) (o:ae [] w W)=>bS (-65536) 65536 (h.quiet o));rw [oG hb] at Wp;have XC:cN 6266880 l:=fun j hj=>by
  have:=hb _ (show l.getD j 0∈l by rw [Le,Lf hj];exact LM _);omega
 have HSu:=lh (fun (W:World) (o:ae [] w W)=>ru (h.quiet o) hl XC);rw [show gy 4 l=bL l from (dS (n:=4) Mf hl).symm] at HSu;have HSd:Hid (∀ W,Calls Tryz.prog 204 #[.int .i64 16] W fun e w'=>e=.returned (.int .i64 4)/\W=w'):=lh (fun W=>lK 16 Mf W);exact GM
theorem sO {lo hi:Nat} {v:Value} {l:List Int} {w:World} (h:ah .i64 lo hi w v l) (hl:l.length=64) (hb:∀ x∈l,-255<=x/\x<=255):Calls Tryz.prog 150 #[v] w fun e w'=>((∃ v',e=.returned (.tuple #[v',.agg #[(),JEu]])/\Own .i64 3 w.heap.size w' v' (bL l))/\ae [] w w'):=by
 refine aN fun Q MM=>?_
 have Wp:=lh (fun (W:World) (o:ae [] w W)=>bS (-65536) 65536 (h.quiet o));rw [oG hb] at Wp;have XC:cN 6266880 l:=fun j hj=>by
  have:=hb _ (show l.getD j 0∈l by rw [Le,Lf hj];exact LM _);omega
 have HSu:=lh (fun (W:World) (o:ae [] w W)=>ry (h.quiet o) hl XC);rw [show gy 8 l=bL l from (dS (n:=8) Mf hl).symm] at HSu;have HSd:Hid (∀ W,Calls Tryz.prog 204 #[.int .i64 64] W fun e w'=>e=.returned (.int .i64 8)/\W=w'):=lh (fun W=>lK 64 Mf W);exact GM
theorem GN {p:Prop} (h:p:=by
 rintro e w4 ⟨⟨tv,rfl,Qf⟩,Ng⟩;obtain ⟨ta,tc,rfl,-⟩:=Qf.ints.open;have Tj:=ae.new w4 (.cells #[(),JEu] 39);have HT5:=lh (Qf.ints.quiet Tj);have Nz:=lh (Nf.q (Ng.q Tj));clear Qf Ng Tj;go_wp2_with fail;generalize hW5:World.alloc w4 _=W5 at *
 clear hW5;go_at_call 151;refine (Vm.out _ _ _ _ HT5).mono ?_;rintro e w6 ⟨⟨lv,rfl,Np⟩,Ob⟩;obtain ⟨la,lc,rfl,-⟩:=Np.ints.open;have HL6:=lh Np;have OI:=lh (Nz.q Ob);have HZ:=lh Nz.size;clear Np Ob;go_wp2_with fail;exact MM.out _ _ ⟨⟨_,rfl,(HL6.quiet (ae.new _ _)).lower HZ.out⟩,OI.q (ae.new _ _)⟩):p:=h
theorem Dx {lo hi lo' hi':Nat} {u v:Value} {b p:List Int} {w:World} (hb:ah .i64 lo hi w u b) (hp:ah .i64 lo' hi' w v p) (lb:b.length=16) (lp:p.length=16) (sb:au b) (sp:au p) (q:Nat) (hq:q<=15) :
  Calls Tryz.prog 93 #[u,v,q] w fun e w'=>((∃ v',e=.returned v'/\Own .i64 3 w.heap.size w' v' (bA b p q))/\ae [] w w'):=by
 refine aN fun Q MM=>?_
 have HS:=lh (xx hb hp (by rw [lb,lp]) (by rw [lb];omega) sb sp);have SN:(dH b p).length=16:=fe lb lp;have hdi:=oL sb sp;have Xp:(bL (dH b p)).length=16:=by rw [dS (n:=4) Mf SN];simp
 have htb:∀ x∈bL (dH b p),-16777216<=x/\x<=16777216:=lq (n:=4) Mf SN hdi;have HD:=lh (And.intro SN hdi);have HT:=lh (And.intro Xp htb);have HE:Hid (bA b p q=(bL (dH b p)).map (fz q)):=lh rfl;rw [HE.out] at MM;obtain ⟨ba,bc,rfl,-⟩:=hb.open;obtain ⟨pa,pc,rfl,-⟩:=hp.open;rw [lb,lp] at HS |-
 generalize dH b p=D at *
 clear hb hp lb lp sb sp SN hdi Xp htb HE;have Vm:=lh (fun (W:World) (lo hi:Nat) (v:Value) (h:ah .i64 lo hi W v (bL D))=>pI h (by rw [HT.1];omega) HT.2 q hq);generalize (bL D).map (fz q)=LV at *
 go_enter Tryz.func93,Tryz.ntmps93;go_wp2_with fail;go_at_call 149;refine HS.mono ?_;rintro e w2 ⟨⟨dv,rfl,Om⟩,MV⟩;obtain ⟨da,dc,rfl,-⟩:=Om.ints.open;have TL:=ae.new w2 (.cells #[(),JEu] 39);have HD3:=lh (Om.ints.quiet TL);have Nf:=lh (MV.q TL);clear Om MV TL;go_wp2_with fail;generalize PZ:World.alloc w2 _=W3 at *
 clear PZ;go_at_call 150;refine (sN HD3 HD.1 HD.2).mono ?_;exact GN
theorem tP {lo hi lo' hi':Nat} {u v:Value} {b p:List Int} {w:World} (hb:ah .i64 lo hi w u b) (hp:ah .i64 lo' hi' w v p) (lb:b.length=64) (lp:p.length=64) (sb:au b) (sp:au p) (q:Nat) (hq:q<=15) :
  Calls Tryz.prog 93 #[u,v,q] w fun e w'=>((∃ v',e=.returned v'/\Own .i64 3 w.heap.size w' v' (bA b p q))/\ae [] w w'):=by
 refine aN fun Q MM=>?_
 have HS:=lh (xx hb hp (by rw [lb,lp]) (by rw [lb];omega) sb sp);have SN:(dH b p).length=64:=fe lb lp;have hdi:=oL sb sp;have Xp:(bL (dH b p)).length=64:=by rw [dS (n:=8) Mf SN];simp
 have htb:∀ x∈bL (dH b p),-16777216<=x/\x<=16777216:=lq (n:=8) Mf SN hdi;have HD:=lh (And.intro SN hdi);have HT:=lh (And.intro Xp htb);have HE:Hid (bA b p q=(bL (dH b p)).map (fz q)):=lh rfl;rw [HE.out] at MM;obtain ⟨ba,bc,rfl,-⟩:=hb.open;obtain ⟨pa,pc,rfl,-⟩:=hp.open;rw [lb,lp] at HS |-
 generalize dH b p=D at *
 clear hb hp lb lp sb sp SN hdi Xp htb HE;have Vm:=lh (fun (W:World) (lo hi:Nat) (v:Value) (h:ah .i64 lo hi W v (bL D))=>pI h (by rw [HT.1];omega) HT.2 q hq);generalize (bL D).map (fz q)=LV at *
 go_enter Tryz.func93,Tryz.ntmps93;go_wp2_with fail;go_at_call 149;refine HS.mono ?_;rintro e w2 ⟨⟨dv,rfl,Om⟩,MV⟩;obtain ⟨da,dc,rfl,-⟩:=Om.ints.open;have TL:=ae.new w2 (.cells #[(),JEu] 39);have HD3:=lh (Om.ints.quiet TL);have Nf:=lh (MV.q TL);clear Om MV TL;go_wp2_with fail;generalize PZ:World.alloc w2 _=W3 at *
 clear PZ;go_at_call 150;refine (sO HD3 HD.1 HD.2).mono ?_;exact GN
end
theorem yq {P:Program} {fn:Func} {p q r:Tmp} {ty:TypeId} (h:fn.results=#[.tmp q,.tmp r,.cell p ty]) (Oe:Array Value) (w:World) (g:Nat) (t:TypeId) (cs:Array Value) (fr:Nat×Nat) (d:TypeDesc) (v u:Value)
  (hp:Oe.getD p undef=.pointer (some ⟨g,0,none⟩)) (hq:Oe.getD q undef=v) (hr:Oe.getD r undef=u) (hg:w.heap[g]?=some (.cells cs t fr))
  (hu:P.underlying ty=some d) (hd:(match d with | .struct _ | .array _ _=>true | _=>false)=true) (hi:(P.info? ty).map (·.size)=some cs.size) :
  (results fn Oe).run P w=.ok (.tuple #[v,u,.agg cs]) w:=by
 have hp':Oe[p]?.getD undef=.pointer (some ⟨g,0,none⟩):=MD;have hq':Oe[q]?.getD undef=v:=ME;have hr':Oe[r]?.getD undef=u:=ML;simp [results,h,hp',hq',hr',asAddr,run_loadVar_row w g t ty cs fr d hg hu hd hi]
section
theorem vK {p:Prop} (h:p:=by
 exact ⟨Nd.cell v0 (by rw [mSg];exact Uu),Nd.cell v1 (by rw [mSg];exact Uu),Nd.cell e0 (by rw [mSg];exact OT),Nd.cell e1 (by rw [mSg];exact OT)⟩):p:=h
theorem lF {lo hi lo' hi':Nat} {u v:Value} {a b:List Int} {vx vy:Int} {w:World} (ha:ah .i64 lo hi w u a) (hb:ah .i64 lo' hi' w v b) (hl:b.length=a.length) (hm:a.length<=64) (sa:au a) (sb:au b) (WG:-15<=vx/\vx<=15) (WH:-15<=vy/\vy<=15) :
  Calls Tryz.prog 96 #[u,v,.agg #[vx,vy]] w fun e w'=>(e=.returned (.tuple #[.int .i64 (dX a b vx vy),.agg #[(),JEu]])/\ae [] w w'):=by
 refine aN fun Q MM=>?_
 have HSa:=lh (fun (W:World) (o:ae [] w W)=>xt (ha.quiet o) (hb.quiet o) hl hm sa sb);have HMy:=lh (fun (W:World)=>tQ vx vy W WG WH);have hsi:=rX sa sb a.length;rw [List.take_of_length_le (Lm _),List.take_of_length_le Mf] at hsi;have NC:0<=dl a b/\dl a b<=20000:=Mf;have HC:Hid (dX a b vx vy=4*dl a b+max vx (-vx)+max vy (-vy)):=lh rfl;rw [HC.out] at MM;obtain ⟨aa,ac,rfl,-⟩:=ha.open;obtain ⟨ba,bc,rfl,-⟩:=hb.open;generalize dl a b=s at *
 obtain ⟨s0,s1⟩:=NC;obtain ⟨a0,a1⟩:=WG;obtain ⟨b0,b1⟩:=WH;have k0:IntKind.i64.wrap (4*s)=4*s:=Mi;have nx:IntKind.i64.wrap (-vx)=-vx:=Mi;have ny:IntKind.i64.wrap (-vy)=-vy:=Mi;obtain ⟨Zm,ZQ,Pg,Sh⟩:=jl w (.cells #[vx,vy] 73) (.cells #[(),JEu] 39);have MT:=lh Zm;clear ha hb hl hm sa sb hsi Zm HC;go_enter Tryz.func96,Tryz.ntmps96;go_wp2_with fail;generalize NB:World.alloc (World.alloc w _) _=W1 at *
 clear NB;go_at_call 155;refine (HSa.out _ MT).mono ?_;rintro e w2 ⟨rfl,MV⟩;have TL:=ae.new w2 (.cells #[(),JEu] 39);have Ss:=lh (heap_alloc_new w2 (.cells #[(),JEu] 39));have HX3:=lh (MV.q TL);have Hne:Hid (w.heap.size+1<w2.heap.size):=lh (by have:=MV.size;have:=Sh.out;omega);clear MV TL;go_wp2_with fail;generalize PZ:World.alloc w2 _=W3 at *
 clear PZ;obtain ⟨B,hB⟩:∃ z,z=w2.heap.size:=⟨_,rfl⟩
 rw [<- hB] at Ss Hne |-
 clear hB;go_at_call 37;refine (cK _ _ _).mono ?_;rintro e w4 ⟨rfl,Ng⟩;have Yt:=lh (HX3.q Ng);have Zc:=lh (Ng.row Ss);clear Ng;obtain ⟨v0,v1,-⟩:=aJ (Yt.row ZQ);go_wp2_with fail;clear v0 v1;go_at_call 152;refine (HMy.out _).mono ?_;rintro e w5 ⟨rfl,NF⟩;have HX5:=lh (Yt.q NF);have Xs:=lh (NF.row Zc);clear NF;obtain ⟨v0,v1,-⟩:=aJ (HX5.row ZQ);obtain ⟨e0,e1,-⟩:=aJ Xs;obtain ⟨z0,z1,y0,y1',-⟩:=aJ (HX5.row Pg);obtain ⟨MS,Nd⟩:=aH (x:=.int .i64 0) (y:=.slice none 0 0) (HX5.row Pg);have OT:¬ B=w.heap.size+1:=by have:=Hne.out;omega
 have Uu:¬ w.heap.size=w.heap.size+1:=Mf;have NQ:=((MT.q HX5).trans Nd (U:=[]) Mg (fun g hg MO=>Mj))
 go_upto_region 6 with (fail);by_cases hx:vx<0
 ·by_cases hy:vy<0
  ·have x1:vx < -vx:=Mf
   have x2:¬ -vx<vx:=Mf;have y1:vy < -vy:=Mf;have y2:¬ -vy<vy:=Mf;have k1:IntKind.i64.wrap (4*s+-vx)=4*s+-vx:=Mi;have k2:IntKind.i64.wrap (4*s+-vx+-vy)=4*s+-vx+-vy:=Mi;have Pq:Hid (4*s+-vx+-vy=4*s+max vx (-vx)+max vy (-vy)):=lh Mf;refine wp_region_held_drew (S:=(fun w'=>w'.cell? ⟨w.heap.size,0,none⟩=some (.int .i64 vx)/\w'.cell? ⟨w.heap.size,1,none⟩=some (.int .i64 vy)/\w'.cell? ⟨B,0,none⟩=some (.int .i64 0)/\w'.cell? ⟨B,1,none⟩=some (.slice none 0 0))) Mh ?_ (fun hHeld=>?_)
   ·exact ⟨v0,v1,e0,e1⟩
   refine tk 0 24 ?_;refine tk 1 25 ?_;refine tk 2 26 ?_;refine tk 3 27 ?_;refine tk 4 28 ?_;refine tk 5 29 ?_;refine tk 6 30 ?_;refine tk 7 31 ?_;refine tk 8 32 ?_;refine tk 9 33 ?_;refine tk 10 34 ?_;refine tk 11 35 ?_;refine tk 12 36 ?_;refine tk 13 37 ?_;refine tk 14 38 ?_;refine tk 15 39 ?_;refine tk 16 40 ?_;refine tk 17 6 ?_;refine rdy (rdn 18 (fun K hK=>?_) .nil);go_simp;refine hK.out _ _ ?_ (fun hHeld=>?_)
   ·exact vK
   clear hK K
   try simp only [Act.put,Lg,Lj,Lk]
   refine wpAnyH_done Mh ?_ _;go_wp2_with fail;exact bodyPost_ret (v:=.tuple #[.int .i64 (4*s+-vx+-vy),.agg #[(),JEu]]) (aA Tryz.results96 _ _ (w.heap.size+1) _ _ _ _ _ rfl rfl MS Tryz.underlying39 rfl (aR _ rfl)) rfl (MM.out _ _ ⟨by rw [Pq.out],NQ.drew⟩)
  ·have x1:vx < -vx:=Mf
   have x2:¬ -vx<vx:=Mf;have y1:¬ vy < -vy:=Mf;have y2:-vy<=vy:=Mf;have k1:IntKind.i64.wrap (4*s+-vx)=4*s+-vx:=Mi;have k2:IntKind.i64.wrap (4*s+-vx+vy)=4*s+-vx+vy:=Mi;have Pq:Hid (4*s+-vx+vy=4*s+max vx (-vx)+max vy (-vy)):=lh Mf;refine wp_region_held_drew (S:=(fun w'=>w'.cell? ⟨w.heap.size,0,none⟩=some (.int .i64 vx)/\w'.cell? ⟨w.heap.size,1,none⟩=some (.int .i64 vy)/\w'.cell? ⟨B,0,none⟩=some (.int .i64 0)/\w'.cell? ⟨B,1,none⟩=some (.slice none 0 0))) Mh ?_ (fun hHeld=>?_)
   ·exact ⟨v0,v1,e0,e1⟩
   refine tk 0 24 ?_;refine tk 1 25 ?_;refine tk 2 26 ?_;refine tk 3 27 ?_;refine tk 4 28 ?_;refine tk 5 29 ?_;refine tk 6 30 ?_;refine tk 7 31 ?_;refine tk 8 32 ?_;refine tk 9 33 ?_;refine tk 10 34 ?_;refine tk 11 35 ?_;refine tk 12 36 ?_;refine tk 13 37 ?_;refine tk 14 38 ?_;refine tk 15 39 ?_;refine tk 16 40 ?_;refine tk 17 6 ?_;refine rdy (rdn 18 (fun K hK=>?_) .nil);go_simp;refine hK.out _ _ ?_ (fun hHeld=>?_)
   ·exact vK
   clear hK K
   try simp only [Act.put,Lg,Lj,Lk]
   refine wpAnyH_done Mh ?_ _;go_wp2_with fail;exact bodyPost_ret (v:=.tuple #[.int .i64 (4*s+-vx+vy),.agg #[(),JEu]]) (aA Tryz.results96 _ _ (w.heap.size+1) _ _ _ _ _ rfl rfl MS Tryz.underlying39 rfl (aR _ rfl)) rfl (MM.out _ _ ⟨by rw [Pq.out],NQ.drew⟩)
 ·by_cases hy:vy<0
  ·have x1:¬ vx < -vx:=Mf
   have x2:-vx<=vx:=Mf;have y1:vy < -vy:=Mf;have y2:¬ -vy<vy:=Mf;have k1:IntKind.i64.wrap (4*s+vx)=4*s+vx:=Mi;have k2:IntKind.i64.wrap (4*s+vx+-vy)=4*s+vx+-vy:=Mi;have Pq:Hid (4*s+vx+-vy=4*s+max vx (-vx)+max vy (-vy)):=lh Mf;refine wp_region_held_drew (S:=(fun w'=>w'.cell? ⟨w.heap.size,0,none⟩=some (.int .i64 vx)/\w'.cell? ⟨w.heap.size,1,none⟩=some (.int .i64 vy)/\w'.cell? ⟨B,0,none⟩=some (.int .i64 0)/\w'.cell? ⟨B,1,none⟩=some (.slice none 0 0))) Mh ?_ (fun hHeld=>?_)
   ·exact ⟨v0,v1,e0,e1⟩
   refine tk 0 24 ?_;refine tk 1 25 ?_;refine tk 2 26 ?_;refine tk 3 27 ?_;refine tk 4 28 ?_;refine tk 5 29 ?_;refine tk 6 30 ?_;refine tk 7 31 ?_;refine tk 8 32 ?_;refine tk 9 33 ?_;refine tk 10 34 ?_;refine tk 11 35 ?_;refine tk 12 36 ?_;refine tk 13 37 ?_;refine tk 14 38 ?_;refine tk 15 39 ?_;refine tk 16 40 ?_;refine tk 17 6 ?_;refine rdy (rdn 18 (fun K hK=>?_) .nil);go_simp;refine hK.out _ _ ?_ (fun hHeld=>?_)
   ·exact vK
   clear hK K
   try simp only [Act.put,Lg,Lj,Lk]
   refine wpAnyH_done Mh ?_ _;go_wp2_with fail;exact bodyPost_ret (v:=.tuple #[.int .i64 (4*s+vx+-vy),.agg #[(),JEu]]) (aA Tryz.results96 _ _ (w.heap.size+1) _ _ _ _ _ rfl rfl MS Tryz.underlying39 rfl (aR _ rfl)) rfl (MM.out _ _ ⟨by rw [Pq.out],NQ.drew⟩)
  ·have x1:¬ vx < -vx:=Mf
   have x2:-vx<=vx:=Mf;have y1:¬ vy < -vy:=Mf;have y2:-vy<=vy:=Mf;have k1:IntKind.i64.wrap (4*s+vx)=4*s+vx:=Mi;have k2:IntKind.i64.wrap (4*s+vx+vy)=4*s+vx+vy:=Mi;have Pq:Hid (4*s+vx+vy=4*s+max vx (-vx)+max vy (-vy)):=lh Mf;refine wp_region_held_drew (S:=(fun w'=>w'.cell? ⟨w.heap.size,0,none⟩=some (.int .i64 vx)/\w'.cell? ⟨w.heap.size,1,none⟩=some (.int .i64 vy)/\w'.cell? ⟨B,0,none⟩=some (.int .i64 0)/\w'.cell? ⟨B,1,none⟩=some (.slice none 0 0))) Mh ?_ (fun hHeld=>?_)
   ·exact ⟨v0,v1,e0,e1⟩
   refine tk 0 24 ?_;refine tk 1 25 ?_;refine tk 2 26 ?_;refine tk 3 27 ?_;refine tk 4 28 ?_;refine tk 5 29 ?_;refine tk 6 30 ?_;refine tk 7 31 ?_;refine tk 8 32 ?_;refine tk 9 33 ?_;refine tk 10 34 ?_;refine tk 11 35 ?_;refine tk 12 36 ?_;refine tk 13 37 ?_;refine tk 14 38 ?_;refine tk 15 39 ?_;refine tk 16 40 ?_;refine tk 17 6 ?_;refine rdy (rdn 18 (fun K hK=>?_) .nil);go_simp;refine hK.out _ _ ?_ (fun hHeld=>?_)
   ·exact vK
   clear hK K
   try simp only [Act.put,Lg,Lj,Lk]
   refine wpAnyH_done Mh ?_ _;go_wp2_with fail;exact bodyPost_ret (v:=.tuple #[.int .i64 (4*s+vx+vy),.agg #[(),JEu]]) (aA Tryz.results96 _ _ (w.heap.size+1) _ _ _ _ _ rfl rfl MS Tryz.underlying39 rfl (aR _ rfl)) rfl (MM.out _ _ ⟨by rw [Pq.out],NQ.drew⟩)
theorem Iz (a b:List Int):dl a b=dl b a:=by
 unfold dl;rw [List.zipWith_comm]
 congr 2
 funext x y
 omega
theorem tM {n:Nat} (hn:n=4\/n=8) {lo hi lo' hi' TQ RK:Nat} {bv tv lv:Value} {b top left:List Int} {w:World} (hb:ah .i64 TQ RK w bv b) (ht:ah .i64 lo hi w tv top) (hl:ah .i64 lo' hi' w lv left) (lb:b.length=n*n) (lt:top.length=n) (ll:left.length=n) (sb:au b) (st:au top) (sl:au left) {corner:Int} (hc:0<=corner/\corner<=255) :
  Calls Tryz.prog 98 #[bv,tv,lv,corner] w fun e w'=>(e=.returned (.tuple #[.int .i64 (ku b top left corner).1,.int .i64 (ku b top left corner).2,.agg #[(),JEu]])/\ae [] w w'):=by
 refine aN fun Q MM=>?_
 have Ug:=lh (fun (W:World) (o:ae [] w W) (m:Nat) (hm:m<=3)=>(by
  rcases hn with rfl | rfl
  ·exact jq (ht.quiet o) (hl.quiet o) lt ll st sl hc (mode:=(m:Int)) Mf
  ·exact jr (ht.quiet o) (hl.quiet o) lt ll st sl hc (mode:=(m:Int)) Mf:Calls Tryz.prog 99 #[.int .i64 (m:Int),tv,lv,corner] W fun e w'=>((∃ v',e=.returned (.tuple #[v',.agg #[(),JEu]])/\Own .i64 3 W.heap.size w' v' (bj (m:Int) top left corner))/\ae [] W w')))
 have Wp:=lh (fun (W:World) (o:ae [] w W)=>by have:=bS 0 255 (hb.quiet o);rw [show aX b 0 255=true from ee.2 sb] at this;exact this);have SH:∀ m:Nat,(bj (m:Int) top left corner).length=n*n:=fun m=>by rw [cS,lt]
 have QK:=lh (fun m:Nat=>(by rw [SH m];rcases hn with rfl | rfl <;> omega:0<(bj (m:Int) top left corner).length));have JcX:=lh (fun (W:World) (o:ae [] w W) (m:Nat) (l1 l2:Nat) (v:Value) (hv:ah .i64 l1 l2 W v (bj (m:Int) top left corner))=>by have:=xt hv (hb.quiet o) (by rw [SH m,lb]) (by rw [SH m];rcases hn with rfl | rfl <;> omega) (jH st sl (by rw [lt];rcases hn with rfl | rfl <;> omega) (m:Int) corner) sb;rw [Iz] at this;exact this);have HE:Hid (ku b top left corner=eK b top left corner ([0,1,2,3].drop 0) (0,-1)):=lh rfl;have Pt:=lh (fun (k:Nat) (h:k<4) (bm:Nat) (ls:Int)=>(by rw [qL h];rfl:eK b top left corner (([0,1,2,3]:List Nat).drop k) (bm,ls)=eK b top left corner (([0,1,2,3]:List Nat).drop (k+1)) (if ls<0\/dl b (bj (k:Int) top left corner)<ls then (k,dl b (bj (k:Int) top left corner)) else (bm,ls))));have Rh:Hid (∀ r,eK b top left corner (([0,1,2,3]:List Nat).drop 4) r=r):=lh (fun r=>rfl);obtain ⟨a1,c1,rfl,-⟩:=hb.open;obtain ⟨a2,c2,rfl,-⟩:=ht.open;obtain ⟨a3,c3,rfl,-⟩:=hl.open;obtain ⟨m,hm⟩:∃ m,m=n*n:=⟨_,rfl⟩
 have hnw:IntKind.i64.wrap ((n:Int)*(n:Int))=(m:Int):=by rw [hm];rcases hn with rfl | rfl <;> decide
 rw [<- hm] at lb;rw [lb] at Wp JcX;rw [lt,ll] at Ug;rw [lb,lt,ll];have Wo:=lh (fun (W:World) (o:ae [] w W)=>Ug.out W o 0 Mf);have hp0:=QK.out 0;obtain ⟨BE,XB⟩:∃ z,z=ku b top left corner:=⟨_,rfl⟩
 rw [<- XB] at HE MM;generalize hgo:eK b top left corner=go at *
 rw [show ((0:Nat):Int)=0 from rfl] at Wo hp0;obtain ⟨P0,hP0⟩:∃ z,z=bj 0 top left corner:=⟨_,rfl⟩
 rw [<- hP0] at Wo hp0;have HPn:=lh hp0;have MT:=lh (ae.new w (.cells #[(),JEu] 39));have Pg:=lh (heap_alloc_new w (.cells #[(),JEu] 39));have Sh:Hid ((w.alloc (.cells #[(),JEu] 39)).heap.size=w.heap.size+1):=lh Mg;clear hb ht hl lb lt ll sb st sl hc SH XB hgo hn hm hP0 hp0;go_enter Tryz.func98,Tryz.ntmps98;go_wp2_with fail;generalize NB:World.alloc w _=W1 at *
 clear NB;go_at_call 99;refine (Wo.out _ MT).mono ?_;rintro e w2 ⟨⟨v2,rfl,OU⟩,MV⟩;obtain ⟨g2,Rj,rfl,-,-⟩:=OU.form HPn;have HX3:=lh (MV.q (ae.new w2 (.cells #[(),JEu] 39)));have Ss:=lh (heap_alloc_new w2 (.cells #[(),JEu] 39));have Hne:Hid (w.heap.size<w2.heap.size):=lh (by have:=MV.size;have:=Sh.out;omega);clear OU MV;go_wp2_with fail;generalize PZ:World.alloc w2 _=W3 at *
 clear PZ;obtain ⟨B,hB⟩:∃ z,z=w2.heap.size:=⟨_,rfl⟩
 rw [<- hB] at Ss Hne |-
 clear hB;go_at_call 37;refine (cK _ _ _).mono ?_;rintro e w4 ⟨rfl,Ng⟩;have Yt:=lh (HX3.q Ng);have Zc:=lh (Ng.row Ss);clear Ng;go_wp2_with fail;go_at_call 61;refine (Wp.out _ (MT.q Yt)).mono ?_;rintro e w5 ⟨rfl,hw5⟩;subst hw5;go_wp2_with fail;go_loopw [13,14,15,16,17,18,19] (fun u v i _ _ _ _ wr=>∃ (k bm:Nat) (ls:Int),k<=4/\i=.int .i64 k/\u=.int .i64 bm/\v=.int .i64 ls/\Hid (go (([0,1,2,3]:List Nat).drop k) (bm,ls)=BE)/\Hid (ae [] w4 wr)) (fun _ _ i _ _ _ _ _=>4-(intOf i).toNat)
 case atStart=>exact ⟨0,0,-1,Mf,rfl,rfl,rfl,lh HE.symm,lh (ae.refl _ _)⟩
 case round =>
  obtain ⟨k,bm,ls,hk,rfl,rfl,rfl,Pn,MW⟩:=hrel;by_cases MO:k<4
  ·have Ny:(k:Int)<4:=Mf
   have NU:(0:Int)<=(k:Int):=Mf;have RU:=lh ((MT.q Yt).q MW);have OO:=lh (Ug.out wr RU k Mf);have RV:=lh (fun (W:World) (o:ae [] w W)=>JcX.out W o k);have HLk:=lh (QK.out k);have Rq:=lh (Pt.out k MO bm ls);generalize dl b (bj (k:Int) top left corner)=sd at *
   generalize bj (k:Int) top left corner=P at *
   go_wp2_with fail;go_at_call 99;refine OO.mono ?_;rintro e w6 ⟨⟨v6,rfl,ho6⟩,Ob⟩;obtain ⟨g6,JzY,rfl,-,-⟩:=ho6.form HLk;have HX7:=lh (MW.q (Ob.q (ae.new w6 (.cells #[(),JEu] 39))));have RH:=lh (ho6.ints.quiet (ae.new w6 (.cells #[(),JEu] 39)));clear ho6 Ob;go_wp2_with fail;generalize hW7:World.alloc w6 _=W7 at *
   clear hW7;go_at_call 155;refine (RV.out _ ((MT.q Yt).q HX7) _ _ _ RH).mono ?_;rintro e w8 ⟨rfl,RZ⟩;have HX9:=lh (HX7.q (RZ.q (ae.new w8 (.cells #[(),JEu] 39))));clear RZ;by_cases PQ:ls<0
   ·have Sy:Hid (go (([0,1,2,3]:List Nat).drop (k+1)) (k,sd)=BE):=lh (by rw [<- Pn.out,Rq.out,if_pos (.inl PQ)])
    clear Rq;go_wp2_with fail;exact ⟨⟨k+1,k,sd,Mf,Mm,rfl,rfl,Sy,HX9⟩,Mk⟩
   ·by_cases hsd:sd<ls
    ·have Sy:Hid (go (([0,1,2,3]:List Nat).drop (k+1)) (k,sd)=BE):=lh (by rw [<- Pn.out,Rq.out,if_pos (.inr hsd)])
     clear Rq;go_wp2_with fail;exact ⟨⟨k+1,k,sd,Mf,Mm,rfl,rfl,Sy,HX9⟩,Mk⟩
    ·have Sy:Hid (go (([0,1,2,3]:List Nat).drop (k+1)) (bm,ls)=BE):=lh (by rw [<- Pn.out,Rq.out,if_neg Mf])
     clear Rq;go_wp2_with fail;exact ⟨⟨k+1,bm,ls,Mf,Mm,rfl,rfl,Sy,HX9⟩,Mk⟩
  ·obtain rfl:k=4:=Mf
   have Ny:¬ ((4:Nat):Int)<4:=Mf;have XB:BE=(bm,ls):=by rw [<- Pn.out,Rh.out]
   have HBE:=lh XB;clear XB;have hb5:=MW.row Zc;have he5:=MW.row (Yt.row Pg);obtain ⟨e0,e1,-⟩:=aJ hb5;obtain ⟨z0,z1,y0,y1,-⟩:=aJ he5;obtain ⟨MS,Nd⟩:=aH (x:=.int .i64 0) (y:=.slice none 0 0) he5;have OT:¬ B=w.heap.size:=by have:=Hne.out;omega
   have NQ:=((MT.q (Yt.q MW)).trans Nd (U:=[]) Mg (fun g hg MO=>Mj))
   go_upto_region 16 with (fail);refine wp_region_held_drew (S:=(fun w'=>w'.cell? ⟨B,0,none⟩=some (.int .i64 0)/\w'.cell? ⟨B,1,none⟩=some (.slice none 0 0))) Mh ?_ (fun hHeld=>?_)
   ·exact ⟨e0,e1⟩
   refine tk 0 71 ?_;refine tk 1 72 ?_;refine tk 2 73 ?_;refine tk 3 8 ?_;refine tk 4 9 ?_;refine rdy (rdn 5 (fun K hK=>?_) .nil);go_simp;refine hK.out _ _ ?_ (fun hHeld=>?_)
   ·exact ⟨Nd.cell e0 (by rw [mSg];exact OT),Nd.cell e1 (by rw [mSg];exact OT)⟩
   clear hK K
   try simp only [Act.put,Lg,Lj,Lk]
   refine wpAnyH_done Mh ?_ _;go_wp2_with fail;refine bodyPost_ret (v:=.tuple #[bm,ls,.agg #[(),JEu]]) (yq Tryz.results98 _ _ w.heap.size _ _ _ _ _ _ rfl rfl rfl MS Tryz.underlying39 rfl (aR _ rfl)) rfl (MM.out _ _ ⟨?_,NQ.drew⟩);rw [HBE.out]
end
end Go.Proofs.YthcafdfdglfabaaGreatDoor
