/- Joined texts: Opens, First. Conditions: each part names its own. -/
import Derived.Test.YtmdobcffijnaoaaGreatDoorB3
import Derived.Test.YtmdobcffijnaoaaGreatDoorB6
import Derived.Test.YtmdobcffijnaoaaGreatDoorC4
import Derived.Test.YtmdobcffijnaoaaGreatDoorC3
namespace Go.Proofs.YtmdobcffijnaoaaGreatDoor
open Go.RowKit
set_option linter.unusedVariables false
set_option linter.unusedSimpArgs false
set_option maxRecDepth 100000
set_option maxHeartbeats 16000000
def OpensP (w:World) (r:Except Err WholeD) (e:Ending) (w':World):Prop :=
 Only [] w w'∧match r with
  | .ok x=>∃ pv,e=.returned (.tuple #[infoV x.head.W x.head.H x.head.F x.head.c pv,.nilIface])∧EntriesAt w.heap.size w'.heap.size w' pv x.parts
  | .error er=>∃ ev,e=.returned (.tuple #[infoV 0 0 0 cfg0 (.slice none 0 0),ev])∧ErrV w.heap.size w'.heap.size w' ev er
theorem Open_any {lo hi:Nat} {bv:Value} {l:List Int} {w:World} (h:Ints .u8 lo hi w bv l) (hh:hi≤w.heap.size) (hl:l.length≤1000000000000) :
  Calls Tryz.prog 10 #[bv] w (OpensP w (openR l)):=by
 have hO:Only [] w (w.alloc (.cells #[.int .i64 0,.int .i64 0,.int .i64 0,.int .i64 0,.int .i64 0,.int .i64 0,.int .i64 0,.int .i64 0,.int .i64 0,.int .i64 0,.int .i64 0,.slice none 0 0] 42)):=Only.new _ _
 have H:=lh (open_any (h.quiet hO) (by simp;omega) hl)
 have HO:=lh hO
 clear hO h
 cases hres:openR l with
 | error er =>
  rw [hres] at H
  clear hres
  go_enter Tryz.func10,Tryz.ntmps10
  go_wp2_with (first
   | (go_at_call 18;refine H.out.mono ?_;rintro e w2 hP;unfold OpenP at hP;simp only at hP;obtain ⟨hq2,ev,rfl,hev⟩:=hP;obtain ⟨et,eu,rfl⟩:=id hev.held;unfold infoV cfg0;simp only;have HEv:=lh hev;have rI2:=hq2.fresh;obtain ⟨⟨m0,m1,m2,m3,m4,m5⟩,⟨m6,m7,m8,m9,m10,m11⟩⟩:=cells12 rI2;obtain ⟨⟨k0,k1,k2,k3,k4,k5⟩,⟨k6,k7,k8,k9,k10,k11⟩⟩:=frz12 rI2;have hwl:w.heap.size<w2.heap.size:=(Array.getElem?_eq_some_iff.1 rI2).1;have HI2:=lh rI2;have Hq2:=lh hq2;clear hev hq2 rI2)
   | fail)
  generalize hWf:World.alloc _ _=Wf
  obtain ⟨hrow,hOf⟩:=end12 HI2.out hWf
  obtain ⟨⟨t0,t1,t2,t3,t4,t5⟩,⟨t6,t7,t8,t9,t10,t11⟩⟩:=cells12 hrow
  refine bodyPost_ret (v:=.tuple #[infoV 0 0 0 cfg0 (.slice none 0 0),.iface et eu]) (by simp [results,Tryz.results10,go_sem,t0,t1,t2,t3,t4,t5,t6,t7,t8,t9,t10,t11,infoV,cfg0]) rfl ?_
  unfold OpensP
  have hO2:Only [] w w2:=HO.out.q Hq2.out
  exact ⟨hO2.trans hOf (by simp) (by simp),_,rfl,(ErrV.only HEv.out hOf (by intro g hg;rw [mSg] at hg;subst hg;left;simp;try omega)).mono (by simp;try omega) hOf.size⟩
 | ok x =>
  rw [hres] at H
  clear hres
  obtain ⟨⟨hW,hH,hF,⟨c0,c1,c2,c3,c4,c5,c6,c7⟩,np⟩,es,cs,fs⟩:=x
  go_enter Tryz.func10,Tryz.ntmps10
  go_wp2_with (first
   | (go_at_call 18;refine H.out.mono ?_;rintro e w2 hP;unfold OpenP at hP;simp only at hP;obtain ⟨hq2,pv,cv,fv,rfl,hoe,hoc,hof⟩:=hP;obtain ⟨pa,pcap,hpv,_⟩:=id hoe.open;subst hpv;unfold infoV;simp only;have HOE:=lh hoe;have rI2:=hq2.fresh;obtain ⟨⟨m0,m1,m2,m3,m4,m5⟩,⟨m6,m7,m8,m9,m10,m11⟩⟩:=cells12 rI2;obtain ⟨⟨k0,k1,k2,k3,k4,k5⟩,⟨k6,k7,k8,k9,k10,k11⟩⟩:=frz12 rI2;have hwl:w.heap.size<w2.heap.size:=(Array.getElem?_eq_some_iff.1 rI2).1;have HI2:=lh rI2;have Hq2:=lh hq2;clear hoe hoc hof hq2 rI2)
   | fail)
  generalize hWf:World.alloc _ _=Wf
  obtain ⟨hrow,hOf⟩:=end12 HI2.out hWf
  obtain ⟨⟨t0,t1,t2,t3,t4,t5⟩,⟨t6,t7,t8,t9,t10,t11⟩⟩:=cells12 hrow
  refine bodyPost_ret (v:=.tuple #[infoV hW hH hF ⟨c0,c1,c2,c3,c4,c5,c6,c7⟩ (.slice pa es.length pcap),.nilIface]) (by simp [results,Tryz.results10,go_sem,t0,t1,t2,t3,t4,t5,t6,t7,t8,t9,t10,t11,infoV]) rfl ?_
  unfold OpensP
  have hO2:Only [] w w2:=HO.out.q Hq2.out
  have hz:=hO2.size
  exact ⟨hO2.trans hOf (by simp) (by simp),_,rfl,Rows.mono (HOE.out.only hOf (by intro g hg;rw [mSg] at hg;subst hg;left;simp;try omega)) (by simp;try omega) hOf.size⟩
theorem muxf_any {lo hi:Nat} {v:Value} {w:World} {b:List Int} (hb:muxR cfgF 8 8 chunksF=.ok b) (h:ChunksAt lo hi w v chunksF) (hhi:hi≤w.heap.size) :
  Calls Tryz.prog 13 #[.agg #[.int .i64 0,.int .i64 3,.int .i64 0,.int .i64 0,.int .i64 4,.int .i64 8,.int .i64 64,.int .i64 64],.int .i64 8,.int .i64 8,v] w fun e w'=>Only [] w w'∧∃ bv,e=.returned (.tuple #[bv,.nilIface])∧Own .u8 5 w.heap.size w' bv b:=by
 have:=mux_any cfgF 8 8 h hhi (by decide)
 rw [hb] at this
 exact this
theorem first_any {w:World} (hE:ErrT w):Calls Tryz.prog 5 #[] w fun e w'=>e=.returned (.bool true)∧Only [] w w':=by
 obtain ⟨b,x,hm,hbl,ho,hxW,hxp,hxt⟩:=first_mux
 obtain ⟨⟨W,H,F,⟨c0,c1,c2,c3,c4,c5,c6,c7⟩,np⟩,es,cs,fs⟩:=x
 simp only at hxW hxp hxt
 subst hxW;subst hxp
 have hsz:sizesR b=.ok [8]:=by unfold sizesR;rw [ho];simp only;rw [hxt]
 have Hm:=lh hm
 have Ho:=lh ho
 have Hs:=lh hsz
 have Hbl:=lh hbl
 have HE:=lh hE
 have HO:=lh (Only.new w (.cells #[.int .i64 0,.int .i64 3,.int .i64 0,.int .i64 0,.int .i64 4,.int .i64 8,.int .i64 64,.int .i64 64] 39))
 have rC:=heap_alloc_new w (.cells #[.int .i64 0,.int .i64 3,.int .i64 0,.int .i64 0,.int .i64 4,.int .i64 8,.int .i64 64,.int .i64 64] 39)
 have HC:=lh rC
 have N1:=lh (isErr_eq first_nil)
 have N2:=lh (isErr_eq first_zero)
 clear hm ho hxt hsz hbl rC hE
 go_enter Tryz.func5,Tryz.ntmps5
 go_wp2_with fail
 generalize hW1:World.alloc w _=W1
 rw [hW1] at HO HC
 have m:=cells8 HC.out
 obtain ⟨⟨m0,m1,m2,m3⟩,m4,m5,m6,m7⟩:=m
 have hs1:W1.heap.size=w.heap.size+1:=by rw [← hW1];simp
 have hOD:Only [] w W1.drew:=HO.out.drew
 have HD:=lh hOD
 clear hW1 hOD
 go_region_held3 (fun w'=>w'.cell? ⟨w.heap.size,0,none⟩=some (.int .i64 0)∧w'.cell? ⟨w.heap.size,1,none⟩=some (.int .i64 3)∧w'.cell? ⟨w.heap.size,2,none⟩=some (.int .i64 0)∧w'.cell? ⟨w.heap.size,3,none⟩=some (.int .i64 0)∧w'.cell? ⟨w.heap.size,4,none⟩=some (.int .i64 4)∧w'.cell? ⟨w.heap.size,5,none⟩=some (.int .i64 8)∧w'.cell? ⟨w.heap.size,6,none⟩=some (.int .i64 64)∧w'.cell? ⟨w.heap.size,7,none⟩=some (.int .i64 64))
  (first
   | (go_split_ands;refine ⟨hq2.cell (by assumption) (by simp),hq2.cell (by assumption) (by simp),hq2.cell (by assumption) (by simp),hq2.cell (by assumption) (by simp),hq2.cell (by assumption) (by simp),hq2.cell (by assumption) (by simp),hq2.cell (by assumption) (by simp),hq2.cell (by assumption) (by simp)⟩)
   | (go_split_ands;refine ⟨hq3.cell (by assumption) (by simp),hq3.cell (by assumption) (by simp),hq3.cell (by assumption) (by simp),hq3.cell (by assumption) (by simp),hq3.cell (by assumption) (by simp),hq3.cell (by assumption) (by simp),hq3.cell (by assumption) (by simp),hq3.cell (by assumption) (by simp)⟩)
   | (simp [*,World.cell?_alloc_some,World.cell?_setCell_far,frozen?_alloc_cells,frozen_drew,World.frozen?_setCell])
   | fail)
  (first
   | (go_at_call 14;refine (bflat_any _).mono ?_;rintro e w2 ⟨v2,rfl,hq2,hch⟩;have HM:=lh (muxf_any Hm.out hch (Nat.le_refl _));have hz2:=hq2.size)
   | (go_at_call 13;refine HM.out.mono ?_;rintro e w3 ⟨hq3,bv,rfl,hown⟩;obtain ⟨ba,bcap,hbv,_⟩:=hown.ints.open;rw [Hbl.out] at hbv;subst hbv;have HOP:=lh (fun w' (o:Only [] w3 w')=>Open_any (hown.ints.quiet o) o.size (by rw [Hbl.out];omega));have HSZ:=lh (fun w' (o:Only [] w3 w')=>Sizes_any (hown.ints.quiet o) o.size (by rw [Hbl.out];omega)))
   | fail)
 have HQ3:=lh hq3
 have HQ2:=lh hq2
 have hbv:=hown.ints
 have hz3:=hq3.size
 clear hq2 hq3 hch hown
 have hss:sBox=⟨#[98,111,120]⟩:=rfl
 have HSS:=lh hss
 clear hss
 go_wp2_with (first
  | (have t:=HA8;go_at_call 17;refine (intsEq_any (l:=[8]) (m:=[8]) (HA4.out.quiet (((((HC8.out).q HC9.out).q HC10.out).q HC11.out).q (Only.new _ _))).ints (ints_newG (l:=[8]) rfl (by simp [maxLen]) (by simp [InK]) 1 rfl (by simp))).mono ?_;rintro e w12 ⟨rfl,hq12⟩;rw [show eqB ([8]:List Int) [8]=true from by decide])
  | (have t:=HA7;go_at_call 9;refine (same_any (o:=some ⟨[(sBox,0)],2⟩) (p:=[(sBox,0)]) ((HA3.out.quiet (((HC7.out).q HC8.out).q (HC9.out.q HC10.out)))) (by have:=(((HC7.out).q HC8.out).q (HC9.out.q HC10.out)).size;omega) (HE.out.quiet (HCW.out.q ((HC7.out.q HC8.out).q (HC9.out.q HC10.out)))) (by simp) HA7.out rfl rfl rfl).mono ?_;rintro e w11 ⟨rfl,hq11⟩;have HA8:=lh (True.intro);have HC11:=lh hq11;clear hq11)
  | (have t:=HA6;go_at_call 16;refine (wrap_any sBox 0 2 _ (by omega)).mono ?_;rintro e w10 ⟨kv,rfl,hk,hq10⟩;obtain ⟨sv2,rfl,hcs⟩:=hk;have HA7:=lh hcs;have HC10:=lh hq10;clear hcs hq10)
  | (have t:=HA5;go_at_call 9;refine (same_any (o:=some ⟨[(sBox,0)],1⟩) (p:=[(sBox,0)]) (HA2.out.quiet (HC6.out.q ((HC7.out).q HC8.out))) (by have:=(HC6.out.q ((HC7.out).q HC8.out)).size;omega) (HE.out.quiet (HCW.out.q (HC7.out.q HC8.out))) (by simp) HA5.out rfl rfl rfl).mono ?_;rintro e w9 ⟨rfl,hq9⟩;have HA6:=lh (True.intro);have HC9:=lh hq9;clear hq9)
  | (have t:=HA4;go_at_call 16;refine (wrap_any sBox 0 1 _ (by omega)).mono ?_;rintro e w8 ⟨kv,rfl,hk,hq8⟩;obtain ⟨sv1,rfl,hcs⟩:=hk;have HA5:=lh hcs;have HC8:=lh hq8;clear hcs hq8)
  | (have t:=HA3;go_at_call 15;refine (HSZ.out _ (HC3.out.q (Only.new _ _))).mono ?_;rintro e w7 hP;unfold ListOr at hP;rw [Hs.out] at hP;obtain ⟨hq7,sv,rfl,hso⟩:=hP;have HA4:=lh hso;have hc7:=((Only.new _ _).q hq7);have HC7:=lh hc7;have HCW:=lh (HD.out.q (HQ2.out.q (HQ3.out.q HC3.out)));have rI:=hc7.rowAt (HC6.out.rowAt HR5.out (by simp)) (by simp);have i0:w7.cell? ⟨w4.heap.size,0,none⟩=some (.int .i64 8):=(by rw [cell_of_row _ _ _ _ _ _ rI];rfl);have i11:w7.cell? ⟨w4.heap.size,11,none⟩=some (.slice (some ⟨pb,poff,none⟩) 1 pcap):=(by rw [cell_of_row _ _ _ _ _ _ rI];rfl);have e2:=hc7.cell (HC6.out.cell (HQ45.out.cell HE2.out (by simp)) (by simp)) (by simp);have e3:=hc7.cell (HC6.out.cell (HQ45.out.cell HE3.out (by simp)) (by simp)) (by simp);clear rI hc7 hso hq7)
  | (have t:=HA2;go_at_call 10;refine (Open_any (ints_newG (l:=[0]) rfl (by simp [maxLen]) (by simp [InK]) 1 rfl (by simp)) (by simp) (by simp)).mono ?_;rintro e w6 hP;unfold OpensP at hP;rw [N2.out] at hP;obtain ⟨hq6,ev2,rfl,hev⟩:=hP;obtain ⟨et2,eu2,rfl⟩:=id hev.held;unfold infoV cfg0;simp only;have HA3:=lh hev;have HC6:=lh (((Only.new _ _).q (Only.new _ _)).q hq6);have HC3:=lh (HC5.out.q HC6.out);clear hev hq6)
  | (have t:=HA1;go_at_call 10;refine (Open_any (l:=[]) (Ints.nil .u8 0 0 _) (Nat.zero_le _) (by simp)).mono ?_;rintro e w5 hP;unfold OpensP at hP;rw [N1.out] at hP;obtain ⟨hq5,ev1,rfl,hev⟩:=hP;obtain ⟨et1,eu1,rfl⟩:=id hev.held;unfold infoV cfg0;simp only;have HA2:=lh hev;have HC5:=lh ((HC4.out.q (Only.new _ _)).q hq5);have HQ45:=lh ((Only.new _ _).q hq5);have HR5:=lh (hq5.rowAt (heap_alloc_new w4 _) (by simp));clear hev hq5)
  | (go_at_call 10;refine (HOP.out _ (Only.refl _ _)).mono ?_;rintro e w4 hP;unfold OpensP at hP;rw [Ho.out] at hP;obtain ⟨hq4,pv,rfl,hoe⟩:=hP;obtain ⟨pa,pcap,hpv,_,_,hel⟩:=id hoe.open;subst hpv;obtain ⟨pb,poff,rfl,_,_,hc0,hc1,hc2,hc3⟩:=hel 0 (by simp);have HE2:Hid (w4.cell? ⟨pb,poff+2,none⟩=some (.int .i64 30)):=lh (by simpa using hc2);have HE3:Hid (w4.cell? ⟨pb,poff+3,none⟩=some (.int .i64 19)):=lh (by simpa using hc3);clear hc0 hc1 hc2 hc3 hel;unfold infoV;simp only;have HA1:=lh hoe;have HC4:=lh hq4;clear hoe hq4)
  | fail)
 go_ret
 exact ⟨rfl,HCW.out.q (HC7.out.q (HC8.out.q (HC9.out.q (HC10.out.q (HC11.out.q ((Only.new _ _).q hq12))))))⟩
end Go.Proofs.YtmdobcffijnaoaaGreatDoor
