/- Joined texts: DCells, DRac, DRacN. Conditions: each part names its own. -/
import Derived.Test.YtmdobcffijnaoaaGreatDoorT1
import Derived.Test.YtmdobcffijnaoaaGreatDoorC4
import Derived.Test.YtmdobcffijnaoaaGreatDoorK1
import Derived.Test.YtmdobcffijnaoaaGreatDoorC1
import Derived.StillTailTactics
import Derived.BigRegion
import Derived.Deep.RegionWith
import Derived.Laws.Bits64b
namespace Go.Proofs.YtmdobcffijnaoaaGreatDoor
open Go.RowKit
set_option linter.unusedVariables false
set_option linter.unusedSimpArgs false
set_option maxRecDepth 100000
set_option maxHeartbeats 16000000
theorem cells4 {w:World} {g:Nat} {v0 v1 v2 v3:Value} {t:TypeId} (h:w.heap[g]?=some (.cells #[v0,v1,v2,v3] t (0,0))) :
  w.cell? ⟨g,0,none⟩=some v0∧w.cell? ⟨g,1,none⟩=some v1∧w.cell? ⟨g,2,none⟩=some v2∧w.cell? ⟨g,3,none⟩=some v3:=by
 refine ⟨?_,?_,?_,?_⟩ <;> (rw [cell_of_row _ _ _ _ _ _ h];rfl)
/-- a range decoder in block D -/
structure DecAt (lo hi D:Nat) (w:World) (bv:Value) (d:Rac):Prop where
 row:w.heap[D]?=some (.cells #[bv,.int .i64 d.pos,.int .u64 d.off,.int .u64 d.r] 255 (0,0))
 bytes:Ints .u8 lo hi w bv d.b
 hD:hi≤D
theorem DecAt.lt {lo hi D:Nat} {w:World} {bv:Value} {d:Rac} (h:DecAt lo hi D w bv d):D<w.heap.size:=(Array.getElem?_eq_some_iff.1 h.row).1
theorem DecAt.only {lo hi D:Nat} {w w':World} {bv:Value} {d:Rac} {S:List Nat} (h:DecAt lo hi D w bv d) (o:Only S w w') (hS:∀ g∈S,hi≤g∧g≠D):DecAt lo hi D w' bv d :=
 ⟨o.rowAt h.row (fun hm=>(hS D hm).2 rfl),h.bytes.only o (fun g hg=>.inr (hS g hg).1),h.hD⟩
theorem DecAt.quiet {lo hi D:Nat} {w w':World} {bv:Value} {d:Rac} (h:DecAt lo hi D w bv d) (o:Only [] w w'):DecAt lo hi D w' bv d:=h.only o (by simp)
/-- the decoder's cells, one of them written -/
theorem DecAt.set1 {lo hi D:Nat} {w:World} {bv:Value} {d:Rac} (h:DecAt lo hi D w bv d) (p:Nat):DecAt lo hi D (w.setCell ⟨D,1,none⟩ (.int .i64 p)) bv { d with pos:=p }∧Only [D] w (w.setCell ⟨D,1,none⟩ (.int .i64 p)):=by
 have o:Only [D] w (w.setCell ⟨D,1,none⟩ (.int .i64 p)):=(Only.refl _ _).setCell (by simp) _
 exact ⟨⟨heap_setCell_same w D 1 _ _ _ h.row,h.bytes.only o (fun g hg=>by rw [mSg] at hg;subst hg;exact .inr h.hD),h.hD⟩,o⟩
theorem DecAt.set2 {lo hi D:Nat} {w:World} {bv:Value} {d:Rac} (h:DecAt lo hi D w bv d) (x:Int):DecAt lo hi D (w.setCell ⟨D,2,none⟩ (.int .u64 x)) bv { d with off:=x }∧Only [D] w (w.setCell ⟨D,2,none⟩ (.int .u64 x)):=by
 have o:Only [D] w (w.setCell ⟨D,2,none⟩ (.int .u64 x)):=(Only.refl _ _).setCell (by simp) _
 exact ⟨⟨heap_setCell_same w D 2 _ _ _ h.row,h.bytes.only o (fun g hg=>by rw [mSg] at hg;subst hg;exact .inr h.hD),h.hD⟩,o⟩
theorem DecAt.set3 {lo hi D:Nat} {w:World} {bv:Value} {d:Rac} (h:DecAt lo hi D w bv d) (x:Int):DecAt lo hi D (w.setCell ⟨D,3,none⟩ (.int .u64 x)) bv { d with r:=x }∧Only [D] w (w.setCell ⟨D,3,none⟩ (.int .u64 x)):=by
 have o:Only [D] w (w.setCell ⟨D,3,none⟩ (.int .u64 x)):=(Only.refl _ _).setCell (by simp) _
 exact ⟨⟨heap_setCell_same w D 3 _ _ _ h.row,h.bytes.only o (fun g hg=>by rw [mSg] at hg;subst hg;exact .inr h.hD),h.hD⟩,o⟩
theorem or_byte {a b:Int} (ha:0≤a) (ha2:a≤4294967296) (hb:0≤b) (hb2:b≤255):bits BinOp.or IntKind.u64 (a*256) b=a*256+b:=by
 obtain ⟨x,rfl⟩:=Int.eq_ofNat_of_zero_le ha
 obtain ⟨y,rfl⟩:=Int.eq_ofNat_of_zero_le hb
 have h:=bits_or_u64_nat (x*256) y (by omega) (by omega)
 rw [show ((x:Int)*256)=((x*256:Nat):Int) by omega,h]
 have hs:=Nat.shiftLeft_add_eq_or_of_lt (b:=y) (i:=8) (by omega) x
 rw [Nat.shiftLeft_eq] at hs
 rw [show (256:Nat)=2 ^ 8 from rfl,← hs]
 omega
theorem dnext_any {lo hi D:Nat} {bv:Value} {d:Rac} {w:World} (h:DecAt lo hi D w bv d) (hp:d.pos≤1000000000000) :
  Calls Tryz.prog 137 #[.pointer (some ⟨D,0,none⟩)] w fun e w'=>e=.returned (.int .u64 d.byte)∧DecAt lo hi D w' bv { d with pos:=d.pos+1 }∧Only [D] w w':=by
 refine hidQ fun Q HPost=>?_
 obtain ⟨pb,pp,po,pr⟩:=d
 have hrow:=h.row
 obtain ⟨ba,bcap,rfl,hbc,hbm,hbat,hbcell⟩:=h.bytes.open
 obtain ⟨c0,c1,c2,c3⟩:=cells4 hrow
 have cf:=frozen_of_row w D 1 _ _ hrow
 have HK:=lh h
 have hbl:(pb.length:Int)≤9223372036854775807:=by unfold maxLen at hbm;simp only at hbc;omega
 have hp0:(0:Int)≤(pp:Int):=by omega
 have hpi:(pp:Int)≤1000000000000:=by simp only at hp;omega
 simp only at c0 c1 c2 c3 hbat hbcell
 have hset:∀ W N1,Only [] w W→N1=((pp:Int)+1)→DecAt lo hi D (W.setCell ⟨D,1,none⟩ (.int .i64 N1)) (.slice ba pb.length bcap) ⟨pb,pp+1,po,pr⟩∧Only [D] w (W.setCell ⟨D,1,none⟩ (.int .i64 N1)):=by
  rintro W N1 o rfl
  obtain ⟨x,y⟩:=(h.quiet o).set1 (pp+1)
  exact ⟨x,(o.mono (U:=[D]) (by simp)).trans y (fun g h _=>h) (fun g h _=>h)⟩
 have HSet:=lh hset
 have hbyte:(⟨pb,pp,po,pr⟩:Rac).byte=pb.getD pp 0:=rfl
 rw [hbyte] at HPost
 clear h hrow hset hbyte hbm hbc
 by_cases hlt:pp<pb.length
 ·obtain ⟨b,off,rfl,_,_⟩:=hbat pp hlt
  have e1:=hbcell b off rfl pp hlt
  have hlti:(pp:Int)<(pb.length:Int):=by omega
  have h8:=HK.out.bytes.2 (pb.getD pp 0) (by simp [hlt])
  simp only [InK] at h8
  clear hbat hbcell
  generalize hx:pb.getD pp 0=x at *
  have Hx:=lh hx
  clear hx
  go_enter Tryz.func137,Tryz.ntmps137
  go_wp2_with fail
  go_quiet (fail)
  go_wp2_with fail
  go_quiet (fail)
  go_wp2_with fail
  exact HPost.out _ _ ⟨rfl,HSet.out _ _ ((Only.refl _ _).drewN _) rfl⟩
 ·have hlti:¬ (pp:Int)<(pb.length:Int):=by omega
  have hx0:pb.getD pp 0=0:=by rw [List.getD_eq_getElem?_getD,List.getElem?_eq_none (by omega)];rfl
  rw [hx0] at HPost
  clear hbat hbcell hx0
  go_enter Tryz.func137,Tryz.ntmps137
  go_wp2_with fail
  go_quiet (fail)
  go_wp2_with fail
  exact HPost.out _ _ ⟨rfl,HSet.out _ _ ((Only.refl _ _).drewN _) rfl⟩
theorem fix_done {k:Nat} {d:Rac} (h:¬ d.r<16777216):Rac.fix k d=d:=by
 cases k with
 | zero=>rfl
 | succ k=>exact if_neg h
theorem qDRac0 {p:Prop} (h:p:=by
 rw [← hd2] at HM
 have HPos:Hid (d2.pos=pp):=lh (by rw [hd2])
 have hpp:pp≤1000000000:=hp
 clear hd2 m1 m2 h ok
 go_enter Tryz.func252,Tryz.ntmps252
 go_wp2_with fail
 generalize hWg:World.setCell _ _ _=Wg
 rw [hWg] at HW
 have hp2:d2.pos≤1000000000:=by rw [HPos.out];exact hp
 clear hWg c0 c1 c2 c3 f2 f3
 go_loopw [37] (fun u wr=>∃ (k:Nat) (dc:Rac),k≤2∧Hid (DecAt lo hi D wr bv dc)∧RacMid k dc∧Hid (Rac.fix k dc=Rac.fix 2 d2)∧dc.pos+k≤d2.pos+2∧Only [D] w wr) (fun _ wr=>(4294967296-intOf ((wr.cell? ⟨D,3,none⟩).getD (.int .u64 0))).toNat)
 case atStart=>exact ⟨2,d2,by omega,lh HW.out.1,HM.out,lh rfl,by omega,HW.out.2⟩
 case round =>
  obtain ⟨k,dc,hk,Hk,hm,Hfix,hpos,hq⟩:=hrel
  obtain ⟨c0,c1,c2,c3⟩:=cells4 Hk.out.row
  have f2:=frozen_of_row wr D 2 _ _ Hk.out.row
  have f3:=frozen_of_row wr D 3 _ _ Hk.out.row
  have hr1:=hm.hi
  have hr0:=hm.r0
  have ho0:=hm.o0
  have ho1:=hm.o1
  have Hm:=lh hm
  have HQ:=lh hq
  obtain ⟨cb,cp,co,cr⟩:=dc
  simp only at c0 c1 c2 c3 hr1 hr0 ho0 ho1 hpos
  clear hm hq
  by_cases hlt:cr<16777216
  ·obtain ⟨k',rfl⟩:∃ k',k=k'+1:=by
    cases k with
    | zero=>have:=Hm.out.lo;simp at this;omega
    | succ k'=>exact ⟨k',rfl⟩
   have Hn:=lh (dnext_any (Hk.out.quiet (Only.refl [] wr).drew) (by simp only;omega))
   have hby:=Rac.byte_in Hm.out.r8
   go_wp2_with fail
   go_region_with (first
     | (go_at_call 137;refine Hn.out.mono ?_;rintro e w1 ⟨rfl,hk1,hq1⟩;have Hk1:=lh hk1;have Hq1:=lh hq1;obtain ⟨g0,g1,g2,g3⟩:=cells4 hk1.row;have gf2:=frozen_of_row w1 D 2 _ _ hk1.row;have gf3:=frozen_of_row w1 D 3 _ _ hk1.row;simp only at g0 g1 g2 g3;clear hk1 hq1)
     | fail)
   all_goals
    go_wp2_with fail
    rw [or_byte ho0 (by omega) hby.1 hby.2]
    obtain ⟨hk2,hq2⟩:=Hk1.out.set2 (co*256+(⟨cb,cp,co,cr⟩:Rac).byte)
    obtain ⟨hk3,hq3⟩:=hk2.set3 (cr*256)
    have hqA:Only [D] w _:=(HQ.out.trans (((Only.refl [] wr).drew.mono (U:=[D]) (by simp)).trans Hq1.out (fun g h _=>h) (fun g h _=>h)) (fun g h _=>h) (fun g h _=>h)).trans (hq2.trans hq3 (fun g h _=>h) (fun g h _=>h)) (fun g h _=>h) (fun g h _=>h)
    have Hk3:=lh hk3
    have HqA:=lh hqA
    clear hk2 hq2 hk3 hq3 hqA g0 g1 g2 g3 gf2 gf3 c0 c1 c2 c3 f2 f3
    generalize World.setCell (World.setCell _ _ _) _ _=W3 at *
    obtain ⟨c0,c1,c2,c3⟩:=cells4 Hk3.out.row
    have f2:=frozen_of_row W3 D 2 _ _ Hk3.out.row
    simp only at c0 c1 c2 c3
    go_region
    go_wp2_with fail
    have hmin:(if cr*256<co*256+(⟨cb,cp,co,cr⟩:Rac).byte then cr*256 else co*256+(⟨cb,cp,co,cr⟩:Rac).byte)=min (co*256+(⟨cb,cp,co,cr⟩:Rac).byte) (cr*256):=by split <;> omega
    rw [hmin]
    obtain ⟨hk4,hq4⟩:=Hk3.out.set2 (min (co*256+(⟨cb,cp,co,cr⟩:Rac).byte) (cr*256))
    have hk5:=hk4.quiet (Only.refl [] _).drew
    have e3:=(cells4 hk5.row).2.2.2
    refine ⟨⟨k',Rac.shift ⟨cb,cp,co,cr⟩,by omega,lh hk5,Hm.out.shift hlt,lh ?_,?_,(HqA.out.trans hq4 (fun g h _=>h) (fun g h _=>h)).drew⟩,?_⟩
    ·rw [← Hfix.out];exact (if_pos hlt).symm
    ·show cp+1+k'≤_;omega
    ·rw [e3,(cells4 Hk.out.row).2.2.2]
     simp only [intOf,Option.getD_some]
     omega
  ·have hlt':16777216≤cr:=by omega
   have hdone:Rac.fix 2 d2=⟨cb,cp,co,cr⟩:=by rw [← Hfix.out];exact fix_done hlt
   have HDone:=lh hdone
   clear hdone
   go_wp2_with fail
   refine HPost.out _ _ ?_
   rw [HN.out,HDone.out]
   exact ⟨rfl,Hk.out,HQ.out⟩):p:=h
theorem dnarrow_any {lo hi D:Nat} {bv:Value} {d:Rac} {x:Int} {w:World} (h:DecAt lo hi D w bv d) (ok:RacOk d) (h1:8192≤x) (h2:x≤d.r-8192) (hp:d.pos≤1000000000) :
  Calls Tryz.prog 252 #[.pointer (some ⟨D,0,none⟩),.int .u64 x] w fun e w'=>e=.returned (.bool (d.narrow x).1)∧DecAt lo hi D w' bv (d.narrow x).2∧Only [D] w w':=by
 refine hidQ fun Q HPost=>?_
 obtain ⟨m1,m2⟩:=narrow_mid ok h1 h2
 obtain ⟨c0,c1,c2,c3⟩:=cells4 h.row
 have f2:=frozen_of_row w D 2 _ _ h.row
 have f3:=frozen_of_row w D 3 _ _ h.row
 have HK:=lh h
 have o0:=ok.o0
 have o1:=ok.o1
 have r1:=ok.hi
 obtain ⟨pb,pp,po,pr⟩:=d
 simp only at c0 c1 c2 c3 o0 o1 r1 h2 m1 m2
 by_cases hx:x≤po
 ·obtain ⟨d2,hd2⟩:∃ d2:Rac,d2=⟨pb,pp,po-x,pr-x⟩:=⟨_,rfl⟩
  have HN:Hid ((⟨pb,pp,po,pr⟩:Rac).narrow x=(true,Rac.fix 2 d2)):=lh (by rw [hd2];exact if_pos hx)
  have HM:=lh (m1 hx)
  have HW:Hid (DecAt lo hi D ((w.setCell ⟨D,2,none⟩ (.int .u64 (po-x))).setCell ⟨D,3,none⟩ (.int .u64 (pr-x))) bv d2∧Only [D] w ((w.setCell ⟨D,2,none⟩ (.int .u64 (po-x))).setCell ⟨D,3,none⟩ (.int .u64 (pr-x)))):=lh (by
   obtain ⟨a,b⟩:=HK.out.set2 (po-x)
   obtain ⟨p,q⟩:=a.set3 (pr-x)
   exact ⟨by rw [hd2];exact p,b.trans q (fun g h _=>h) (fun g h _=>h)⟩)
  exact qDRac0
 ·obtain ⟨d2,hd2⟩:∃ d2:Rac,d2=⟨pb,pp,po,x⟩:=⟨_,rfl⟩
  have HN:Hid ((⟨pb,pp,po,pr⟩:Rac).narrow x=(false,Rac.fix 2 d2)):=lh (by rw [hd2];exact if_neg hx)
  have HM:=lh (m2 hx)
  have HW:Hid (DecAt lo hi D (w.setCell ⟨D,3,none⟩ (.int .u64 x)) bv d2∧Only [D] w (w.setCell ⟨D,3,none⟩ (.int .u64 x))):=lh (by
   obtain ⟨p,q⟩:=HK.out.set3 x
   exact ⟨by rw [hd2];exact p,q⟩)
  exact qDRac0
theorem chance_any (p:Int) (w:World) (h1:1≤p) (h2:p≤2047):Calls Tryz.prog 251 #[.int .i64 p] w fun e w'=>e=.returned (.bool true)∧w=w':=by
 go_enter Tryz.func251,Tryz.ntmps251
 go_wp2
 go_ret
 exact ⟨rfl,rfl⟩
theorem dcode_any {lo hi D:Nat} {bv:Value} {d:Rac} {p:Int} {w:World} (h:DecAt lo hi D w bv d) (ok:RacOk d) (h1:1≤p) (h2:p≤2047) (hp:d.pos≤1000000000) :
  Calls Tryz.prog 248 #[.pointer (some ⟨D,0,none⟩),.int .i64 p] w fun e w'=>e=.returned (.tuple #[.bool (d.narrow (d.r / 2048*p)).1,.nilIface])∧DecAt lo hi D w' bv (d.narrow (d.r / 2048*p)).2∧Only [D] w w':=by
 obtain ⟨w1,w2⟩:=chance_w ok.lo ok.hi h1 h2
 have H:=lh (dnarrow_any h ok w1 w2 hp)
 obtain ⟨c0,c1,c2,c3⟩:=cells4 h.row
 have r0:=ok.lo
 have r1:=ok.hi
 have hz:IntKind.u64.wrap (d.r / 2048*p)=d.r / 2048*p:=by rw [IntKind.wrap_u64];omega
 have hpw:IntKind.u64.wrap p=p:=by rw [IntKind.wrap_u64];omega
 clear h ok
 go_enter Tryz.func248,Tryz.ntmps248
 go_wp2_with fail
 go_at_call 251
 refine (chance_any _ _ h1 h2).mono ?_
 rintro e w1 ⟨rfl,rfl⟩
 go_wp2_with fail
 go_at_call 252
 refine H.out.mono ?_
 rintro e w1 ⟨rfl,hk,hq⟩
 go_wp2_with fail
 go_ret2
 exact ⟨rfl,hk,hq⟩
theorem dflat_any {lo hi D:Nat} {bv:Value} {d:Rac} {w:World} (h:DecAt lo hi D w bv d) (ok:RacOk d) (hp:d.pos≤1000000000) :
  Calls Tryz.prog 250 #[.pointer (some ⟨D,0,none⟩)] w fun e w'=>e=.returned (.bool (d.narrow (d.r / 2)).1)∧DecAt lo hi D w' bv (d.narrow (d.r / 2)).2∧Only [D] w w':=by
 have r0:=ok.lo
 have r1:=ok.hi
 have H:=lh (dnarrow_any h ok (x:=d.r / 2) (by omega) (by omega) hp)
 obtain ⟨c0,c1,c2,c3⟩:=cells4 h.row
 clear h ok
 go_enter Tryz.func250,Tryz.ntmps250
 go_wp2_with fail
 go_at_call 252
 refine H.out.mono ?_
 rintro e w1 ⟨rfl,hk,hq⟩
 go_wp2_with fail
 go_ret
 exact ⟨rfl,hk,hq⟩
def offN (b:List Int):Nat→Int
 | 0=>0
 | i+1=>offN b i*256+b.getD i 0
theorem offN_in {b:List Int} (h:∀ x∈b,InK .u8 x):∀ i,0≤offN b i∧offN b i+1≤256 ^ i
 | 0=>by simp [offN]
 | i+1=>by
  obtain ⟨x,y⟩:=offN_in h i
  have hb:=Rac.byte_in (d:=⟨b,i,0,0⟩) h
  simp only [Rac.byte] at hb
  unfold offN
  rw [Int.pow_succ]
  generalize (256:Int) ^ i=q at *
  omega
theorem offN_small {b:List Int} (h:∀ x∈b,InK .u8 x) {i:Nat} (hi:i<4):offN b i≤16777215:=by
 have hx:=(offN_in h i).2
 have:i=0∨i=1∨i=2∨i=3:=by omega
 rcases this with rfl | rfl | rfl | rfl <;> simp at hx <;> omega
theorem racNew_off (b:List Int):racNew b=⟨b,4,offN b 4,4294967295⟩:=by simp [racNew,offN]
theorem dnew_any {lo hi:Nat} {v:Value} {l:List Int} {w:World} (h:Ints .u8 lo hi w v l) (hl:l.length≤100000000) :
  Calls Tryz.prog 95 #[v] w fun e w'=>∃ D bv hi',e=.returned (.pointer (some ⟨D,0,none⟩))∧DecAt w.heap.size hi' D w' bv (racNew l)∧Only [] w w'∧w.heap.size≤hi'∧hi'≤D:=by
 refine hidQ fun Q HPost=>?_
 have Hr:=lh h.2
 have Hl:=lh hl
 obtain ⟨a,cap,hv,_⟩:=h.open
 subst hv
 have Hh:=lh h
 have Hc1:=lh (show (([]:List Int).length+l.length)*1≤140737488355328 by simp;omega)
 have Hc2:=lh (show w.heap.size≤(w.alloc (.cells #[] 5)).heap.size by simp)
 clear h hl
 go_enter Tryz.func95,Tryz.ntmps95
 go_wp2_with (first
  | (at_builtin;refine wpList_append_ints rfl (.tmp 4) (.tmp 5) _ rfl E8 (own_new (l:=[]) rfl (by simp) (by simp) 0 rfl) rfl (Hh.out.quiet ((Only.refl _ _).alloc _)) rfl Hc1.out Hc2.out (fun v1 w1 hown1 ho1=>?_);obtain ⟨x1,x1cap,hx1,_⟩:=hown1.ints.open;subst hx1;simp only [List.nil_append] at hown1 ho1 ⊢;have HOwn:=lh hown1;have HAcc:=lh ho1;clear hown1 ho1)
  | fail)
 have hqw:Only [] w w1:=((Only.refl _ _).alloc _).acc HAcc.out (From.lit (Nat.le_refl _))
 have hqn:=Only.new w1 (.cells #[.slice x1 l.length x1cap,.int .i64 0,.int .u64 0,.int .u64 4294967295] 255)
 have hD0:DecAt w.heap.size w1.heap.size w1.heap.size (w1.alloc (.cells #[.slice x1 l.length x1cap,.int .i64 0,.int .u64 0,.int .u64 4294967295] 255)) (.slice x1 l.length x1cap) ⟨l,0,offN l 0,4294967295⟩ :=
  ⟨heap_alloc_new _ _,by have:=HOwn.out.ints.quiet hqn;simpa using this,Nat.le_refl _⟩
 have HD0:=lh hD0
 have HQ0:=lh (hqw.q hqn)
 have hz1:=hqw.size
 clear hqw hqn hD0
 generalize World.alloc w1 _=W2 at *
 generalize w1.heap.size=D at *
 go_loopw [9] (fun i wr=>∃ k:Nat,k≤4∧i=.int .i64 k∧DecAt w.heap.size D D wr (.slice x1 l.length x1cap) ⟨l,k,offN l k,4294967295⟩∧Only [D] W2 wr) (fun i _=>4-(intOf i).toNat)
 case atStart=>exact ⟨0,by omega,rfl,HD0.out,Only.refl _ _⟩
 case round =>
  obtain ⟨k,hk,rfl,hd,hq⟩:=hrel
  by_cases hlt:k<4
  ·obtain ⟨c0,c1,c2,c3⟩:=cells4 hd.row
   have f2:=frozen_of_row wr D 2 _ _ hd.row
   simp only at c0 c1 c2 c3
   have hlti:(k:Int)<4:=by omega
   have hx:(0:Int)≤(k:Int):=by omega
   have ho0:=(offN_in Hr.out k).1
   have ho1:=offN_small Hr.out hlt
   have hby:=Rac.byte_in (d:=⟨l,k,offN l k,4294967295⟩) Hr.out
   have HO:=lh (And.intro ho0 ho1)
   have Hn:=lh (dnext_any (hd.quiet (Only.refl [] wr).drew) (by simp only;omega))
   have HQ:=lh hq
   have HD:=lh hd
   have hon:offN l k*256+(⟨l,k,offN l k,4294967295⟩:Rac).byte=offN l (k+1):=rfl
   have Hon:=lh hon
   clear hd hq hon
   generalize hof:offN l k=of at *
   have Hof:=lh hof
   clear hof
   go_wp2_with fail
   go_region_with (first
    | (go_at_call 137;refine Hn.out.mono ?_;rintro e w3 ⟨rfl,hk1,hq1⟩;have Hk1:=lh hk1;have Hq1:=lh hq1;obtain ⟨g0,g1,g2,g3⟩:=cells4 hk1.row;have gf2:=frozen_of_row w3 D 2 _ _ hk1.row;simp only at g0 g1 g2 g3;clear hk1 hq1)
    | fail)
   all_goals
    go_wp2_with fail
    rw [or_byte ho0 (by omega) hby.1 hby.2]
    obtain ⟨hk2,hq2⟩:=Hk1.out.set2 (of*256+(⟨l,k,of,4294967295⟩:Rac).byte)
    refine ⟨⟨k+1,by omega,by go_num,?_,(HQ.out.trans (((Only.refl [] wr).drew.mono (U:=[D]) (by simp)).trans Hq1.out (fun g h _=>h) (fun g h _=>h)) (fun g h _=>h) (fun g h _=>h)).trans hq2 (fun g h _=>h) (fun g h _=>h)⟩,by simp [intOf];omega⟩
    rw [← Hon.out]
    exact hk2
  ·obtain rfl:k=4:=by omega
   have HQ:=lh hq
   have HD:=lh hd
   clear hd hq
   go_wp2_with fail
   refine HPost.out _ _ ⟨D,.slice x1 l.length x1cap,D,rfl,?_,?_,hz1,Nat.le_refl _⟩
   ·rw [racNew_off];exact HD.out
   ·exact HQ0.out.trans HQ.out (by simp) (fun g hg hlt=>by rw [mSg] at hg;omega)
end Go.Proofs.YtmdobcffijnaoaaGreatDoor
