/- Joined texts: Next, Rd, RdN, RdP, OwnC, RdF, RdG. Conditions: each part names its own. -/
import Derived.Test.YtmdobcffijnaoaaGreatDoorC3
import Derived.Test.YtmdobcffijnaoaaGreatDoorC4
import Derived.Test.YtmdobcffijnaoaaGreatDoorC1
namespace Go.Proofs.YtmdobcffijnaoaaGreatDoor
open Go.RowKit
set_option linter.unusedVariables false
set_option linter.unusedSimpArgs false
set_option maxRecDepth 100000
set_option maxHeartbeats 16000000
def sUnit:ByteArray:=⟨#[117,110,105,116]⟩
structure UnitD where
 kind:Int
 data:List Int
 at_:Nat
 end_:Nat
 deriving DecidableEq,Inhabited
/-- how many bytes the unit's head says -/
def lenU (d:List Int):Int:=d.getD 1 0*65536+d.getD 2 0*256+d.getD 3 0
def sumU (d:List Int) (n:Nat):Int:=d.getD (4+n) 0*16777216+d.getD (5+n) 0*65536+d.getD (6+n) 0*256+d.getD (7+n) 0
def nextD (d:List Int) (at_:Nat):Except Err UnitD :=
 if d.getD 0 0=0 then .ok ⟨0,[],at_,at_+1⟩
 else if d.length<4 then .error ⟨[(sUnit,at_)],1⟩
 else if 65536<lenU d then .error ⟨[(sUnit,at_)],5⟩
 else if (d.length:Int)-8<lenU d then .error ⟨[(sUnit,at_)],1⟩
 else if (crc (d.take (4+(lenU d).toNat)):Int)≠sumU d (lenU d).toNat then .error ⟨[(sUnit,at_)],4⟩
 else .ok ⟨d.getD 0 0,(d.drop 4).take (lenU d).toNat,at_,at_+(8+(lenU d).toNat)⟩
def NextP (w:World) (r:Except Err UnitD) (e:Ending) (w':World):Prop :=
 Only [] w w'∧match r with
  | .ok u=>∃ dv,e=.returned (.tuple #[.agg #[.int .i64 u.kind,dv,.int .i64 u.at_,.int .i64 u.end_],.nilIface])∧Ints .u8 w.heap.size w'.heap.size w' dv u.data
  | .error er=>∃ ev,e=.returned (.tuple #[.agg #[.int .i64 0,.slice none 0 0,.int .i64 0,.int .i64 0],ev])∧ErrV w.heap.size w'.heap.size w' ev er
theorem next1_any (c:Int) (p:Addr) (n:Int) (w:World) (h:w.cell? p=some (.int .i64 n)) :
  Calls Tryz.prog 172 #[.int .i64 c,.pointer (some p)] w fun e w'=>∃ ev,e=.returned (.tuple #[.agg #[.int .i64 0,.slice none 0 0,.int .i64 0,.int .i64 0],ev])∧ErrV w.heap.size w'.heap.size w' ev ⟨[(sUnit,n)],c⟩∧Only [] w w':=by
 have h2:=fun o=>(Only.new w o).cell h (by simp)
 have hh:=lh h
 clear h
 go_enter Tryz.func172,Tryz.ntmps172
 go_wp2_with (first | (go_at_call 26;refine (inc_any _ _ _ _).mono ?_;rintro e w1 ⟨ev,rfl,hev,hq⟩;obtain ⟨et,eu,rfl⟩:=hev.held;have hr:=(hq.block w.heap.size (by simp) (by simp)).trans (heap_alloc_new _ _);have z0:=frozen_of_row w1 w.heap.size 0 _ _ hr;have z1:=frozen_of_row w1 w.heap.size 1 _ _ hr;have z2:=frozen_of_row w1 w.heap.size 2 _ _ hr;have z3:=frozen_of_row w1 w.heap.size 3 _ _ hr;have m0:w1.cell? ⟨w.heap.size,0,none⟩=some (.int .i64 0):=(by rw [cell_of_row _ _ _ _ _ _ hr];rfl);have m1:w1.cell? ⟨w.heap.size,1,none⟩=some (.slice none 0 0):=(by rw [cell_of_row _ _ _ _ _ _ hr];rfl);have m2:w1.cell? ⟨w.heap.size,2,none⟩=some (.int .i64 0):=(by rw [cell_of_row _ _ _ _ _ _ hr];rfl);have m3:w1.cell? ⟨w.heap.size,3,none⟩=some (.int .i64 0):=(by rw [cell_of_row _ _ _ _ _ _ hr];rfl)) | fail)
 refine bodyPost_ret (v:=.tuple #[.agg #[.int .i64 0,.slice none 0 0,.int .i64 0,.int .i64 0],.iface et eu]) (by simp [results,Tryz.results172,go_sem,m0,m1,m2,m3,World.cell?_setCell_other]) rfl ?_
 have hA:Only [] w w1:=(Only.new _ _).q hq
 have hS:∀ u0 u1 u2 u3,Only [w.heap.size] w1 ((((w1.setCell ⟨w.heap.size,0,none⟩ u0).setCell ⟨w.heap.size,1,none⟩ u1).setCell ⟨w.heap.size,2,none⟩ u2).setCell ⟨w.heap.size,3,none⟩ u3):=fun _ _ _ _=>((((Only.refl _ _).setCell (by simp) _).setCell (by simp) _).setCell (by simp) _).setCell (by simp) _
 refine ⟨_,rfl,(ErrV.only hev (hS _ _ _ _) (by simp)).mono (by simp) (hS _ _ _ _).size,hA.trans (hS _ _ _ _) (by simp) (by simp)⟩
theorem getD_drop {l:List Int} {a i:Nat}:(l.drop a).getD i 0=l.getD (a+i) 0:=by simp [List.getD_eq_getElem?_getD]
theorem NextP.bad {w w':World} {r:Except Err UnitD} {er:Err} {e:Ending} {ev:Value} (hr:r=.error er) (o:Only [] w w') (he:e=.returned (.tuple #[.agg #[.int .i64 0,.slice none 0 0,.int .i64 0,.int .i64 0],ev])) (h:ErrV w.heap.size w'.heap.size w' ev er):NextP w r e w':=by
 unfold NextP;rw [hr];exact ⟨o,ev,he,h⟩
theorem i64_or16 {x y:Int} (h0:0≤x) (h1:x<256) (h2:0≤y) (h3:y<256):bits .or .i64 (x*65536) (y*256)=x*65536+y*256 :=
 bits_join .i64 63 (by decide) wraps_i64 16 (x*65536) (y*256) (by omega) (by omega) (by omega) (by omega) (by omega) (by omega)
theorem i64_or24 {x y z:Int} (h0:0≤x) (h1:x<256) (h2:0≤y) (h3:y<256) (h4:0≤z) (h5:z<256):bits .or .i64 (x*65536+y*256) z=x*65536+y*256+z :=
 bits_join .i64 63 (by decide) wraps_i64 8 (x*65536+y*256) z (by omega) (by omega) (by omega) (by omega) (by omega) (by omega)
theorem wraps_u32 (n:Int) (h₀:0≤n) (h₁:n<2 ^ 32):IntKind.u32.wrap n=n:=by simp [IntKind.wrap,IntKind.bits,IntKind.signed];omega
theorem u32_j1 {x y:Int} (h0:0≤x) (h1:x<256) (h2:0≤y) (h3:y<256):bits .or .u32 (x*16777216) (y*65536)=x*16777216+y*65536 :=
 bits_join .u32 32 (by decide) wraps_u32 24 _ _ (by omega) (by omega) (by omega) (by omega) (by omega) (by omega)
theorem u32_j2 {x y z:Int} (h0:0≤x) (h1:x<256) (h2:0≤y) (h3:y<256) (h4:0≤z) (h5:z<256):bits .or .u32 (x*16777216+y*65536) (z*256)=x*16777216+y*65536+z*256 :=
 bits_join .u32 32 (by decide) wraps_u32 16 _ _ (by omega) (by omega) (by omega) (by omega) (by omega) (by omega)
theorem u32_j3 {x y z t:Int} (h0:0≤x) (h1:x<256) (h2:0≤y) (h3:y<256) (h4:0≤z) (h5:z<256) (h6:0≤t) (h7:t<256):bits .or .u32 (x*16777216+y*65536+z*256) t=x*16777216+y*65536+z*256+t :=
 bits_join .u32 32 (by decide) wraps_u32 8 _ _ (by omega) (by omega) (by omega) (by omega) (by omega) (by omega)
theorem qNext0 {p:Prop} (h:p:=by
 clear hr
 go_enter Tryz.func135,Tryz.ntmps135
 go_wp2_with fail
 go_quiet (fail)
 generalize hW3:World.drewN _ _=W3
 have hqD:Only [] ((w.alloc (.cells #[.int .i64 p] 3)).alloc (.cells #[.int .i64 0,.slice none 0 0,.int .i64 0,.int .i64 0] 119)) W3:=by rw [← hW3];exact (Only.refl _ _).drewN _
 have cP3:=hqD.cell cP (by simp)
 have n03:=hqD.cell n0 (by simp)
 have n13:=hqD.cell n1 (by simp)
 have n23:=hqD.cell n2 (by simp)
 have n33:=hqD.cell n3 (by simp)
 have z03:=(hqD.frozen hzN (by simp)).trans z0
 have z13:=(hqD.frozen hzN (by simp)).trans z1
 have z23:=(hqD.frozen hzN (by simp)).trans z2
 have z33:=(hqD.frozen hzN (by simp)).trans z3
 have hzN3:w.heap.size+1<W3.heap.size:=by have:=hqD.size;omega
 have cb03:=hqD.cell cb (by simp)
 have hqE:=HO.out.q hqD
 clear hW3 cP n0 n1 n2 n3 z0 z1 z2 z3 cb cb1 cb2 cb3
 go_wp2_with (first | (go_at_call 172;refine (next1_any _ _ p _ cP3).mono ?_;rintro e w3 ⟨ev,rfl,hev,hq3⟩;obtain ⟨et,eu,rfl⟩:=hev.held;have m0:=hq3.cell n03 (by simp);have m1:=hq3.cell n13 (by simp);have m2:=hq3.cell n23 (by simp);have m3:=hq3.cell n33 (by simp);have k0:=(hq3.frozen hzN3 (by simp)).trans z03;have k1:=(hq3.frozen hzN3 (by simp)).trans z13;have k2:=(hq3.frozen hzN3 (by simp)).trans z23;have k3:=(hq3.frozen hzN3 (by simp)).trans z33) | fail)
 refine bodyPost_ret (v:=.tuple #[.agg #[.int .i64 0,.slice none 0 0,.int .i64 0,.int .i64 0],.iface et eu]) (by simp [results,Tryz.results135,go_sem,m0,m1,m2,m3,World.cell?_setCell_other]) rfl ?_
 have hS:∀ u0 u1 u2 u3,Only [w.heap.size+1] w3 ((((w3.setCell ⟨w.heap.size+1,0,none⟩ u0).setCell ⟨w.heap.size+1,1,none⟩ u1).setCell ⟨w.heap.size+1,2,none⟩ u2).setCell ⟨w.heap.size+1,3,none⟩ u3):=fun _ _ _ _=>((((Only.refl _ _).setCell (by simp) _).setCell (by simp) _).setCell (by simp) _).setCell (by simp) _
 exact NextP.bad Hr.out ((hqE.q hq3).trans (hS _ _ _ _) (by simp) (by simp)) rfl ((ErrV.only hev (hS _ _ _ _) (by simp;omega)).mono hqE.size (hS _ _ _ _).size)):p:=h
theorem next_any {lo hi:Nat} {v:Value} {l:List Int} (p:Nat) {w:World} (h:Ints .u8 lo hi w v l) (hp:p<l.length) :
  Calls Tryz.prog 135 #[v,.int .i64 p] w (NextP w (nextD (l.drop p) p)):=by
 have hlen:=h.1.len_le
 unfold maxLen at hlen
 obtain ⟨a,cap,rfl,hcap,hmax,hat,hcell⟩:=h.open
 obtain ⟨b,off,rfl,hb1,hb2⟩:=hat 0 (by omega)
 have Hh:=lh h
 have Hcell:=lh (hcell b off rfl)
 have hpi:(p:Int)<(l.length:Int):=by omega
 have hp0:(0:Int)≤(p:Int):=by omega
 have hbw:b<w.heap.size:=block_lt_of_cell (hcell b off rfl 0 (by omega))
 clear hat hcell h hmax
 have c0:=Hcell.out p hp
 have hO:Only [] w ((w.alloc (.cells #[.int .i64 p] 3)).alloc (.cells #[.int .i64 0,.slice none 0 0,.int .i64 0,.int .i64 0] 119)):=(Only.new _ _).q (Only.new _ _)
 have rB:((w.alloc (.cells #[.int .i64 p] 3)).alloc (.cells #[.int .i64 0,.slice none 0 0,.int .i64 0,.int .i64 0] 119)).heap[w.heap.size+1]?=some (.cells #[.int .i64 0,.slice none 0 0,.int .i64 0,.int .i64 0] 119 (0,0)):=heap_alloc_new' (by simp)
 have rA:((w.alloc (.cells #[.int .i64 p] 3)).alloc (.cells #[.int .i64 0,.slice none 0 0,.int .i64 0,.int .i64 0] 119)).heap[w.heap.size]?=some (.cells #[.int .i64 p] 3 (0,0)):=(Below.heap_alloc _ _ _ (by simp)).trans (heap_alloc_new _ _)
 have cP:((w.alloc (.cells #[.int .i64 p] 3)).alloc (.cells #[.int .i64 0,.slice none 0 0,.int .i64 0,.int .i64 0] 119)).cell? ⟨w.heap.size,0,none⟩=some (.int .i64 p):=by rw [cell_of_row _ _ _ _ _ _ rA];rfl
 have n0:((w.alloc (.cells #[.int .i64 p] 3)).alloc (.cells #[.int .i64 0,.slice none 0 0,.int .i64 0,.int .i64 0] 119)).cell? ⟨w.heap.size+1,0,none⟩=some (.int .i64 0):=by rw [cell_of_row _ _ _ _ _ _ rB];rfl
 have n1:((w.alloc (.cells #[.int .i64 p] 3)).alloc (.cells #[.int .i64 0,.slice none 0 0,.int .i64 0,.int .i64 0] 119)).cell? ⟨w.heap.size+1,1,none⟩=some (.slice none 0 0):=by rw [cell_of_row _ _ _ _ _ _ rB];rfl
 have n2:((w.alloc (.cells #[.int .i64 p] 3)).alloc (.cells #[.int .i64 0,.slice none 0 0,.int .i64 0,.int .i64 0] 119)).cell? ⟨w.heap.size+1,2,none⟩=some (.int .i64 0):=by rw [cell_of_row _ _ _ _ _ _ rB];rfl
 have n3:((w.alloc (.cells #[.int .i64 p] 3)).alloc (.cells #[.int .i64 0,.slice none 0 0,.int .i64 0,.int .i64 0] 119)).cell? ⟨w.heap.size+1,3,none⟩=some (.int .i64 0):=by rw [cell_of_row _ _ _ _ _ _ rB];rfl
 have z0:=frozen_of_row ((w.alloc (.cells #[.int .i64 p] 3)).alloc (.cells #[.int .i64 0,.slice none 0 0,.int .i64 0,.int .i64 0] 119)) (w.heap.size+1) 0 _ _ rB
 have z1:=frozen_of_row ((w.alloc (.cells #[.int .i64 p] 3)).alloc (.cells #[.int .i64 0,.slice none 0 0,.int .i64 0,.int .i64 0] 119)) (w.heap.size+1) 1 _ _ rB
 have z2:=frozen_of_row ((w.alloc (.cells #[.int .i64 p] 3)).alloc (.cells #[.int .i64 0,.slice none 0 0,.int .i64 0,.int .i64 0] 119)) (w.heap.size+1) 2 _ _ rB
 have z3:=frozen_of_row ((w.alloc (.cells #[.int .i64 p] 3)).alloc (.cells #[.int .i64 0,.slice none 0 0,.int .i64 0,.int .i64 0] 119)) (w.heap.size+1) 3 _ _ rB
 have hzW:((w.alloc (.cells #[.int .i64 p] 3)).alloc (.cells #[.int .i64 0,.slice none 0 0,.int .i64 0,.int .i64 0] 119)).heap.size=w.heap.size+2:=by simp
 have hzN:w.heap.size+1<((w.alloc (.cells #[.int .i64 p] 3)).alloc (.cells #[.int .i64 0,.slice none 0 0,.int .i64 0,.int .i64 0] 119)).heap.size:=by omega
 have HO:=lh hO
 have cb:=hO.cell c0 (by simp)
 have hpc:p<cap:=by omega
 have hcz:¬ cap-p=0:=by omega
 have hpl:p≤l.length:=by omega
 have hlp:((l.length-p:Nat):Int)=(l.length:Int)-p:=by omega
 have hdl:(l.drop p).length=l.length-p:=List.length_drop
 clear c0 rA rB hO
 by_cases hz:l.getD p 0=0
 ·have hr:nextD (l.drop p) p=.ok ⟨0,[],p,p+1⟩:=by
   unfold nextD
   rw [if_pos (by rw [getD_drop];simpa using hz)]
  have Hr:=lh hr
  clear hr hlp hdl
  rw [hz] at cb
  go_enter Tryz.func135,Tryz.ntmps135
  go_wp2_with fail
  refine bodyPost_ret (v:=.tuple #[.agg #[.int .i64 0,.slice none 0 0,.int .i64 p,.int .i64 (p+1)],.nilIface]) (by simp [results,Tryz.results135,go_sem]) rfl ?_
  unfold NextP
  rw [Hr.out]
  exact ⟨(Only.new _ _).q (Only.new _ _),_,rfl,Ints.nil _ _ _ _⟩
 ·have hzb:(l.getD p 0 == 0)=false:=by simpa using hz
  have hzd:¬ (l.drop p).getD 0 0=0:=by rw [getD_drop];simpa using hz
  by_cases h4:l.length-p<4
  ·have hr:nextD (l.drop p) p=.error ⟨[(sUnit,p)],1⟩:=by
    unfold nextD
    rw [if_neg hzd,if_pos (by rw [hdl];exact h4)]
   have h4i:(l.length:Int)-p<4:=by omega
   have Hr:=lh hr
   clear hr hdl hzd
   generalize l.getD p 0=x0 at *
   have Hz:=lh hz
   clear hz
   go_enter Tryz.func135,Tryz.ntmps135
   go_wp2_with (first | (go_at_call 172;refine (next1_any _ _ p _ cP).mono ?_;rintro e w3 ⟨ev,rfl,hev,hq3⟩;obtain ⟨et,eu,rfl⟩:=hev.held;have m0:=hq3.cell n0 (by simp);have m1:=hq3.cell n1 (by simp);have m2:=hq3.cell n2 (by simp);have m3:=hq3.cell n3 (by simp);have k0:=(hq3.frozen hzN (by simp)).trans z0;have k1:=(hq3.frozen hzN (by simp)).trans z1;have k2:=(hq3.frozen hzN (by simp)).trans z2;have k3:=(hq3.frozen hzN (by simp)).trans z3) | fail)
   refine bodyPost_ret (v:=.tuple #[.agg #[.int .i64 0,.slice none 0 0,.int .i64 0,.int .i64 0],.iface et eu]) (by simp [results,Tryz.results135,go_sem,m0,m1,m2,m3,World.cell?_setCell_other]) rfl ?_
   have hS:∀ u0 u1 u2 u3,Only [w.heap.size+1] w3 ((((w3.setCell ⟨w.heap.size+1,0,none⟩ u0).setCell ⟨w.heap.size+1,1,none⟩ u1).setCell ⟨w.heap.size+1,2,none⟩ u2).setCell ⟨w.heap.size+1,3,none⟩ u3):=fun _ _ _ _=>((((Only.refl _ _).setCell (by simp) _).setCell (by simp) _).setCell (by simp) _).setCell (by simp) _
   exact NextP.bad Hr.out ((HO.out.q hq3).trans (hS _ _ _ _) (by simp) (by simp)) rfl ((ErrV.only hev (hS _ _ _ _) (by simp)).mono (by simp;omega) (hS _ _ _ _).size)
  ·have h4i:¬ (l.length:Int)-p<4:=by omega
   have cb1:((w.alloc (.cells #[.int .i64 p] 3)).alloc (.cells #[.int .i64 0,.slice none 0 0,.int .i64 0,.int .i64 0] 119)).cell? ⟨b,off+p+1,none⟩=some (.int .u8 (l.getD (p+1) 0)):=by rw [Nat.add_assoc];exact HO.out.cell (Hcell.out (p+1) (by omega)) (by simp)
   have cb2:((w.alloc (.cells #[.int .i64 p] 3)).alloc (.cells #[.int .i64 0,.slice none 0 0,.int .i64 0,.int .i64 0] 119)).cell? ⟨b,off+p+2,none⟩=some (.int .u8 (l.getD (p+2) 0)):=by rw [Nat.add_assoc];exact HO.out.cell (Hcell.out (p+2) (by omega)) (by simp)
   have cb3:((w.alloc (.cells #[.int .i64 p] 3)).alloc (.cells #[.int .i64 0,.slice none 0 0,.int .i64 0,.int .i64 0] 119)).cell? ⟨b,off+p+3,none⟩=some (.int .u8 (l.getD (p+3) 0)):=by rw [Nat.add_assoc];exact HO.out.cell (Hcell.out (p+3) (by omega)) (by simp)
   have hx0:=Hh.out.range (i:=p) (by omega)
   have hx1:=Hh.out.range (i:=p+1) (by omega)
   have hx2:=Hh.out.range (i:=p+2) (by omega)
   have hx3:=Hh.out.range (i:=p+3) (by omega)
   have hN:lenU (l.drop p)=l.getD (p+1) 0*65536+l.getD (p+2) 0*256+l.getD (p+3) 0:=by simp only [lenU,getD_drop]
   have hK:(l.drop p).getD 0 0=l.getD p 0:=by rw [getD_drop,Nat.add_zero]
   have hd4:¬ (l.drop p).length<4:=by rw [hdl];exact h4
   generalize l.getD p 0=x0 at *
   generalize l.getD (p+1) 0=x1 at *
   generalize l.getD (p+2) 0=x2 at *
   generalize l.getD (p+3) 0=x3 at *
   unfold InK at hx0 hx1 hx2 hx3
   have hor1:=i64_or16 hx1.1 (by omega:x1<256) hx2.1 (by omega:x2<256)
   have hor2:=i64_or24 hx1.1 (by omega:x1<256) hx2.1 (by omega:x2<256) hx3.1 (by omega:x3<256)
   obtain ⟨N,hNN⟩:=Int.eq_ofNat_of_zero_le (by omega:0≤x1*65536+x2*256+x3)
   have hNb:N≤16777215:=by omega
   rw [hNN] at hor2 hN
   have hw1:IntKind.i64.wrap x1=x1:=wraps_i64 _ hx1.1 (by omega)
   have hw2:IntKind.i64.wrap x2=x2:=wraps_i64 _ hx2.1 (by omega)
   have hw3:IntKind.i64.wrap x3=x3:=wraps_i64 _ hx3.1 (by omega)
   have HN:=lh hN
   have Hdl:=lh hdl
   have Hz:=lh hz
   have Hzd:=lh hzd
   have HK:=lh hK
   have Hd4:=lh hd4
   clear hN hNN hdl hz hzd hK hd4
   by_cases h5:65536<N
   ·have hr:nextD (l.drop p) p=.error ⟨[(sUnit,p)],5⟩:=by
     unfold nextD
     rw [if_neg Hzd.out,if_neg Hd4.out,if_pos (by rw [HN.out];omega)]
    have Hr:=lh hr
    have h5i:(65536:Int)<(N:Int):=by omega
    exact qNext0
   ·have h5i:¬ (65536:Int)<(N:Int):=by omega
    by_cases h8:(l.length:Int)-p-8<N
    ·have hr:nextD (l.drop p) p=.error ⟨[(sUnit,p)],1⟩:=by
      unfold nextD
      rw [if_neg Hzd.out,if_neg Hd4.out,if_neg (by rw [HN.out];omega),if_pos (by rw [HN.out,Hdl.out];omega)]
     have Hr:=lh hr
     exact qNext0
    ·have hcapN:p+(8+N)≤l.length:=by omega
     have hsub1:=Hh.out.sub (i:=p) (j:=p+(4+N)) (by omega) (by omega) (cap-p) (by omega) (by omega)
     rw [show p+(4+N)-p=4+N by omega,show (l.take (p+(4+N))).drop p=(l.drop p).take (4+N) by rw [List.drop_take];congr 1;omega] at hsub1
     have hsub2:=Hh.out.sub (i:=p+4) (j:=p+(4+N)) (by omega) (by omega) (cap-p-4) (by omega) (by omega)
     rw [show p+(4+N)-(p+4)=N by omega,show (l.take (p+(4+N))).drop (p+4)=((l.drop p).drop 4).take N by rw [List.drop_take,List.drop_drop];congr 1;omega] at hsub2
     have ce0:((w.alloc (.cells #[.int .i64 p] 3)).alloc (.cells #[.int .i64 0,.slice none 0 0,.int .i64 0,.int .i64 0] 119)).cell? ⟨b,off+p+(4+N),none⟩=some (.int .u8 (l.getD (p+(4+N)) 0)):=by rw [Nat.add_assoc];exact HO.out.cell (Hcell.out (p+(4+N)) (by omega)) (by simp)
     have ce1:((w.alloc (.cells #[.int .i64 p] 3)).alloc (.cells #[.int .i64 0,.slice none 0 0,.int .i64 0,.int .i64 0] 119)).cell? ⟨b,off+p+(4+N)+1,none⟩=some (.int .u8 (l.getD (p+(5+N)) 0)):=by rw [show off+p+(4+N)+1=off+(p+(5+N)) by omega];exact HO.out.cell (Hcell.out (p+(5+N)) (by omega)) (by simp)
     have ce2:((w.alloc (.cells #[.int .i64 p] 3)).alloc (.cells #[.int .i64 0,.slice none 0 0,.int .i64 0,.int .i64 0] 119)).cell? ⟨b,off+p+(4+N)+2,none⟩=some (.int .u8 (l.getD (p+(6+N)) 0)):=by rw [show off+p+(4+N)+2=off+(p+(6+N)) by omega];exact HO.out.cell (Hcell.out (p+(6+N)) (by omega)) (by simp)
     have ce3:((w.alloc (.cells #[.int .i64 p] 3)).alloc (.cells #[.int .i64 0,.slice none 0 0,.int .i64 0,.int .i64 0] 119)).cell? ⟨b,off+p+(4+N)+3,none⟩=some (.int .u8 (l.getD (p+(7+N)) 0)):=by rw [show off+p+(4+N)+3=off+(p+(7+N)) by omega];exact HO.out.cell (Hcell.out (p+(7+N)) (by omega)) (by simp)
     have hy0:=Hh.out.range (i:=p+(4+N)) (by omega)
     have hy1:=Hh.out.range (i:=p+(5+N)) (by omega)
     have hy2:=Hh.out.range (i:=p+(6+N)) (by omega)
     have hy3:=Hh.out.range (i:=p+(7+N)) (by omega)
     have hSum:sumU (l.drop p) N=l.getD (p+(4+N)) 0*16777216+l.getD (p+(5+N)) 0*65536+l.getD (p+(6+N)) 0*256+l.getD (p+(7+N)) 0:=by simp only [sumU,getD_drop]
     have hcl:=crc_lt _ hsub1.2
     generalize l.getD (p+(4+N)) 0=y0 at *
     generalize l.getD (p+(5+N)) 0=y1 at *
     generalize l.getD (p+(6+N)) 0=y2 at *
     generalize l.getD (p+(7+N)) 0=y3 at *
     unfold InK at hy0 hy1 hy2 hy3
     have hcs:((crc ((l.drop p).take (4+N)):Nat):Int)=crc ((l.drop p).take (4+N)):=rfl
     generalize hcq:crc ((l.drop p).take (4+N))=C at *
     have Hcq:=lh hcq
     have HSum:=lh hSum
     have Hsub1:=lh hsub1
     have Hsub2:=lh hsub2
     have H8:=lh h8
     clear hcs hcq hSum hsub1 hsub2
     have hi1:((4+N:Nat):Int)=4+(N:Int):=by omega
     have hj1:(0:Int)≤4+(N:Int):=by omega
     go_enter Tryz.func135,Tryz.ntmps135
     go_wp2_with fail
     go_quiet (fail)
     generalize hW3:World.drewN _ _=W3
     have hqD:Only [] ((w.alloc (.cells #[.int .i64 p] 3)).alloc (.cells #[.int .i64 0,.slice none 0 0,.int .i64 0,.int .i64 0] 119)) W3:=by rw [← hW3];exact (Only.refl _ _).drewN _
     have cP3:=hqD.cell cP (by simp)
     have n03:=hqD.cell n0 (by simp)
     have n13:=hqD.cell n1 (by simp)
     have n23:=hqD.cell n2 (by simp)
     have n33:=hqD.cell n3 (by simp)
     have z03:=(hqD.frozen hzN (by simp)).trans z0
     have z13:=(hqD.frozen hzN (by simp)).trans z1
     have z23:=(hqD.frozen hzN (by simp)).trans z2
     have z33:=(hqD.frozen hzN (by simp)).trans z3
     have hzN3:w.heap.size+1<W3.heap.size:=by have:=hqD.size;omega
     have cb03:=hqD.cell cb (by simp)
     have hqE:=HO.out.q hqD
     clear hW3 cP n0 n1 n2 n3 z0 z1 z2 z3 cb cb1 cb2 cb3
     have e03:=hqD.cell ce0 (by simp)
     have e13:=hqD.cell ce1 (by simp)
     have e23:=hqD.cell ce2 (by simp)
     have e33:=hqD.cell ce3 (by simp)
     clear ce0 ce1 ce2 ce3
     have hl4:8+N-(4+N)=4:=by omega
     have hwr:IntKind.i64.wrap (4+(N:Int))=4+(N:Int):=wraps_i64 _ (by omega) (by omega)
     have hcp1:(4:Int)+(N:Int)≤((cap-p:Nat):Int):=by omega
     have hcp3:(4+(N:Int)).toNat=4+N:=by omega
     have hl5:4+N-4=N:=by omega
     have hcp6:¬ cap-p-4=0:=by omega
     have hcp7:¬ cap-p=4:=by omega
     have hcp8:(4:Int)≤4+(N:Int):=by omega
     have hu0:IntKind.u32.wrap y0=y0:=wraps_u32 _ (by omega) (by omega)
     have hu1:IntKind.u32.wrap y1=y1:=wraps_u32 _ (by omega) (by omega)
     have hu2:IntKind.u32.wrap y2=y2:=wraps_u32 _ (by omega) (by omega)
     have hu3:IntKind.u32.wrap y3=y3:=wraps_u32 _ (by omega) (by omega)
     have hs0:IntKind.u32.wrap (y0*16777216)=y0*16777216:=wraps_u32 _ (by omega) (by omega)
     have hs1:IntKind.u32.wrap (y1*65536)=y1*65536:=wraps_u32 _ (by omega) (by omega)
     have hs2:IntKind.u32.wrap (y2*256)=y2*256:=wraps_u32 _ (by omega) (by omega)
     have ho1:=u32_j1 hy0.1 (by omega:y0<256) hy1.1 (by omega:y1<256)
     have ho2:=u32_j2 hy0.1 (by omega:y0<256) hy1.1 (by omega:y1<256) hy2.1 (by omega:y2<256)
     have ho3:=u32_j3 hy0.1 (by omega:y0<256) hy1.1 (by omega:y1<256) hy2.1 (by omega:y2<256) hy3.1 (by omega:y3<256)
     have HSum2:=HSum
     clear HSum
     generalize hY:y0*16777216+y1*65536+y2*256+y3=Y at *
     clear hY
     go_wp2_with fail
     by_cases hC:(C:Int)=Y
     ·subst hC
      have hr:nextD (l.drop p) p=.ok ⟨x0,((l.drop p).drop 4).take N,p,p+(8+N)⟩:=by
       unfold nextD
       rw [if_neg Hzd.out,if_neg Hd4.out,if_neg (by rw [HN.out];omega),if_neg (by rw [HN.out,Hdl.out];omega),HN.out,if_neg (by simp only [Int.toNat_natCast];rw [Hcq.out,HSum2.out];simp),HK.out]
       simp
      have Hr:=lh hr
      clear hr
      go_region_held3 (fun w'=>w'.cell? ⟨b,off+p+(4+N),none⟩=some (.int .u8 y0)∧w'.cell? ⟨b,off+p+(4+N)+1,none⟩=some (.int .u8 y1)∧w'.cell? ⟨b,off+p+(4+N)+2,none⟩=some (.int .u8 y2)∧w'.cell? ⟨b,off+p+(4+N)+3,none⟩=some (.int .u8 y3))
       (first | (simp [*,World.cell?_alloc_some,World.cell?_setCell_far,frozen?_alloc_cells,frozen_drew,World.frozen?_setCell]) | fail)
       (first
        | (go_at_call 63;refine (sum_any (Hsub1.out.quiet hqE.drew)).mono ?_;rintro e w' ⟨rfl,rfl⟩;rw [Hcq.out])
        | fail)
      generalize hW4:World.drew _=W4
      have hqF:Only [] W3 W4:=by rw [← hW4];exact (Only.refl _ _).drew
      clear hW4
      go_wp2_with fail
      have hcA:=hqF.cell cP3 (by simp)
      have hcB:=hqF.cell cb03 (by simp)
      have l0:=hqF.cell n03 (by simp)
      have l1:=hqF.cell n13 (by simp)
      have l2:=hqF.cell n23 (by simp)
      have l3:=hqF.cell n33 (by simp)
      have g0:=(hqF.frozen hzN3 (by simp)).trans z03
      have g1:=(hqF.frozen hzN3 (by simp)).trans z13
      have g2:=(hqF.frozen hzN3 (by simp)).trans z23
      have g3:=(hqF.frozen hzN3 (by simp)).trans z33
      have hz4:w.heap.size+1<W4.heap.size:=by have:=hqF.size;omega
      have hqG:=hqE.q hqF
      clear cP3 cb03 n03 n13 n23 n33 z03 z13 z23 z33 e03 e13 e23 e33 hqF hqE hqD
      have hO2:Only [] W4 (W4.alloc (.cells #[] 5)).drew:=(Only.new W4 (.cells #[] 5)).drew
      have hown0:Own .u8 5 W4.heap.size (W4.alloc (.cells #[] 5)).drew (.slice (some ⟨W4.heap.size,0,none⟩) 0 0) []:=(own_newG rfl (Nat.zero_le _) (by simp) 0 rfl rfl:Own .u8 5 W4.heap.size (W4.alloc (.cells #[] 5)) (.slice (some ⟨W4.heap.size,0,none⟩) 0 0) [])
      have hsrc0:=Hsub2.out.quiet (hqG.q hO2)
      have hb0:W4.heap.size≤((W4.alloc (.cells #[] 5)).drew).heap.size:=by simp
      have l0:=hO2.cell l0 (by simp)
      have l1:=hO2.cell l1 (by simp)
      have l2:=hO2.cell l2 (by simp)
      have l3:=hO2.cell l3 (by simp)
      have g0:=(hO2.frozen hz4 (by simp)).trans g0
      have g1:=(hO2.frozen hz4 (by simp)).trans g1
      have g2:=(hO2.frozen hz4 (by simp)).trans g2
      have g3:=(hO2.frozen hz4 (by simp)).trans g3
      have hfr:From W4.heap.size (.slice (some ⟨W4.heap.size,0,none⟩) 0 0):=From.lit (Nat.le_refl _)
      have hdl:(([]:List Int).length+(((l.drop p).drop 4).take N).length)*1≤140737488355328:=by rw [List.length_take];simp only [List.length_nil];omega
      have hz5:w.heap.size<W4.heap.size:=by omega
      have hz6:b<W4.heap.size:=by omega
      have hwx:IntKind.i64.wrap x0=x0:=wraps_i64 _ hx0.1 (by omega)
      have hbn:¬ b=w.heap.size+1:=by omega
      have hbn':¬ w.heap.size+1=b:=by omega
      have hwe:IntKind.i64.wrap ((p:Int)+8)=(p:Int)+8:=wraps_i64 _ (by omega) (by omega)
      have hwf:IntKind.i64.wrap ((p:Int)+8+(N:Int))=(p:Int)+8+(N:Int):=wraps_i64 _ (by omega) (by omega)
      go_region_held3 (fun w'=>w'.cell? ⟨w.heap.size,0,none⟩=some (.int .i64 p)∧w'.cell? ⟨b,off+p,none⟩=some (.int .u8 x0))
       (first
        | (go_split_ands;refine ⟨hacc1.cell hfr (by assumption) hz5,hacc1.cell hfr (by assumption) hz6⟩)
        | (simp [*,World.cell?_alloc_some,World.cell?_setCell_far,frozen?_alloc_cells,frozen_drew,World.frozen?_setCell])
        | fail)
       (first | (refine step_append_ints rfl (.tmp 115) (.tmp 119) 22 rfl E8 hown0 rfl hsrc0 rfl hdl hb0 (fun v1 w1 hown1 hacc1=>?_);obtain ⟨a1,cap1,rfl,_⟩:=hown1.ints.open;(have m0:=hacc1.cell hfr l0 hz4);(have m1:=hacc1.cell hfr l1 hz4);(have m2:=hacc1.cell hfr l2 hz4);(have m3:=hacc1.cell hfr l3 hz4);(have k0:=(hacc1.frz (p:=⟨w.heap.size+1,0,none⟩) hfr hz4 hb0).trans g0);(have k1:=(hacc1.frz (p:=⟨w.heap.size+1,1,none⟩) hfr hz4 hb0).trans g1);(have k2:=(hacc1.frz (p:=⟨w.heap.size+1,2,none⟩) hfr hz4 hb0).trans g2);(have k3:=(hacc1.frz (p:=⟨w.heap.size+1,3,none⟩) hfr hz4 hb0).trans g3)) | fail)
      go_wp2_with fail
      refine bodyPost_ret (v:=.tuple #[.agg #[.int .i64 x0,.slice a1 (min N (l.length-(p+4))) cap1,.int .i64 p,.int .i64 ((p:Int)+8+(N:Int))],.nilIface]) (by simp [results,Tryz.results135,go_sem,m0,m1,m2,m3,hwe,hwf,World.cell?_setCell_other]) rfl ?_
      have hS:∀ u0 u1 u2 u3,Only [w.heap.size+1] w1 ((((w1.setCell ⟨w.heap.size+1,0,none⟩ u0).setCell ⟨w.heap.size+1,1,none⟩ u1).setCell ⟨w.heap.size+1,2,none⟩ u2).setCell ⟨w.heap.size+1,3,none⟩ u3):=fun _ _ _ _=>((((Only.refl _ _).setCell (by simp) _).setCell (by simp) _).setCell (by simp) _).setCell (by simp) _
      have hs0:Only [] w w1:=(hqG.q hO2).acc hacc1 (From.lit (by omega))
      have hmin:min N (l.length-(p+4))=(((l.drop p).drop 4).take N).length:=by rw [List.length_take,List.length_drop,List.length_drop];congr 1
      unfold NextP
      rw [Hr.out]
      refine ⟨hs0.trans (hS _ _ _ _) (by simp) (by simp),_,?_,(hown1.ints.only (hS _ _ _ _) (fun g hg=>by rw [mSg] at hg;omega)).mono (by omega) (hS _ _ _ _).size⟩
      have e:((p+(8+N):Nat):Int)=(p:Int)+8+(N:Int):=by omega
      rw [e,hmin]
      rfl
     ·have hr:nextD (l.drop p) p=.error ⟨[(sUnit,p)],4⟩:=by
       unfold nextD
       rw [if_neg Hzd.out,if_neg Hd4.out,if_neg (by rw [HN.out];omega),if_neg (by rw [HN.out,Hdl.out];omega),HN.out,if_pos (by simp only [Int.toNat_natCast];rw [Hcq.out,HSum2.out];exact hC)]
      have Hr:=lh hr
      clear hr
      go_region_held3 (fun w'=>w'.cell? ⟨b,off+p+(4+N),none⟩=some (.int .u8 y0)∧w'.cell? ⟨b,off+p+(4+N)+1,none⟩=some (.int .u8 y1)∧w'.cell? ⟨b,off+p+(4+N)+2,none⟩=some (.int .u8 y2)∧w'.cell? ⟨b,off+p+(4+N)+3,none⟩=some (.int .u8 y3))
       (first | (simp [*,World.cell?_alloc_some,World.cell?_setCell_far,frozen?_alloc_cells,frozen_drew,World.frozen?_setCell]) | fail)
       (first
        | (go_at_call 63;refine (sum_any (Hsub1.out.quiet hqE.drew)).mono ?_;rintro e w' ⟨rfl,rfl⟩;rw [Hcq.out])
        | fail)
      generalize hW4:World.drew _=W4
      have hqF:Only [] W3 W4:=by rw [← hW4];exact (Only.refl _ _).drew
      clear hW4
      go_wp2_with (first | (go_at_call 172;refine (next1_any _ _ p _ (hqF.cell cP3 (by simp))).mono ?_;rintro e w3 ⟨ev,rfl,hev,hq3⟩;obtain ⟨et,eu,rfl⟩:=hev.held;have hq3:=hqF.q hq3;have m0:=hq3.cell n03 (by simp);have m1:=hq3.cell n13 (by simp);have m2:=hq3.cell n23 (by simp);have m3:=hq3.cell n33 (by simp);have k0:=(hq3.frozen hzN3 (by simp)).trans z03;have k1:=(hq3.frozen hzN3 (by simp)).trans z13;have k2:=(hq3.frozen hzN3 (by simp)).trans z23;have k3:=(hq3.frozen hzN3 (by simp)).trans z33) | fail)
      refine bodyPost_ret (v:=.tuple #[.agg #[.int .i64 0,.slice none 0 0,.int .i64 0,.int .i64 0],.iface et eu]) (by simp [results,Tryz.results135,go_sem,m0,m1,m2,m3,World.cell?_setCell_other]) rfl ?_
      have hS:∀ u0 u1 u2 u3,Only [w.heap.size+1] w3 ((((w3.setCell ⟨w.heap.size+1,0,none⟩ u0).setCell ⟨w.heap.size+1,1,none⟩ u1).setCell ⟨w.heap.size+1,2,none⟩ u2).setCell ⟨w.heap.size+1,3,none⟩ u3):=fun _ _ _ _=>((((Only.refl _ _).setCell (by simp) _).setCell (by simp) _).setCell (by simp) _).setCell (by simp) _
      exact NextP.bad Hr.out ((hqE.q hq3).trans (hS _ _ _ _) (by simp) (by simp)) rfl ((ErrV.only hev (hS _ _ _ _) (by have:=hqF.size;simp;omega)).mono (by have:=hqE.size;have:=hqF.size;omega) (hS _ _ _ _).size)
/-- the reader in block R: its bytes' slice, where it is, how many units are behind it -/
def Rd (R:Nat) (bv:Value) (w:World) (p n:Nat):Prop:=w.heap[R]?=some (.cells #[bv,.int .i64 p,.int .i64 n] 79 (0,0))
theorem Rd.only {R p n:Nat} {bv:Value} {w w':World} {S:List Nat} (h:Rd R bv w p n) (o:Only S w w') (hS:R∉S):Rd R bv w' p n:=o.rowAt h hS
theorem Rd.quiet {R p n:Nat} {bv:Value} {w w':World} (h:Rd R bv w p n) (o:Only [] w w'):Rd R bv w' p n:=o.rowAt h (by simp)
theorem Rd.lt {R p n:Nat} {bv:Value} {w:World} (h:Rd R bv w p n):R<w.heap.size:=(Array.getElem?_eq_some_iff.1 h).1
theorem Rd.c0 {R p n:Nat} {bv:Value} {w:World} (h:Rd R bv w p n):w.cell? ⟨R,0,none⟩=some bv:=by rw [cell_of_row _ _ _ _ _ _ h];rfl
theorem Rd.c1 {R p n:Nat} {bv:Value} {w:World} (h:Rd R bv w p n):w.cell? ⟨R,1,none⟩=some (.int .i64 p):=by rw [cell_of_row _ _ _ _ _ _ h];rfl
theorem Rd.c2 {R p n:Nat} {bv:Value} {w:World} (h:Rd R bv w p n):w.cell? ⟨R,2,none⟩=some (.int .i64 n):=by rw [cell_of_row _ _ _ _ _ _ h];rfl
theorem Rd.f {R p n:Nat} {bv:Value} {w:World} (h:Rd R bv w p n) (j:Nat):w.frozen? ⟨R,j,none⟩=false:=frozen_of_row w R j _ _ h
theorem NextP.shape {w w':World} {r:Except Err UnitD} {e:Ending} (h:NextP w r e w'):∃ (k p q:Int) (a:Option Addr) (n c:Nat) (ev:Value),e=.returned (.tuple #[.agg #[.int .i64 k,.slice a n c,.int .i64 p,.int .i64 q],ev]):=by
 cases r with
 | ok u=>obtain ⟨_,dv,rfl,hi⟩:=h;obtain ⟨a,c,rfl,_⟩:=hi.open;exact ⟨_,_,_,_,_,_,_,rfl⟩
 | error er=>obtain ⟨_,ev,rfl,_⟩:=h;exact ⟨_,_,_,_,_,_,_,rfl⟩
theorem NextP.step {w W w1 w2:World} {r:Except Err UnitD} {e:Ending} {S:List Nat} (h0:Only [] w W) (h:NextP W r e w1) (h1:Only S w1 w2) (hS:∀ g∈S,w.heap.size≤g∧g<W.heap.size):NextP w r e w2:=by
 have hA:Only [] w w2:=(h0.q h.1).trans h1 (by simp) (fun g hg hlt=>absurd hlt (by have:=hS g hg;omega))
 have hz:=h0.size
 cases r with
 | ok u=>obtain ⟨_,dv,rfl,hi⟩:=h;exact ⟨hA,dv,rfl,(hi.only h1 (fun g hg=>.inl (hS g hg).2)).mono hz h1.size⟩
 | error er=>obtain ⟨_,ev,rfl,hev⟩:=h;exact ⟨hA,ev,rfl,(hev.only h1 (fun g hg=>.inl (hS g hg).2)).mono hz h1.size⟩
def peekR (l:List Int) (p:Nat):Except Err UnitD:=if p=l.length then .error ⟨[],1⟩ else nextD (l.drop p) p
theorem peek_any {lo hi R p n:Nat} {bv:Value} {l:List Int} {w:World} (hr:Rd R bv w p n) (h:Ints .u8 lo hi w bv l) (hp:p≤l.length) :
  Calls Tryz.prog 89 #[.pointer (some ⟨R,0,none⟩)] w (NextP w (peekR l p)):=by
 obtain ⟨a,cap,rfl,_⟩:=h.open
 have c0:=hr.c0
 have c1:=hr.c1
 have hRl:=hr.lt
 have hll:=h.1.len_le
 unfold maxLen at hll
 have q0:=fun o=>(Only.new w o).cell c0 (by simp)
 have q1:=fun o=>(Only.new w o).cell c1 (by simp)
 by_cases he:p=l.length
 ·have hpr:peekR l p=.error ⟨[],1⟩:=if_pos he
  have Hpr:=lh hpr
  subst he
  clear hpr h hr c0 c1
  go_enter Tryz.func89,Tryz.ntmps89
  go_wp2_with fail
  go_quiet (fail)
  go_wp2_with fail
  refine bodyPost_ret (v:=.tuple #[.agg #[.int .i64 0,.slice none 0 0,.int .i64 0,.int .i64 0],.iface 29 (.int .i64 1)]) (by simp [results,Tryz.results89,go_sem]) rfl ?_
  unfold NextP
  rw [Hpr.out]
  exact ⟨((((((Only.new _ _).drewN _).setCell (by simp) _).setCell (by simp) _).setCell (by simp) _).setCell (by simp) _),_,rfl,rfl⟩
 ·have hpr:peekR l p=nextD (l.drop p) p:=if_neg he
  have Hpr:=lh hpr
  have hlt:p<l.length:=by omega
  have heb:((p:Int) == (l.length:Int))=false:=by rw [beq_eq_false_iff_ne];omega
  have H:=lh (fun w' (o:Only [] w w')=>next_any p (h.quiet o) hlt)
  clear hpr h hr c0 c1
  go_enter Tryz.func89,Tryz.ntmps89
  go_wp2_with fail
  go_quiet (fail)
  generalize hW3:World.drewN _ _=W3
  have hqD:Only [] (w.alloc (.cells #[.int .i64 0,.slice none 0 0,.int .i64 0,.int .i64 0] 119)) W3:=by rw [← hW3];exact (Only.refl _ _).drewN _
  have rB:=hqD.rowAt (heap_alloc_new w _) (by simp)
  have d0:=hqD.cell (q0 _) (by simp)
  have d1:=hqD.cell (q1 _) (by simp)
  have hqW:Only [] w W3:=(Only.new _ _).q hqD
  have hwl:w.heap.size<W3.heap.size:=(Array.getElem?_eq_some_iff.1 rB).1
  have n0:W3.cell? ⟨w.heap.size,0,none⟩=some (.int .i64 0):=by rw [cell_of_row _ _ _ _ _ _ rB];rfl
  have n1:W3.cell? ⟨w.heap.size,1,none⟩=some (.slice none 0 0):=by rw [cell_of_row _ _ _ _ _ _ rB];rfl
  have n2:W3.cell? ⟨w.heap.size,2,none⟩=some (.int .i64 0):=by rw [cell_of_row _ _ _ _ _ _ rB];rfl
  have n3:W3.cell? ⟨w.heap.size,3,none⟩=some (.int .i64 0):=by rw [cell_of_row _ _ _ _ _ _ rB];rfl
  have z0:=frozen_of_row W3 w.heap.size 0 _ _ rB
  have z1:=frozen_of_row W3 w.heap.size 1 _ _ rB
  have z2:=frozen_of_row W3 w.heap.size 2 _ _ rB
  have z3:=frozen_of_row W3 w.heap.size 3 _ _ rB
  clear hW3 rB q0 q1
  have HQD:=lh hqD
  clear hqD
  go_wp2_with fail
  have fin:∀ x0 x1 x2 x3 (w1:World),Only [] W3 w1→Only [] w ((((w1.setCell ⟨w.heap.size,0,none⟩ x0).setCell ⟨w.heap.size,1,none⟩ x1).setCell ⟨w.heap.size,2,none⟩ x2).setCell ⟨w.heap.size,3,none⟩ x3)∧Only [w.heap.size] w1 ((((w1.setCell ⟨w.heap.size,0,none⟩ x0).setCell ⟨w.heap.size,1,none⟩ x1).setCell ⟨w.heap.size,2,none⟩ x2).setCell ⟨w.heap.size,3,none⟩ x3):=fun x0 x1 x2 x3 w1 o =>
   have hS:Only [w.heap.size] w1 ((((w1.setCell ⟨w.heap.size,0,none⟩ x0).setCell ⟨w.heap.size,1,none⟩ x1).setCell ⟨w.heap.size,2,none⟩ x2).setCell ⟨w.heap.size,3,none⟩ x3):=((((Only.refl _ _).setCell (by simp) _).setCell (by simp) _).setCell (by simp) _).setCell (by simp) _
   ⟨(hqW.q o).trans hS (by simp) (by simp),hS⟩
  have Fin:=lh fin
  clear fin
  have hkeep:∀ w1,Only [] W3 w1→(w1.cell? ⟨w.heap.size,0,none⟩=some (.int .i64 0)∧w1.cell? ⟨w.heap.size,1,none⟩=some (.slice none 0 0)∧w1.cell? ⟨w.heap.size,2,none⟩=some (.int .i64 0)∧w1.cell? ⟨w.heap.size,3,none⟩=some (.int .i64 0))∧(w1.frozen? ⟨w.heap.size,0,none⟩=false∧w1.frozen? ⟨w.heap.size,1,none⟩=false∧w1.frozen? ⟨w.heap.size,2,none⟩=false∧w1.frozen? ⟨w.heap.size,3,none⟩=false):=fun w1 o =>
   ⟨⟨o.cell n0 (by simp),o.cell n1 (by simp),o.cell n2 (by simp),o.cell n3 (by simp)⟩,⟨(o.frozen hwl (by simp)).trans z0,(o.frozen hwl (by simp)).trans z1,(o.frozen hwl (by simp)).trans z2,(o.frozen hwl (by simp)).trans z3⟩⟩
  have HK:=lh hkeep
  have HN:=lh (And.intro (And.intro n0 n1) (And.intro n2 n3))
  clear hkeep n0 n1 n2 n3 z0 z1 z2 z3
  have hRn:¬ R=w.heap.size:=by omega
  have hRn':¬ w.heap.size=R:=by omega
  go_region_held3 (fun w'=>w'.cell? ⟨R,0,none⟩=some (.slice a l.length cap)∧w'.cell? ⟨R,1,none⟩=some (.int .i64 p))
   (first | (go_split_ands;refine ⟨hq4.cell (by assumption) (by simp),hq4.cell (by assumption) (by simp)⟩) | (simp [*,World.cell?_alloc_some,World.cell?_setCell_far,frozen?_alloc_cells,frozen_drew,World.frozen?_setCell]) | fail)
   (first | (go_at_call 135;refine (H.out _ hqW.drew).mono ?_;rintro e w1 hP;obtain ⟨x0,x2,x3,a1,n1,c1,ev,rfl⟩:=hP.shape;have hq4:=hP.1;obtain ⟨⟨m0,m1,m2,m3⟩,⟨k0,k1,k2,k3⟩⟩:=HK.out w1 ((Only.refl _ _).drew.q hq4);have HP:=lh hP;clear hP) | fail)
  go_wp2_with fail
  refine bodyPost_ret (v:=.tuple #[.agg #[.int .i64 x0,.slice a1 n1 c1,.int .i64 x2,.int .i64 x3],ev]) (by simp [results,Tryz.results89,go_sem,m0,m1,m2,m3,World.cell?_setCell_other]) rfl ?_
  rw [Hpr.out]
  exact NextP.step hqW.drew HP.out (Fin.out _ _ _ _ _ ((Only.refl _ _).drew.q hq4)).2 (by simp;exact hwl)
def nextR (l:List Int) (p:Nat) (kind n:Int):Except Err UnitD :=
 match peekR l p with
 | .error e=>.error e
 | .ok u=>if u.kind≠kind∨(u.data.length:Int)≠n then .error ⟨[],2⟩ else .ok u
/-- what a block made first holds behind calls that keep it -/
theorem row4 {w:World} {g:Nat} {a b c d v0 v1 v2 v3:Value} {t:TypeId} (h:w.heap[g]?=some (.cells #[a,b,c,d] t (0,0))) :
  ((((w.setCell ⟨g,0,none⟩ v0).setCell ⟨g,1,none⟩ v1).setCell ⟨g,2,none⟩ v2).setCell ⟨g,3,none⟩ v3).heap[g]?=some (.cells #[v0,v1,v2,v3] t (0,0)) :=
 heap_setCell_same _ g 3 _ _ v3 (heap_setCell_same _ g 2 _ _ v2 (heap_setCell_same _ g 1 _ _ v1 (heap_setCell_same w g 0 _ _ v0 h)))
theorem row4_cells {w:World} {g:Nat} {v0 v1 v2 v3:Value} {t:TypeId} (h:w.heap[g]?=some (.cells #[v0,v1,v2,v3] t (0,0))) :
  w.cell? ⟨g,0,none⟩=some v0∧w.cell? ⟨g,1,none⟩=some v1∧w.cell? ⟨g,2,none⟩=some v2∧w.cell? ⟨g,3,none⟩=some v3 :=
 ⟨by rw [cell_of_row _ _ _ _ _ _ h];rfl,by rw [cell_of_row _ _ _ _ _ _ h];rfl,by rw [cell_of_row _ _ _ _ _ _ h];rfl,by rw [cell_of_row _ _ _ _ _ _ h];rfl⟩
theorem Only.fresh {w w1:World} {vs:Array Value} {t:TypeId} (h:Only [] (w.alloc (.cells vs t)) w1):w1.heap[w.heap.size]?=some (.cells vs t (0,0)):=h.rowAt (heap_alloc_new _ _) (by simp)
theorem end4 {w w1 Wf:World} {a b c d v0 v1 v2 v3:Value} {t:TypeId} {U:Obj} (hq:Only [] (w.alloc (.cells #[a,b,c,d] t)) w1)
  (h:(((((w1.setCell ⟨w.heap.size,0,none⟩ v0).setCell ⟨w.heap.size,1,none⟩ v1).setCell ⟨w.heap.size,2,none⟩ v2).setCell ⟨w.heap.size,3,none⟩ v3).alloc U)=Wf) :
  (Wf.cell? ⟨w.heap.size,0,none⟩=some v0∧Wf.cell? ⟨w.heap.size,1,none⟩=some v1∧Wf.cell? ⟨w.heap.size,2,none⟩=some v2∧Wf.cell? ⟨w.heap.size,3,none⟩=some v3)∧Only [w.heap.size] w1 Wf:=by
 have r:=(Only.new ((((w1.setCell ⟨w.heap.size,0,none⟩ v0).setCell ⟨w.heap.size,1,none⟩ v1).setCell ⟨w.heap.size,2,none⟩ v2).setCell ⟨w.heap.size,3,none⟩ v3) U).rowAt (row4 hq.fresh) (by simp)
 have o:Only [w.heap.size] w1 (((((w1.setCell ⟨w.heap.size,0,none⟩ v0).setCell ⟨w.heap.size,1,none⟩ v1).setCell ⟨w.heap.size,2,none⟩ v2).setCell ⟨w.heap.size,3,none⟩ v3).alloc U):=(((((Only.refl _ _).setCell (by simp) _).setCell (by simp) _).setCell (by simp) _).setCell (by simp) _).alloc _
 rw [h] at r o
 exact ⟨row4_cells r,o⟩
theorem qRdN0 {p:Prop} (h:p:=by
 go_enter Tryz.func45,Tryz.ntmps45
 go_wp2_with (first | (go_at_call 89;refine (H.out _ (Only.new _ _)).mono ?_;rintro e w1 hP;rw [Hres.out] at hP;obtain ⟨hq,dv,rfl,hdv⟩:=hP;obtain ⟨da,dcap,rfl,_⟩:=hdv.open;simp only;obtain ⟨⟨m0,m1,m2,m3⟩,⟨k0,k1,k2,k3⟩,hwl⟩:=Hfin.out w1 hq) | fail)
 generalize hWf:World.alloc _ _=Wf
 obtain ⟨⟨t0,t1,t2,t3⟩,hO2⟩:=end4 hq hWf
 refine bodyPost_ret (v:=.tuple #[.agg #[.int .i64 0,.slice none 0 0,.int .i64 0,.int .i64 0],.iface 29 (.int .i64 2)]) (by simp [results,Tryz.results45,go_sem,t0,t1,t2,t3]) rfl ?_
 rw [Hn.out]
 exact NextP.step (r:=.error ⟨[],2⟩) (Only.new _ _) ⟨hq,_,rfl,rfl⟩ hO2 (by simp)):p:=h
theorem rnext_any {lo hi R p n:Nat} {bv:Value} {l:List Int} {w:World} (kind m:Int) (hr:Rd R bv w p n) (h:Ints .u8 lo hi w bv l) (hp:p≤l.length) :
  Calls Tryz.prog 45 #[.pointer (some ⟨R,0,none⟩),.int .i64 kind,.int .i64 m] w (NextP w (nextR l p kind m)):=by
 have H:=lh (fun w' (o:Only [] w w')=>peek_any (hr.quiet o) (h.quiet o) hp)
 clear hr h hp
 have hfin:∀ (w1:World),Only [] (w.alloc (.cells #[.int .i64 0,.slice none 0 0,.int .i64 0,.int .i64 0] 119)) w1 →
   (w1.cell? ⟨w.heap.size,0,none⟩=some (.int .i64 0)∧w1.cell? ⟨w.heap.size,1,none⟩=some (.slice none 0 0)∧w1.cell? ⟨w.heap.size,2,none⟩=some (.int .i64 0)∧w1.cell? ⟨w.heap.size,3,none⟩=some (.int .i64 0)) ∧
   (w1.frozen? ⟨w.heap.size,0,none⟩=false∧w1.frozen? ⟨w.heap.size,1,none⟩=false∧w1.frozen? ⟨w.heap.size,2,none⟩=false∧w1.frozen? ⟨w.heap.size,3,none⟩=false)∧w.heap.size<w1.heap.size:=fun w1 o=>by
  have r2:=o.fresh
  exact ⟨⟨by rw [cell_of_row _ _ _ _ _ _ r2];rfl,by rw [cell_of_row _ _ _ _ _ _ r2];rfl,by rw [cell_of_row _ _ _ _ _ _ r2];rfl,by rw [cell_of_row _ _ _ _ _ _ r2];rfl⟩,⟨frozen_of_row _ _ _ _ _ r2,frozen_of_row _ _ _ _ _ r2,frozen_of_row _ _ _ _ _ r2,frozen_of_row _ _ _ _ _ r2⟩,(Array.getElem?_eq_some_iff.1 r2).1⟩
 have Hfin:=lh hfin
 have hset:∀ x0 x1 x2 x3 (w1:World),Only [w.heap.size] w1 ((((w1.setCell ⟨w.heap.size,0,none⟩ x0).setCell ⟨w.heap.size,1,none⟩ x1).setCell ⟨w.heap.size,2,none⟩ x2).setCell ⟨w.heap.size,3,none⟩ x3):=fun x0 x1 x2 x3 w1=>((((Only.refl _ _).setCell (by simp) _).setCell (by simp) _).setCell (by simp) _).setCell (by simp) _
 have Hset:=lh hset
 clear hfin hset
 cases hres:peekR l p with
 | error er =>
  have hn:nextR l p kind m=.error er:=by unfold nextR;rw [hres]
  have Hn:=lh hn
  have Hres:=lh hres
  clear hn hres
  go_enter Tryz.func45,Tryz.ntmps45
  go_wp2_with (first | (go_at_call 89;refine (H.out _ (Only.new _ _)).mono ?_;rintro e w1 hP;rw [Hres.out] at hP;obtain ⟨hq,ev,rfl,hev⟩:=hP;obtain ⟨et,eu,rfl⟩:=hev.held;obtain ⟨⟨m0,m1,m2,m3⟩,⟨k0,k1,k2,k3⟩,hwl⟩:=Hfin.out w1 hq) | fail)
  generalize hWf:World.alloc _ _=Wf
  obtain ⟨⟨t0,t1,t2,t3⟩,hO2⟩:=end4 hq hWf
  refine bodyPost_ret (v:=.tuple #[.agg #[.int .i64 0,.slice none 0 0,.int .i64 0,.int .i64 0],.iface et eu]) (by simp [results,Tryz.results45,go_sem,t0,t1,t2,t3]) rfl ?_
  rw [Hn.out]
  exact NextP.step (r:=.error er) (Only.new _ _) ⟨hq,_,rfl,hev⟩ hO2 (by simp)
 | ok u =>
  obtain ⟨uk,ud,ua,ue⟩:=u
  have Hres:=lh hres
  clear hres
  by_cases hk:uk≠kind∨(ud.length:Int)≠m
  ·have hn:nextR l p kind m=.error ⟨[],2⟩:=by unfold nextR;rw [Hres.out];exact if_pos hk
   have Hn:=lh hn
   clear hn
   by_cases hk1:uk=kind
   ·have hk2:((ud.length:Int) == m)=false:=by rw [beq_eq_false_iff_ne];rcases hk with h | h;exact absurd hk1 h;exact h
    have hk3:((ud.length:Int) != m)=true:=by simp [bne,hk2]
    subst hk1
    clear hk
    exact qRdN0
   ·have hk2:(uk == kind)=false:=by rw [beq_eq_false_iff_ne];exact hk1
    have hk3:(uk != kind)=true:=by simp [bne,hk2]
    clear hk hk1
    exact qRdN0
  ·have hn:nextR l p kind m=.ok ⟨uk,ud,ua,ue⟩:=by unfold nextR;rw [Hres.out];exact if_neg hk
   have Hn:=lh hn
   clear hn
   obtain ⟨rfl,rfl⟩:uk=kind∧(ud.length:Int)=m:=by
    constructor
    ·exact Decidable.not_not.1 fun h=>hk (.inl h)
    ·exact Decidable.not_not.1 fun h=>hk (.inr h)
   clear hk
   go_enter Tryz.func45,Tryz.ntmps45
   go_wp2_with (first | (go_at_call 89;refine (H.out _ (Only.new _ _)).mono ?_;rintro e w1 hP;rw [Hres.out] at hP;obtain ⟨hq,dv,rfl,hdv⟩:=hP;obtain ⟨da,dcap,rfl,_⟩:=hdv.open;simp only;obtain ⟨⟨m0,m1,m2,m3⟩,⟨k0,k1,k2,k3⟩,hwl⟩:=Hfin.out w1 hq) | fail)
   generalize hWf:World.alloc _ _=Wf
   obtain ⟨⟨t0,t1,t2,t3⟩,hO2⟩:=end4 hq hWf
   refine bodyPost_ret (v:=.tuple #[.agg #[.int .i64 uk,.slice da ud.length dcap,.int .i64 ua,.int .i64 ue],.nilIface]) (by simp [results,Tryz.results45,go_sem,t0,t1,t2,t3]) rfl ?_
   rw [Hn.out]
   exact NextP.step (r:=.ok ⟨uk,ud,ua,ue⟩) (Only.new _ _) ⟨hq,_,rfl,hdv⟩ hO2 (by simp)
theorem Rd.set {R p n p' n':Nat} {bv:Value} {w:World} (h:Rd R bv w p n):Rd R bv ((w.setCell ⟨R,1,none⟩ (.int .i64 p')).setCell ⟨R,2,none⟩ (.int .i64 n')) p' n':=by
 have h1:=heap_setCell_same w R 1 _ _ (.int .i64 (p':Int)) h
 have h2:=heap_setCell_same _ R 2 _ _ (.int .i64 (n':Int)) h1
 exact h2
theorem Rd.setOnly {R:Nat} {w:World} (u v:Value):Only [R] w ((w.setCell ⟨R,1,none⟩ u).setCell ⟨R,2,none⟩ v):=((Only.refl _ _).setCell (by simp) _).setCell (by simp) _
theorem pass_any {R p n e_:Nat} {bv:Value} {w:World} (k a0:Int) (a:Option Addr) (m c:Nat) (hr:Rd R bv w p n) (hn:n≤1000000000000) :
  Calls Tryz.prog 46 #[.pointer (some ⟨R,0,none⟩),.agg #[.int .i64 k,.slice a m c,.int .i64 a0,.int .i64 e_]] w fun e w'=>e=.returned (.tuple #[])∧Rd R bv w' e_ (n+1)∧Only [R] w w':=by
 have c1:=hr.c1
 have c2:=hr.c2
 have f1:=hr.f 1
 have f2:=hr.f 2
 have hRl:=hr.lt
 have hRn:¬ R=w.heap.size:=by omega
 have hRn':¬ w.heap.size=R:=by omega
 have HR:=lh hr
 clear hr
 go_enter Tryz.func46,Tryz.ntmps46
 go_wp2_with fail
 refine bodyPost_end (v:=.tuple #[]) (by simp [results,Tryz.results46,go_sem]) rfl ⟨rfl,?_,?_⟩
 ·exact (Rd.set (p':=e_) (n':=n+1) HR.out).quiet (Only.new _ _)
 ·exact (Rd.setOnly _ _).alloc _
def zeros:List Int→Nat
 | []=>0
 | x :: l=>if x=0 then zeros l+1 else 0
theorem zeros_drop {l:List Int} {k:Nat} (h:k<l.length):zeros (l.drop k)=if l.getD k 0=0 then zeros (l.drop (k+1))+1 else 0:=by
 rw [List.drop_eq_getElem_cons h]
 have:l.getD k 0=l[k]:=by simp [h]
 rw [this];rfl
theorem zeros_le:∀ l:List Int,zeros l≤l.length
 | []=>by simp [zeros]
 | x :: l=>by unfold zeros;split;have:=zeros_le l;simp;omega;simp
theorem qRdP0 {p:Prop} (h:p:=by
 go_wp2_with fail
 go_quiet (fail)
 go_wp2_with fail
 go_ret
 rw [Hr.out,← Hqk.out,← Hmk.out]
 exact ⟨rfl,HR.out.quiet ((Only.refl _ _).drewN _),HO.out.drewN _⟩):p:=h
theorem rfills_any {lo hi R p n:Nat} {bv:Value} {l:List Int} {w:World} (hr:Rd R bv w p n) (h:Ints .u8 lo hi w bv l) (hR:hi≤R) (hp:p≤l.length) (hn:n≤1000000000000) (hl:l.length≤1000000000000) :
  Calls Tryz.prog 90 #[.pointer (some ⟨R,0,none⟩)] w fun e w'=>e=.returned (.int .i64 (zeros (l.drop p):Nat))∧Rd R bv w' (p+zeros (l.drop p)) (n+zeros (l.drop p))∧Only [R] w w':=by
 obtain ⟨a,cap,rfl,hcap,hmax,hat,hcell⟩:=h.open
 have Hat:=lh hat
 have Hcell:=lh hcell
 have hll:(l.length:Int)≤9223372036854775807:=by omega
 clear h hat hcell hmax
 go_enter Tryz.func90,Tryz.ntmps90
 go_wp2
 go_loopg [3] (l.length-p) (fun g y wr=>∃ k q m:Nat,y=.int .i64 k∧q=p+k∧m=n+k∧q≤l.length∧g=l.length-q∧Hid (k+zeros (l.drop q)=zeros (l.drop p))∧Rd R (.slice a l.length cap) wr q m∧Only [R] w wr)
 case atStart=>exact ⟨0,p,n,rfl,rfl,rfl,hp,rfl,lh (by simp),hr,Only.refl _ _⟩
 case round =>
  obtain ⟨k,q,m,rfl,hqk,hmk,hk,hg,Hk,hrd,hq⟩:=hrel
  have c0:=hrd.c0
  have c1:=hrd.c1
  have c2:=hrd.c2
  have f1:=hrd.f 1
  have f2:=hrd.f 2
  have Hqk:=lh hqk
  have Hmk:=lh hmk
  have Hg:=lh hg
  have HR:=lh hrd
  have HO:=lh hq
  have hm1:(m:Int)≤9000000000000:=by have:=zeros_le (l.drop p);omega
  have hk1:(k:Int)≤9000000000000:=by omega
  by_cases hlt:q<l.length
  ·obtain ⟨b,off,rfl,hb1,hb2⟩:=Hat.out q hlt
   have hc:=hq.cell (Hcell.out b off rfl q hlt) (by simp;omega)
   have hbR:¬ b=R:=by omega
   have hbR':¬ R=b:=by omega
   have Hd:=lh (zeros_drop hlt)
   have hqi:(q:Int)<(l.length:Int):=by omega
   have hq0:(0:Int)≤(q:Int):=by omega
   clear hqk hmk hg hrd hq
   generalize l.getD q 0=x at *
   by_cases hx:x=0
   ·subst hx
    go_wp2_with fail
    go_quiet (fail)
    go_wp2_with fail
    have HD:=Hd.out
    simp only [if_true] at HD
    go_roundg (l.length-(q+1))
    case measure=>have:=Hg.out;omega
    case rel =>
     refine ⟨k+1,q+1,m+1,by go_num,by have:=Hqk.out;omega,by have:=Hmk.out;omega,by omega,rfl,lh (by have:=Hk.out;omega),Rd.set (p':=q+1) (n':=m+1) (HR.out.quiet ((Only.refl _ _).drewN _)),?_⟩
     exact (HO.out.drewN _).trans (Rd.setOnly _ _) (fun g h _=>h) (fun g h _=>h)
   ·have hxb:(x == 0)=false:=by simpa using hx
    have hr:zeros (l.drop p)=k:=by rw [← Hk.out,Hd.out,if_neg hx];rfl
    have Hr:=lh hr
    clear hr
    exact qRdP0
  ·have hke:q=l.length:=by omega
   have hr:zeros (l.drop p)=k:=by rw [← Hk.out,hke,List.drop_length];rfl
   have hnq:¬ (q:Int)<(l.length:Int):=by omega
   have Hr:=lh hr
   clear hqk hmk hg hrd hq hke hr
   exact qRdP0
theorem EC:Elem Tryz.prog 47 83 (.agg #[.int .i64 0,.slice none 0 0]) 2 32:=Elem.mk' Tryz.underlying47 (by kernel_rfl) rfl (by omega) (by omega)
theorem EE:Elem Tryz.prog 40 46 (.agg #[.int .i64 0,.int .i64 0,.int .i64 0,.int .i64 0]) 4 32:=Elem.mk' Tryz.underlying40 (by kernel_rfl) rfl (by omega) (by omega)
theorem Ints.empty {k:IntKind} {lo hi lo' hi':Nat} {w w':World} {v:Value} (h:Ints k lo hi w v []):Ints k lo' hi' w' v []:=by
 obtain ⟨⟨h1,a,c,e,h3,h4,h5⟩,hk⟩:=h
 exact ⟨⟨h1,a,c,e,h3,h4,fun hn=>absurd hn (by simp)⟩,hk⟩
theorem Ints.tight {k:IntKind} {lo hi:Nat} {w:World} {v:Value} {l:List Int} (h:Ints k lo hi w v l):∃ b,Ints k b (b+1) w v l∧(l≠[]→lo≤b∧b<hi):=by
 by_cases hl:l=[]
 ·subst hl;exact ⟨0,h.empty,fun h=>absurd rfl h⟩
 ·obtain ⟨⟨h1,a,c,e,h3,h4,h5⟩,hk⟩:=h
  have hp:0<l.length:=List.length_pos_iff.2 hl
  obtain ⟨b,off,e2,x,y,hc⟩:=h5 hp
  exact ⟨b,⟨⟨h1,a,c,e,h3,h4,fun _=>⟨b,off,e2,Nat.le_refl _,by omega,hc⟩⟩,hk⟩,fun _=>⟨x,y⟩⟩
/-- two rows lie apart -/
def Sep (a b:Value):Prop:=∀ g,a.ownBlock=some g→b.ownBlock≠some g
theorem Sep.symm {a b:Value} (h:Sep a b):Sep b a:=fun g hg e=>h g e hg
theorem Sep.nil (b:Value):Sep (.slice none 0 0) b:=fun g hg=>by simp [Value.ownBlock] at hg
theorem Acc.sep {a b c:Value} {w w':World} (h:Acc a w b w') (s:Sep a c) (hc:∀ g,c.ownBlock=some g→g<w.heap.size):Sep b c:=by
 intro g hg e
 rcases h.at_ with e' | e'
 ·exact s g (e' ▸ hg) e
 ·have:=e' g hg;have:=hc g e;omega
theorem Own.acc {k:IntKind} {e:TypeId} {base:Nat} {w w':World} {v a b:Value} {l:List Int} (h:Own k e base w v l) (x:Acc a w b w') (s:Sep a v):Own k e base w' v l :=
 h.only x.only (fun g hg=>s g (by simpa using hg))
/-- what an element of a row of coded frames is: its cells u0, u1; its data lies from base on, in no block of X -/
def CodedEl (base:Nat) (X:Nat→Prop) (w:World) (u0 u1:Option Value) (c:Coded):Prop :=
 u0=some (.int .i64 c.kind)∧InK .i64 c.kind∧∃ dv b,u1=some dv∧Ints .u8 b (b+1) w dv c.data∧(c.data≠[]→base≤b∧b<w.heap.size∧¬ X b)
theorem CodedEl.step {base base':Nat} {X X':Nat→Prop} {w w':World} {S:List Nat} {u0 u1:Option Value} {c:Coded} (h:CodedEl base X w u0 u1 c) (o:Only S w w') (hS:∀ b∈S,base≤b→X b) (hX:∀ b,X' b→base≤b→X b∨w.heap.size≤b) (hb:base'≤base):CodedEl base' X' w' u0 u1 c:=by
 obtain ⟨h0,h1,dv,b,h2,h3,h4⟩:=h
 refine ⟨h0,h1,dv,b,h2,?_,fun hne=>?_⟩
 ·by_cases hd:c.data=[]
  ·rw [hd] at h3 ⊢;exact h3.empty
  ·obtain ⟨hb1,_,hg⟩:=h4 hd
   refine h3.only o (fun x hx=>?_)
   have:x≠b:=by rintro rfl;exact hg (hS x hx hb1)
   omega
 ·obtain ⟨x,y,hg⟩:=h4 hne
  refine ⟨by omega,Nat.lt_of_lt_of_le y o.size,fun hx=>?_⟩
  rcases hX b hx x with h | h
  ·exact hg h
  ·omega
/-- an own row of coded frames; their data lies in no block of X, nor in the row's own -/
def OwnC (base:Nat) (w:World) (v:Value) (l:List Coded) (X:Nat→Prop):Prop :=
 ∃ xs,w.ownsRow base 83 2 v l.length xs∧(∀ u∈xs,u.oneCell'=true)∧(∀ g,v.ownBlock=some g→¬ X g)∧∀ i,i<l.length→CodedEl base (fun b=>v.ownBlock=some b∨X b) w xs[i*2]? xs[i*2+1]? (l.getD i default)
theorem OwnC.nil (base:Nat) (w:World) (X:Nat→Prop):OwnC base w (.slice none 0 0) [] X:=⟨[],World.ownsRow_nil _ _ _ _,by simp,by simp [Value.ownBlock],fun i h=>absurd h (by simp)⟩
/-- over what another call, or another row's growth, writes -/
theorem OwnC.step {base:Nat} {w w':World} {v:Value} {l:List Coded} {S:List Nat} {X X':Nat→Prop} (h:OwnC base w v l X) (o:Only S w w') (hS:∀ b∈S,base≤b→X b) (hX:∀ b,X' b→base≤b→X b∨w.heap.size≤b):OwnC base w' v l X':=by
 obtain ⟨xs,h1,h1',h3,h2⟩:=h
 refine ⟨xs,owns_only h1 o (fun g hg e=>h3 g e (hS g hg (h1.lt g e).1)),h1',fun g hg hx=>?_,fun i hi=>(h2 i hi).step o (fun b hb hbb=>.inr (hS b hb hbb)) (fun b hb hbb=>?_) (Nat.le_refl _)⟩
 ·have:=h1.lt g hg
  rcases hX g hx this.1 with h | h
  ·exact h3 g hg h
  ·omega
 ·rcases hb with hb | hb
  ·exact .inl (.inl hb)
  ·rcases hX b hb hbb with h | h
   ·exact .inl (.inr h)
   ·exact .inr h
theorem OwnC.quiet {base:Nat} {w w':World} {v:Value} {l:List Coded} {X:Nat→Prop} (h:OwnC base w v l X) (o:Only [] w w'):OwnC base w' v l X:=h.step o (by simp) (fun b hb _=>.inl hb)
theorem OwnC.only {base:Nat} {w w':World} {v:Value} {l:List Coded} {X:Nat→Prop} {S:List Nat} (h:OwnC base w v l X) (o:Only S w w') (hS:∀ x∈S,x<base):OwnC base w' v l X:=h.step o (fun b hb hbb=>by have:=hS b hb;omega) (fun b hb _=>.inl hb)
/-- another row has grown -/
theorem OwnC.other {base:Nat} {w w':World} {v a b:Value} {l:List Coded} {X X':Nat→Prop} (h:OwnC base w v l X) (x:Acc a w b w') (hS:∀ g,a.ownBlock=some g→X g) (hX:∀ g,X' g→X g∨b.ownBlock=some g):OwnC base w' v l X':=by
 refine h.step x.only (fun g hg _=>hS g (by simpa using hg)) (fun g hg hb=>?_)
 rcases hX g hg with h | h
 ·exact .inl h
 ·rcases x.at_ with e | e
  ·exact .inl (hS g (e ▸ h))
  ·exact .inr (e g h)
theorem OwnC.at {base:Nat} {w:World} {v:Value} {l:List Coded} {X:Nat→Prop} (h:OwnC base w v l X):∀ g,v.ownBlock=some g→base≤g∧g<w.heap.size:=by
 obtain ⟨xs,h1,_⟩:=h;exact h1.lt
theorem OwnC.lower {base base':Nat} {w:World} {v:Value} {l:List Coded} {X:Nat→Prop} (h:OwnC base w v l X) (hb:base'≤base):OwnC base' w v l X:=by
 obtain ⟨xs,h1,h1',h3,h2⟩:=h
 exact ⟨xs,owns_base h1 hb,h1',h3,fun i hi=>(h2 i hi).step (Only.refl [] w) (by simp) (fun b hb _=>.inl hb) hb⟩
theorem OwnC.sep {base:Nat} {w:World} {v y:Value} {l:List Coded} {X:Nat→Prop} (h:OwnC base w v l X) (hX:∀ b,y.ownBlock=some b→X b):Sep v y:=by
 obtain ⟨xs,_,_,h3,_⟩:=h
 exact fun g hg e=>h3 g hg (hX g e)
theorem OwnC.isSlice {base:Nat} {w:World} {v:Value} {l:List Coded} {X:Nat→Prop} (h:OwnC base w v l X):∃ a cap,v=.slice a l.length cap:=by
 obtain ⟨xs,h1,_⟩:=h
 obtain ⟨_,a,cap,rfl,_⟩:=Cells.of_own h1
 exact ⟨a,cap,rfl⟩
theorem OwnC.codeds {base:Nat} {w:World} {v:Value} {l:List Coded} {X:Nat→Prop} (h:OwnC base w v l X):CodedsAt base w.heap.size w v l:=by
 obtain ⟨xs,h1,_,_,h2⟩:=h
 have hl:=h1.1
 refine ⟨fun i j=>xs.getD (i*2+j) undef,Rows.of_own h1 (fun i j hi hj=>?_),fun i hi=>?_⟩
 ·have:i*2+j<xs.length:=by omega
  simp [this]
 ·obtain ⟨a,b,dv,c,d,e,f⟩:=h2 i hi
  refine ⟨?_,b,?_⟩
  ·show xs.getD (i*2+0) undef=_
   rw [Nat.add_zero,List.getD_eq_getElem?_getD,a];rfl
  ·show Ints .u8 base w.heap.size w (xs.getD (i*2+1) undef) _
   rw [List.getD_eq_getElem?_getD,d]
   by_cases hd:(l.getD i default).data=[]
   ·rw [hd] at e ⊢;exact e.empty
   ·have:=f hd
    exact e.mono (by omega) (by omega)
/-- one coded frame in a block just made -/
theorem OwnC.one {base:Nat} {w:World} {g:Nat} {k:Int} {data:List Int} {dv:Value} (hg:w.heap.size=g) (hk:InK .i64 k) (hd:Ints .u8 base w.heap.size w dv data) (hb:base≤w.heap.size) :
  OwnC base (w.alloc (.cells #[.int .i64 k,dv] 83)) (.slice (some ⟨g,0,none⟩) 1 1) [⟨k,data⟩] (fun b=>b<base):=by
 subst hg
 have hdv:dv.oneCell'=true:=by obtain ⟨a,cap,rfl,_⟩:=hd.open;rfl
 refine ⟨[.int .i64 k,dv],World.ownsRow_lit w _ 1 hb (by simp [maxLen]) rfl,?_,?_,fun i hi=>?_⟩
 ·intro u hu
  rcases List.mem_cons.1 hu with rfl | hu
  ·rfl
  ·rw [mSg.1 hu];exact hdv
 ·intro g hg;simp [Value.ownBlock] at hg;omega
 ·obtain rfl:i=0:=by simp at hi;omega
  obtain ⟨b,h1,h2⟩:=hd.tight
  refine ⟨rfl,hk,dv,b,rfl,h1.quiet (Only.new _ _),fun hne=>?_⟩
  have:=h2 hne
  exact ⟨this.1,by simp;omega,by simp [Value.ownBlock];omega⟩
theorem OwnC.joined {base base2:Nat} {w w':World} {v v':Value} {l m:List Coded} {X X2:Nat→Prop} {xs ys:List Value} (hxs:xs.length=l.length*2)
  (hX:∀ g,v.ownBlock=some g→¬ X g) (hXw:∀ g,X g→g<w.heap.size∧(g<base2∨X2 g))
  (h1:∀ i,i<l.length→CodedEl base (fun b=>v.ownBlock=some b∨X b) w xs[i*2]? xs[i*2+1]? (l.getD i default)) (h2:∀ i,i<m.length→CodedEl base2 X2 w ys[i*2]? ys[i*2+1]? (m.getD i default))
  (o1:∀ u∈xs,u.oneCell'=true) (o2:∀ u∈ys,u.oneCell'=true) (hb:base≤base2) (hb2:base2≤w.heap.size) (hv:∀ g,v.ownBlock=some g→g<base2) (hown:w'.ownsRow base 83 2 v' (l.length+m.length) (xs ++ ys)) (a:Acc v w v' w'):OwnC base w' v' (l ++ m) X:=by
 have hv':∀ b,v'.ownBlock=some b→v.ownBlock=some b∨w.heap.size≤b:=by
  intro b hb
  rcases a.at_ with e | e
  ·exact .inl (e ▸ hb)
  ·exact .inr (e b hb)
 refine ⟨xs ++ ys,by rw [List.length_append];exact hown,?_,?_,fun i hi=>?_⟩
 ·intro u hu
  rcases List.mem_append.1 hu with hu | hu
  ·exact o1 u hu
  ·exact o2 u hu
 ·intro g hg hx
  rcases hv' g hg with h | h
  ·exact hX g h hx
  ·have:=(hXw g hx).1;omega
 ·rw [List.length_append] at hi
  by_cases hil:i<l.length
  ·have e1:(xs ++ ys)[i*2]?=xs[i*2]?:=List.getElem?_append_left (by omega)
   have e2:(xs ++ ys)[i*2+1]?=xs[i*2+1]?:=List.getElem?_append_left (by omega)
   have e3:(l ++ m).getD i default=l.getD i default:=by simp [List.getD_eq_getElem?_getD,List.getElem?_append_left hil]
   rw [e1,e2,e3]
   refine (h1 i hil).step a.only (fun b hb _=>.inl (by simpa using hb)) (fun b hb _=>?_) (Nat.le_refl _)
   rcases hb with hb | hb
   ·exact (hv' b hb).imp .inl id
   ·exact .inl (.inr hb)
  ·have hj:i-l.length<m.length:=by omega
   have e1:(xs ++ ys)[i*2]?=ys[(i-l.length)*2]?:=by rw [List.getElem?_append_right (by omega)];congr 1;omega
   have e2:(xs ++ ys)[i*2+1]?=ys[(i-l.length)*2+1]?:=by rw [List.getElem?_append_right (by omega)];congr 1;omega
   have e3:(l ++ m).getD i default=m.getD (i-l.length) default:=by simp [List.getD_eq_getElem?_getD,List.getElem?_append_right (by omega:l.length≤i)]
   rw [e1,e2,e3]
   refine (h2 _ hj).step a.only (fun b hbS hbb=>?_) (fun b hbX hbb=>?_) hb
   ·have:=hv b (by simpa using hbS);omega
   ·rcases hbX with h | h
    ·rcases hv' b h with h | h
     ·have:=hv b h;omega
     ·exact .inr h
    ·rcases (hXw b h).2 with h' | h'
     ·omega
     ·exact .inl h'
section
variable {P:Program}
theorem wpList_append_coded {w:World} {ops:Array Oper} {rest:List Oper} {o:Oper} {a:Act} {Q:Exit→Act→World→Prop} (hgd:o.guard=none) (s x:Operand) (t:TypeId)
  (ho:o.op=.call { callee:=.builtin .append,args:=#[s,x],argTypes:=#[t,t] })
  {z:Value} {bytes base base2:Nat} {v sv:Value} {l m:List Coded} {X X2:Nat→Prop} (E:Elem P t 83 z 2 bytes)
  (hown:OwnC base w v l X) (hv:a.eval s=v) (hs:OwnC base2 w sv m X2) (hx:a.eval x=sv) (hb:base≤base2) (hvb:∀ g,v.ownBlock=some g→g<base2) (hXb:∀ g,X g→g<w.heap.size∧(g<base2∨X2 g))
  (hbytes:(l.length+m.length)*bytes≤140737488355328) (hbase:base2≤w.heap.size)
  (h:∀ v' w',OwnC base w' v' (l ++ m) X→Acc v w v' w'→wpList P ops Q rest (a.put o.dst v') w'):wpList P ops Q (o :: rest) a w:=by
 have hle:l.length+m.length≤140737488355328:=Nat.le_trans (Nat.le_mul_of_pos_right _ E.bp) hbytes
 obtain ⟨xs,h1,o1,h3,h2⟩:=hown
 obtain ⟨ys,k1,o2,k3,k2⟩:=hs
 refine wpList_append_cells hgd s x t ho E h1 hv (Cells.of_own k1) hx o2 (by simp only [maxLen];omega) hbytes (by omega) fun v' w' h2' h3' h4=>?_
 have ha:Acc v w v' w':=⟨h3',h4.imp id fun e g hg=>by rw [e] at hg;injection hg with hg;omega⟩
 exact h v' w' (OwnC.joined h1.1 h3 (fun g hg=>⟨(hXb g hg).1,(hXb g hg).2.imp id .inr⟩) h2 k2 o1 o2 hb hbase hvb h2' ha) ha
end
/-! ### entries -/
def flatE (l:List Entry):List Value:=l.flatMap Entry.cells
theorem flatE_at:∀ (l:List Entry) (i j:Nat),i<l.length→j<4→(flatE l)[i*4+j]?=some (entryF l i j)
 | [],_,_,h,_=>absurd h (by simp)
 | e :: l,0,j,_,hj=>by
  have e1:flatE (e :: l)=.int .i64 e.first :: .int .i64 e.count :: .int .i64 e.offset :: .int .i64 e.length :: flatE l:=rfl
  rw [e1]
  match j,hj with
  | 0,_ | 1,_ | 2,_ | 3,_=>rfl
 | e :: l,i+1,j,h,hj=>by
  have ih:=flatE_at l i j (by simpa using h) hj
  have e1:flatE (e :: l)=.int .i64 e.first :: .int .i64 e.count :: .int .i64 e.offset :: .int .i64 e.length :: flatE l:=rfl
  rw [e1,show (i+1)*4+j=(i*4+j)+4 by omega]
  simp only [List.getElem?_cons_succ,ih]
  simp [entryF]
def OwnE (base:Nat) (w:World) (v:Value) (l:List Entry):Prop:=w.ownsRow base 46 4 v l.length (flatE l)
theorem OwnE.entries {base:Nat} {w:World} {v:Value} {l:List Entry} (h:OwnE base w v l):EntriesAt base w.heap.size w v l:=Rows.of_own h (fun i j hi hj=>flatE_at l i j hi hj)
theorem flatE_append (l m:List Entry):flatE (l ++ m)=flatE l ++ flatE m:=by simp [flatE]
theorem flatE_one (l:List Entry):∀ u∈flatE l,u.oneCell'=true:=by
 intro u hu
 simp only [flatE,List.mem_flatMap,Entry.cells] at hu
 obtain ⟨e,_,hu⟩:=hu
 simp only [List.mem_cons,List.not_mem_nil,or_false] at hu
 rcases hu with rfl | rfl | rfl | rfl <;> rfl
theorem OwnE.only {base:Nat} {w w':World} {v:Value} {l:List Entry} {S:List Nat} (h:OwnE base w v l) (o:Only S w w') (hS:∀ g∈S,v.ownBlock≠some g):OwnE base w' v l:=owns_only h o hS
theorem OwnE.quiet {base:Nat} {w w':World} {v:Value} {l:List Entry} (h:OwnE base w v l) (o:Only [] w w'):OwnE base w' v l:=owns_only h o (by simp)
def endR (l:List Int) (p:Nat):Option Err :=
 if p<l.length then (match peekR l p with | .error e=>some e | .ok _=>some ⟨[],5⟩) else none
theorem rend_any {lo hi R p n:Nat} {bv:Value} {l:List Int} {w:World} (hr:Rd R bv w p n) (h:Ints .u8 lo hi w bv l) (hp:p≤l.length) :
  Calls Tryz.prog 48 #[.pointer (some ⟨R,0,none⟩)] w fun e w'=>∃ ev,e=.returned ev∧OErrV w.heap.size w'.heap.size w' ev (endR l p)∧Only [] w w':=by
 have H:=lh (peek_any hr h hp)
 have HR:=lh hr
 obtain ⟨a,cap,rfl,_⟩:=h.open
 have hll:=h.1.len_le
 unfold maxLen at hll
 clear hr h
 have hkeep:∀ w1 U,Only [] w w1→(w1.alloc U).cell? ⟨R,0,none⟩=some (.slice a l.length cap)∧(w1.alloc U).cell? ⟨R,1,none⟩=some (.int .i64 p):=fun w1 U o=>⟨(o.q (Only.new _ _)).cell HR.out.c0 (by simp),(o.q (Only.new _ _)).cell HR.out.c1 (by simp)⟩
 have HK:=lh hkeep
 clear hkeep
 by_cases hlt:p<l.length
 ·have hi1:(p:Int)<(l.length:Int):=by omega
  cases hres:peekR l p with
  | error er =>
   have hn:endR l p=some er:=by unfold endR;rw [if_pos hlt,hres]
   have Hn:=lh hn
   have Hres:=lh hres
   clear hn hres
   go_enter Tryz.func48,Tryz.ntmps48
   go_wp2_with (first | (go_at_call 89;refine H.out.mono ?_;rintro e w1 hP;rw [Hres.out] at hP;obtain ⟨hq,ev,rfl,hev⟩:=hP;obtain ⟨et,eu,rfl⟩:=hev.held;obtain ⟨d0,d1⟩:=HK.out w1 (.cells #[.int .i64 0,.slice none 0 0,.int .i64 0,.int .i64 0] 119) hq) | fail)
   go_quiet (fail)
   go_wp2_with fail
   go_ret
   refine ⟨_,rfl,?_,(hq.alloc _).drewN _⟩
   rw [Hn.out]
   exact (hev.quiet (((Only.refl _ _).alloc _).drewN _)).mono (Nat.le_refl _) (by simp)
  | ok u =>
   obtain ⟨uk,ud,ua,ue⟩:=u
   have hn:endR l p=some ⟨[],5⟩:=by unfold endR;rw [if_pos hlt,hres]
   have Hn:=lh hn
   have Hres:=lh hres
   clear hn hres
   go_enter Tryz.func48,Tryz.ntmps48
   go_wp2_with (first | (go_at_call 89;refine H.out.mono ?_;rintro e w1 hP;rw [Hres.out] at hP;obtain ⟨hq,dv,rfl,hdv⟩:=hP;obtain ⟨da,dcap,rfl,_⟩:=hdv.open;simp only;obtain ⟨d0,d1⟩:=HK.out w1 (.cells #[.int .i64 uk,.slice da ud.length dcap,.int .i64 ua,.int .i64 ue] 119) hq) | fail)
   go_quiet (fail)
   go_wp2_with fail
   go_ret
   refine ⟨_,rfl,?_,(hq.alloc _).drewN _⟩
   rw [Hn.out]
   rfl
 ·have hi1:¬ (p:Int)<(l.length:Int):=by omega
  have hpe:p=l.length:=by omega
  have hres:peekR l p=.error ⟨[],1⟩:=if_pos hpe
  have hn:endR l p=none:=if_neg hlt
  have Hn:=lh hn
  have Hres:=lh hres
  clear hn hres hpe
  go_enter Tryz.func48,Tryz.ntmps48
  go_wp2_with (first | (go_at_call 89;refine H.out.mono ?_;rintro e w1 hP;rw [Hres.out] at hP;obtain ⟨hq,ev,rfl,hev⟩:=hP;obtain ⟨et,eu,rfl⟩:=hev.held;obtain ⟨d0,d1⟩:=HK.out w1 (.cells #[.int .i64 0,.slice none 0 0,.int .i64 0,.int .i64 0] 119) hq) | fail)
  go_quiet (fail)
  go_wp2_with fail
  go_ret
  exact ⟨_,rfl,by rw [Hn.out];rfl,(hq.alloc _).drewN _⟩
theorem getD_nn {d:List Int} (hr:∀ x∈d,InK .u8 x) (i:Nat):0≤d.getD i 0:=by
 by_cases h:i<d.length
 ·have:InK .u8 (d.getD i 0):=by refine hr _ ?_;simp [h]
  exact this.1
 ·simp [List.getD_eq_getElem?_getD,List.getElem?_eq_none (Nat.le_of_not_lt h)]
theorem lenU_nn (d:List Int) (hr:∀ x∈d,InK .u8 x):0≤lenU d:=by
 have:=getD_nn hr 1;have:=getD_nn hr 2;have:=getD_nn hr 3
 unfold lenU;omega
theorem nextD_ok {d:List Int} {p:Nat} {u:UnitD} (h:nextD d p=.ok u) (hd:0<d.length) (hr:∀ x∈d,InK .u8 x):u.at_=p∧p<u.end_∧u.end_≤p+d.length∧0≤u.kind∧u.kind≤255∧u.data.length+p≤u.end_:=by
 have h0:InK .u8 (d.getD 0 0):=by refine hr _ ?_;simp [hd]
 unfold nextD at h
 split at h
 ·cases h;exact ⟨rfl,by simp,by simp;omega,by simp,by simp,by simp⟩
 split at h
 ·cases h
 split at h
 ·cases h
 split at h
 ·cases h
 split at h
 ·cases h
 cases h
 unfold InK at h0
 refine ⟨rfl,by simp;omega,by simp;have:=lenU_nn d hr;omega,h0.1,h0.2,?_⟩
 simp only [List.length_take]
 omega
theorem peekR_ok {l:List Int} {p:Nat} {u:UnitD} (h:peekR l p=.ok u) (hp:p≤l.length) (hr:∀ x∈l,InK .u8 x):u.at_=p∧p<u.end_∧u.end_≤l.length∧0≤u.kind∧u.kind≤255∧u.data.length+p≤u.end_:=by
 unfold peekR at h
 split at h
 ·cases h
 have:=nextD_ok h (by rw [List.length_drop];omega) (fun x hx=>hr x (List.mem_of_mem_drop hx))
 rw [List.length_drop] at this
 omega
def consF (c:Coded) (z:Nat) (r:(Except Err (List Coded×List Int))×Nat×Nat):(Except Err (List Coded×List Int))×Nat×Nat :=
 (match r.1 with | .ok x=>.ok (c :: x.1,(z:Int) :: x.2) | .error e=>.error e,r.2)
def framesR (l:List Int):Nat→Nat→Nat→Nat→(Except Err (List Coded×List Int))×Nat×Nat
 | 0,_,p,n=>(.ok ([],[]),p,n)
 | c+1,i,p,n =>
  match peekR l p with
  | .error e=>(.error e,p,n)
  | .ok u =>
   if u.kind<1∨4<u.kind∨(i=0∧u.kind≠1∧u.kind≠4) then (.error ⟨[],2⟩,p,n)
   else match readB ⟨u.kind,u.data⟩ with
    | some k=>(.error ⟨[],k⟩,p,n)
    | none=>consF ⟨u.kind,u.data⟩ (zeros (l.drop u.end_)) (framesR l c (i+1) (u.end_+zeros (l.drop u.end_)) (n+1+zeros (l.drop u.end_)))
def preF (cs:List Coded) (fs:List Int) (r:(Except Err (List Coded×List Int))×Nat×Nat):(Except Err (List Coded×List Int))×Nat×Nat :=
 (match r.1 with | .ok x=>.ok (cs ++ x.1,fs ++ x.2) | .error e=>.error e,r.2)
theorem preF_nil (r:(Except Err (List Coded×List Int))×Nat×Nat):preF [] [] r=r:=by
 obtain ⟨a,b⟩:=r
 cases a <;> rfl
theorem preF_cons (cs:List Coded) (fs:List Int) (c:Coded) (z:Nat) (r:(Except Err (List Coded×List Int))×Nat×Nat):preF cs fs (consF c z r)=preF (cs ++ [c]) (fs ++ [(z:Int)]) r:=by
 obtain ⟨a,b⟩:=r
 cases a <;> simp [preF,consF]
/-- what frames hands back -/
def RFramesP (R:Nat) (bv:Value) (w:World) (r:(Except Err (List Coded×List Int))×Nat×Nat) (e:Ending) (w':World):Prop :=
 Only [R] w w'∧Rd R bv w' r.2.1 r.2.2∧match r.1 with
  | .ok x=>∃ cv fv,e=.returned (.tuple #[cv,fv,.nilIface])∧OwnC w.heap.size w' cv x.1 (fun b=>fv.ownBlock=some b)∧Own .i64 3 w.heap.size w' fv x.2
  | .error er=>∃ ev,e=.returned (.tuple #[.slice none 0 0,.slice none 0 0,ev])∧ErrV w.heap.size w'.heap.size w' ev er
theorem qRdG0 {p:Prop} (h:p:=by
 go_wp2_with (first | (go_at_call 89;refine H.out.mono ?_;rintro e w1 hP;rw [Hres.out] at hP;obtain ⟨hq,dv,rfl,hdv⟩:=hP;obtain ⟨da,dcap,rfl,_⟩:=hdv.open;simp only) | fail)
 refine bodyPost_ret (v:=.tuple #[.slice none 0 0,.slice none 0 0,.iface 29 (.int .i64 2)]) (by simp [results,Tryz.results47,go_sem]) rfl ?_
 unfold RFramesP
 rw [Hfin.out]
 exact ⟨(HO.out.trans hq (U:=[R]) (fun g h _=>h) (by simp)).alloc _,(HRd.out.quiet hq).quiet (Only.new _ _),_,rfl,rfl⟩):p:=h
theorem rframes_any {lo hi R p n:Nat} {bv:Value} {l:List Int} {w:World} (count:Nat) (hr:Rd R bv w p n) (h:Ints .u8 lo hi w bv l) (hR:hi≤R) (hp:p≤l.length) (hn:n≤p) (hl:l.length≤1000000000000) (hc:count≤1000000) :
  Calls Tryz.prog 47 #[.pointer (some ⟨R,0,none⟩),.int .i64 count] w (RFramesP R bv w (framesR l count 0 p n)):=by
 have hRl:=hr.lt
 have Hh:=lh h
 have Hr8:=lh h.2
 have Hl:=lh hl
 have Hc:=lh hc
 clear h hl
 go_enter Tryz.func47,Tryz.ntmps47
 go_wp2
 go_loopw [16,7,8] (fun i x y wr=>∃ (k q m:Nat) (cs:List Coded) (fs:List Int),k≤count∧i=.int .i64 k∧q≤l.length∧m≤q∧cs.length=k∧fs.length=k∧Hid (preF cs fs (framesR l (count-k) k q m)=framesR l count 0 p n)∧Rd R bv wr q m ∧
  OwnC w.heap.size wr x cs (fun b=>y.ownBlock=some b)∧Own .i64 3 w.heap.size wr y fs∧From w.heap.size x∧From w.heap.size y∧Only [R] w wr) (fun i _ _ _=>count-(intOf i).toNat)
 case atStart=>exact ⟨0,p,n,[],[],by omega,rfl,hp,hn,rfl,rfl,lh (preF_nil _),hr,OwnC.nil _ _ _,Own.nil _ _ _ _,From.nil _,From.nil _,Only.refl _ _⟩
 case round =>
  obtain ⟨k,q,m,cs,fs,hk,rfl,hq1,hm1,hcl,hfl,Hk,hrd,hoc,hof,hfx,hfy,hO⟩:=hrel
  clear hp hn hr
  by_cases hlt:k<count
  ·obtain ⟨g,hg⟩:∃ g,count-k=g+1:=⟨count-k-1,by omega⟩
   have Hg:=lh hg
   have hlti:(k:Int)<(count:Int):=by omega
   have hk0:(0:Int)≤(k:Int):=by omega
   have hbv:=Hh.out.only hO (by intro g hg;rw [mSg] at hg;omega)
   have H:=lh (peek_any hrd hbv hq1)
   have HRd:=lh hrd
   have HOC:=lh hoc
   have HOF:=lh hof
   have HO:=lh hO
   have Hcl:=lh hcl
   have Hfl:=lh hfl
   clear hg hrd hoc hof hO hcl hfl hbv
   cases hres:peekR l q with
   | error er =>
    have hfin:framesR l count 0 p n=(.error er,q,m):=by rw [← Hk.out,Hg.out,framesR,hres];rfl
    have Hfin:=lh hfin
    have Hres:=lh hres
    clear hfin hres
    go_wp2_with (first | (go_at_call 89;refine H.out.mono ?_;rintro e w1 hP;rw [Hres.out] at hP;obtain ⟨hq,ev,rfl,hev⟩:=hP;obtain ⟨et,eu,rfl⟩:=hev.held) | fail)
    refine bodyPost_ret (v:=.tuple #[.slice none 0 0,.slice none 0 0,.iface et eu]) (by simp [results,Tryz.results47,go_sem]) rfl ?_
    unfold RFramesP
    rw [Hfin.out]
    have hz:=HO.out.size
    exact ⟨(HO.out.trans hq (U:=[R]) (fun g h _=>h) (by simp)).alloc _,(HRd.out.quiet hq).quiet (Only.new _ _),_,rfl,(hev.quiet (Only.new _ _)).mono hz (by simp)⟩
   | ok u =>
    obtain ⟨uk,ud,ua,ue⟩:=u
    have hpk:=peekR_ok hres hq1 Hr8.out
    simp only at hpk
    obtain ⟨rfl,hue1,hue2,huk0,huk1,hud⟩:=hpk
    have Hres:=lh hres
    clear hres
    by_cases hbad:uk<1∨4<uk∨(k=0∧uk≠1∧uk≠4)
    ·have hfin:framesR l count 0 p n=(.error ⟨[],2⟩,ua,m):=by rw [← Hk.out,Hg.out,framesR,Hres.out];simp only;rw [if_pos hbad];rfl
     have Hfin:=lh hfin
     clear hfin
     have h3:uk<1∨(¬ uk<1∧4<uk)∨(¬ uk<1∧¬ 4<uk∧((k:Int) == 0)=true∧(uk != 1)=true∧(uk != 4)=true):=by
      by_cases h1:uk<1
      ·exact .inl h1
      by_cases h2:4<uk
      ·exact .inr (.inl ⟨h1,h2⟩)
      rcases hbad with h | h | ⟨h,h',h''⟩
      ·exact absurd h h1
      ·exact absurd h h2
      ·exact .inr (.inr ⟨h1,h2,by subst h;rfl,by simpa using h',by simpa using h''⟩)
     clear hbad
     rcases h3 with h1 | ⟨h1,h2⟩ | ⟨h1,h2,h4,h5,h6⟩
     ·exact qRdG0
     ·exact qRdG0
     ·exact qRdG0
    ·have hgood:¬ uk<1∧¬ 4<uk∧((((k:Int) == 0)=false)∨(((k:Int) == 0)=true∧(uk != 1)=false)∨(((k:Int) == 0)=true∧(uk != 1)=true∧(uk != 4)=false)):=by
      refine ⟨fun h=>hbad (.inl h),fun h=>hbad (.inr (.inl h)),?_⟩
      by_cases h0:k=0
      ·by_cases h1:uk=1
       ·exact .inr (.inl ⟨by simp [h0],by simp [h1]⟩)
       ·by_cases h4:uk=4
        ·exact .inr (.inr ⟨by simp [h0],by simp [h1],by simp [h4]⟩)
        ·exact absurd (.inr (.inr ⟨h0,h1,h4⟩)) hbad
      ·exact .inl (by simp;omega)
     have hukk:InK .i64 uk:=by unfold InK;omega
     have hstep:framesR l count 0 p n=preF cs fs (match readB ⟨uk,ud⟩ with
      | some k=>(.error ⟨[],k⟩,ua,m)
      | none=>consF ⟨uk,ud⟩ (zeros (l.drop ue)) (framesR l g (k+1) (ue+zeros (l.drop ue)) (m+1+zeros (l.drop ue)))):=by
      rw [← Hk.out,Hg.out,framesR,Hres.out];simp only;rw [if_neg hbad]
     obtain ⟨hg1,hg2,hg3⟩:=hgood
     have HRead:=lh (fun (w1:World) (dv:Value) (W2:World) (hdv:Ints .u8 wr.heap.size w1.heap.size w1 dv ud) (o:Only [] w1 W2)=>read_any (k:=uk) (hdv.quiet o))
     clear hbad
     cases hrb:readB ⟨uk,ud⟩ with
     | some kc =>
      have hfin:framesR l count 0 p n=(.error ⟨[],kc⟩,ua,m):=by rw [hstep,hrb];rfl
      have Hfin:=lh hfin
      have Hrb:=lh hrb
      clear hfin hstep hrb
      rcases hg3 with h1 | ⟨h1,h2⟩ | ⟨h1,h2,h3⟩
      all_goals
       go_wp2_with (first | (go_at_call 89;refine H.out.mono ?_;rintro e w1 hP;rw [Hres.out] at hP;obtain ⟨hq,dv,rfl,hdv⟩:=hP;obtain ⟨da,dcap,rfl,_⟩:=hdv.open;simp only;have Hdv:=lh hdv;clear hdv) | (go_at_call 49;refine (HRead.out w1 _ _ Hdv.out ((Only.new _ _).q (Only.new _ _))).mono ?_;rintro e w2 hP;unfold HeadOr at hP;rw [Hrb.out] at hP;obtain ⟨hq2,rfl⟩:=hP) | fail)
       refine bodyPost_ret (v:=.tuple #[.slice none 0 0,.slice none 0 0,.iface 29 (.int .i64 kc)]) (by simp [results,Tryz.results47,go_sem]) rfl ?_
       unfold RFramesP
       rw [Hfin.out]
       have hqa:Only [] wr w2:=hq.q (((Only.new _ _).q (Only.new _ _)).q hq2)
       exact ⟨(HO.out.trans hqa (U:=[R]) (fun g h _=>h) (by simp)).alloc _,(HRd.out.quiet hqa).quiet (Only.new _ _),_,rfl,rfl⟩
     | none =>
      have hfin:framesR l count 0 p n=preF cs fs (consF ⟨uk,ud⟩ (zeros (l.drop ue)) (framesR l g (k+1) (ue+zeros (l.drop ue)) (m+1+zeros (l.drop ue)))):=by rw [hstep,hrb]
      have Hfin:=lh hfin
      have Hrb:=lh hrb
      clear hfin hstep hrb
      rcases hg3 with h1 | ⟨h1,h2⟩ | ⟨h1,h2,h3⟩
      all_goals
       go_wp2_with (first
        | (go_at_call 89;refine H.out.mono ?_;rintro e w1 hP;rw [Hres.out] at hP;obtain ⟨hq,dv,rfl,hdv⟩:=hP;obtain ⟨da,dcap,rfl,_⟩:=hdv.open;simp only;have Hdv:=lh hdv;clear hdv)
        | (go_at_call 49;refine (HRead.out w1 _ _ Hdv.out ((Only.new _ _).q (Only.new _ _))).mono ?_;rintro e w2 hP;unfold HeadOr at hP;rw [Hrb.out] at hP;obtain ⟨hq2,dv2,rfl,hdv2⟩:=hP;obtain ⟨da2,dcap2,rfl,_⟩:=hdv2.open;clear hdv2;simp only;have rU:=hq2.rowAt ((Below.heap_alloc _ _ _ (by simp)).trans (heap_alloc_new w1 _)) (by simp);have rC:=hq2.rowAt (heap_alloc_new' (g:=w1.heap.size+1) (by simp)) (by simp);obtain ⟨y0,y1,y2,y3⟩:=row4_cells rU;have v0:=(fun o=>(Only.new w2 o).cell y0 (by simp));have v1:=(fun o=>(Only.new w2 o).cell y1 (by simp));have v2:=(fun o=>(Only.new w2 o).cell y2 (by simp));have v3:=(fun o=>(Only.new w2 o).cell y3 (by simp));have RC:=lh rC;clear rU rC y0 y1 y2 y3)
        | (go_at_call 46;refine (pass_any _ _ _ _ _ (n:=m) (e_:=ue) (HRd.out.quiet ((hq.q (((Only.new _ _).q (Only.new _ _)).q hq2)).q (Only.new _ _))) (by have:=Hl.out;omega)).mono ?_;rintro e w3 ⟨rfl,hr3,hq3⟩;have hz1:=hq.size;have rC3:=hq3.rowAt ((Only.new w2 _).rowAt RC.out (by simp)) (by simp;have:=HRd.out.lt;omega);have c0:w3.cell? ⟨w1.heap.size+1,0,none⟩=some (.int .i64 uk):=(by rw [cell_of_row _ _ _ _ _ _ rC3];rfl);have c1:w3.cell? ⟨w1.heap.size+1,1,none⟩=some (.slice da ud.length dcap):=(by rw [cell_of_row _ _ _ _ _ _ rC3];rfl);clear rC3;have Hr3:=lh hr3;clear hr3;have hO3:Only [R] wr w3:=(((hq.q (((Only.new _ _).q (Only.new _ _)).q hq2)).q (Only.new _ _)).mono (U:=[R]) (by simp)).trans hq3 (fun g h _=>h) (fun g h _=>h);have hO3a:=hO3.alloc (.cells #[.int .i64 uk,.slice da ud.length dcap] 83);have hocA:=HOC.out.only hO3a (by intro g hg;rw [mSg] at hg;omega);have hdv3:Ints .u8 wr.heap.size w3.heap.size w3 (.slice da ud.length dcap) ud:=(Hdv.out.only ((((((Only.new _ _).q (Only.new _ _)).q hq2).q (Only.new _ _)).mono (U:=[R]) (by simp)).trans hq3 (U:=[R]) (fun g h _=>h) (fun g h _=>h)) (by intro g hg;rw [mSg] at hg;have:=HRd.out.lt;omega)).mono (Nat.le_refl _) (by have:=hO3.size;have:=hq2.size;have:=hq3.size;simp at *;omega);have hone:=OwnC.one (g:=w3.heap.size) rfl hukk hdv3 hO3.size;have hvb:=(fun g hg=>(HOC.out.at g hg).2);have hXb:=(fun g (hg:u8.ownBlock=some g)=>(⟨Nat.lt_of_lt_of_le (HOF.out.at g hg).2 hO3a.size,Or.inl (HOF.out.at g hg).2⟩:g<(w3.alloc (.cells #[.int .i64 uk,.slice da ud.length dcap] 83)).heap.size∧(g<wr.heap.size∨g<wr.heap.size)));have hby:(cs.length+1)*32≤140737488355328:=(by have:=Hcl.out;omega);have hba:wr.heap.size≤(w3.alloc (.cells #[.int .i64 uk,.slice da ud.length dcap] 83)).heap.size:=hO3a.size)
        | (at_builtin;refine wpList_append_coded rfl (.tmp 66) (.tmp 68) 47 rfl EC hocA rfl hone rfl HO.out.size hvb hXb hby hba (fun v1 w4 hoc4 hacc4=>?_);have Hoc4:=lh hoc4;have Hacc4:=lh hacc4;clear hoc4 hacc4 hocA hone hvb hXb hdv3;have hO4:Only [R] w w4:=(HO.out.trans hO3a (U:=[R]) (fun g h _=>h) (fun g h _=>h)).trans Hacc4.out.only (fun g h _=>h) (fun g hg hlt=>absurd hlt (by have:=hfx g (by simpa using hg);omega));have hr4:=(Hr3.out.quiet (Only.new _ _)).only Hacc4.out.only (fun hg=>by have:=hfx R (by simpa using hg);omega);have hI4:=Hh.out.only hO4 (by intro g hg;rw [mSg] at hg;omega);have hof4:=(HOF.out.only hO3a (by intro g hg;rw [mSg] at hg;subst hg;exact fun e=>by have:=hfy _ e;omega)).acc Hacc4.out (HOC.out.sep (fun b h=>h));have HF:=lh (rfills_any hr4 hI4 hR hue2 (by have:=Hl.out;omega) Hl.out);have Hof4:=lh hof4;clear hr4 hI4 hof4)
        | (go_at_call 90;refine HF.out.mono ?_;rintro e w5 ⟨rfl,hr5,hq5⟩;have hzz:=zeros_le (l.drop ue);rw [List.length_drop] at hzz;generalize hzq:zeros (l.drop ue)=z at *;have Hzq:=lh hzq;clear hzq;have Hr5:=lh hr5;clear hr5;have hof5:=(Hof4.out.only hq5 (by intro g hg;rw [mSg] at hg;subst hg;exact fun e=>by have:=hfy _ e;omega)).quiet (Only.new _ (.cells #[.int .i64 z] 3));have hsrc:=ints_newG (k:=.i64) (w:=w5) (t:=3) (l:=[(z:Int)]) rfl (by simp [maxLen]) (by simp only [mSg,forall_eq,InK];have:=Hl.out;omega) 1 rfl rfl;have hby2:(fs.length+[(z:Int)].length)*8≤140737488355328:=(by have:=Hfl.out;simp only [List.length_singleton];omega);have hba2:w.heap.size≤(w5.alloc (.cells #[.int .i64 z] 3)).heap.size:=(by have:=hO4.size;have:=hq5.size;simp;omega))
        | (at_builtin;refine wpList_append_ints rfl (.tmp 70) (.tmp 73) 48 rfl EI hof5 rfl hsrc rfl hby2 hba2 (fun v2 w6 hof6 hacc6=>?_);have Hof6:=lh hof6;have Hacc6:=lh hacc6;clear hof6 hacc6)
        | fail)
       go_roundw
       case rel =>
        have hO5:=hq5.alloc (.cells #[.int .i64 z] 3)
        have hfin2:Hid (preF (cs ++ [⟨uk,ud⟩]) (fs ++ [(z:Int)]) (framesR l (count-(k+1)) (k+1) (ue+z) (m+1+z))=framesR l count 0 p n):=lh (by
         rw [Hfin.out,preF_cons];congr 2;have:=Hg.out;omega)
        have hocB:=(Hoc4.out.only hO5 (by intro g hg;rw [mSg] at hg;omega)).other Hacc6.out (fun g hg=>hg) (fun g hg=>.inr hg)
        have hO6:Only [R] w w6:=(hO4.trans hO5 (U:=[R]) (fun g h _=>h) (fun g h _=>h)).trans Hacc6.out.only (fun g h _=>h) (fun g hg hlt=>absurd hlt (by have:=hfy g (by simpa using hg);omega))
        have hr6:=(Hr5.out.quiet (Only.new _ _)).only Hacc6.out.only (fun hg=>by have:=hfy R (by simpa using hg);omega)
        have hsz4:=hO4.size
        have hsz3:=hO3a.size
        have hszO:=HO.out.size
        refine ⟨k+1,ue+z,m+1+z,cs ++ [⟨uk,ud⟩],fs ++ [(z:Int)],by omega,by go_num,by omega,by omega,by have:=Hcl.out;simp;omega,by have:=Hfl.out;simp;omega,hfin2,hr6,hocB,Hof6.out,Hacc4.out.from_ hfx (by omega),Hacc6.out.from_ hfy hba2,hO6⟩
       case measure=>simp [intOf];omega
  ·obtain rfl:k=count:=by omega
   have hx:¬ (k:Int)<(k:Int):=by omega
   have hfin:framesR l k 0 p n=(.ok (cs,fs),q,m):=by rw [← Hk.out,Nat.sub_self];simp [framesR,preF]
   have Hfin:=lh hfin
   clear hfin
   obtain ⟨ca,ccap,rfl⟩:=hoc.isSlice
   go_wp2
   refine bodyPost_ret (v:=.tuple #[.slice ca cs.length ccap,u8,.nilIface]) (by simp [results,Tryz.results47,go_sem,hcl]) rfl ?_
   unfold RFramesP
   rw [Hfin.out]
   exact ⟨hO,hrd,_,_,rfl,hoc,hof⟩
end Go.Proofs.YtmdobcffijnaoaaGreatDoor
