/- Joined texts: OwnC, Next, Rd, RdN, ReadG, RdP, RdF, RdG. Conditions: each part names its own. -/
import Derived.Test.YtkigikallkpbcaaGreatDoorT1
import Derived.Test.YtkigikallkpbcaaGreatDoorC1
import Derived.Test.YtkigikallkpbcaaGreatDoorC3
import Derived.Test.YtkigikallkpbcaaGreatDoorC4
namespace Go.Proofs.YtkigikallkpbcaaGreatDoor
open Go.RowKit
set_option linter.unusedVariables false
set_option linter.unusedSimpArgs false
set_option maxRecDepth 100000
set_option maxHeartbeats 16000000
theorem Ints.empty {k:IntKind} {lo hi lo' hi':Nat} {w w':World} {v:Value} (h:Ints k lo hi w v []):Ints k lo' hi' w' v []:=by
 obtain ⟨⟨h1,a,c,e,h3,h4,h5⟩,hk⟩:=h
 exact ⟨⟨h1,a,c,e,h3,h4,fun hn=>absurd hn (by simp)⟩,hk⟩
theorem Ints.tight {k:IntKind} {lo hi:Nat} {w:World} {v:Value} {l:List Int} (h:Ints k lo hi w v l):∃ b,Ints k b (b+1) w v l∧(l≠[]→lo≤b∧b<hi):=by
 by_cases hl:l=[]
 ·subst hl;exact ⟨0,h.empty,fun h=>absurd rfl h⟩
 ·obtain ⟨⟨h1,a,c,e,h3,h4,h5⟩,hk⟩:=h
  have hp:0<l.length:=List.length_pos_iff.2 hl
  obtain ⟨b,off,e2,x,y,hc⟩:=h5 hp
  exact ⟨b,⟨⟨h1,a,c,e,h3,h4,fun _=>⟨b,off,e2,Nat.le_refl _,by omega,hc⟩⟩,hk⟩,fun _=>⟨x,y⟩⟩
section
variable {P:Program}
end
/-! ### entries -/
def sUnit:ByteArray:=⟨#[117,110,105,116]⟩
structure UnitD where
 kind:Int
 data:List Int
 at_:Nat
 end_:Nat
 deriving DecidableEq,Inhabited
/-- how many bytes the unit's head says -/
def lenU (d:List Int):Int:=d.getD 1 0*65536+d.getD 2 0*256+d.getD 3 0
def sumU (d:List Int) (n:Nat):Int:=d.getD (4+n) 0*16777216+d.getD (5+n) 0*65536+d.getD (6+n) 0*256+d.getD (7+n) 0
def nextD (d:List Int) (at_:Nat):Except Err UnitD :=
 if d.getD 0 0=0 then .ok ⟨0,[],at_,at_+1⟩
 else if d.length<4 then .error ⟨[(sUnit,at_)],1⟩
 else if 65536<lenU d then .error ⟨[(sUnit,at_)],5⟩
 else if (d.length:Int)-8<lenU d then .error ⟨[(sUnit,at_)],1⟩
 else if (crc (d.take (4+(lenU d).toNat)):Int)≠sumU d (lenU d).toNat then .error ⟨[(sUnit,at_)],4⟩
 else .ok ⟨d.getD 0 0,(d.drop 4).take (lenU d).toNat,at_,at_+(8+(lenU d).toNat)⟩
def NextP (w:World) (r:Except Err UnitD) (e:Ending) (w':World):Prop :=
 Only [] w w'∧match r with
  | .ok u=>∃ dv,e=.returned (.tuple #[.agg #[.int .i64 u.kind,dv,.int .i64 u.at_,.int .i64 u.end_],.nilIface])∧Ints .u8 w.heap.size w'.heap.size w' dv u.data
  | .error er=>∃ ev,e=.returned (.tuple #[.agg #[.int .i64 0,.slice none 0 0,.int .i64 0,.int .i64 0],ev])∧ErrV w.heap.size w'.heap.size w' ev er
theorem next1_any (c:Int) (p:Addr) (n:Int) (w:World) (h:w.cell? p=some (.int .i64 n)) :
  Calls Tryz.prog 97 #[.int .i64 c,.pointer (some p)] w fun e w'=>∃ ev,e=.returned (.tuple #[.agg #[.int .i64 0,.slice none 0 0,.int .i64 0,.int .i64 0],ev])∧ErrV w.heap.size w'.heap.size w' ev ⟨[(sUnit,n)],c⟩∧Only [] w w':=by
 have h2:=fun o=>(Only.new w o).cell h (by simp)
 have hh:=lh h
 clear h
 go_enter Tryz.func97,Tryz.ntmps97
 go_wp2_with (first | (go_at_call 53;refine (inc_any _ _ _ _).mono ?_;rintro e w1 ⟨ev,rfl,hev,hq⟩;obtain ⟨et,eu,rfl⟩:=hev.held;have hr:=(hq.block w.heap.size (by simp) (by simp)).trans (heap_alloc_new _ _);have z0:=frozen_of_row w1 w.heap.size 0 _ _ hr;have z1:=frozen_of_row w1 w.heap.size 1 _ _ hr;have z2:=frozen_of_row w1 w.heap.size 2 _ _ hr;have z3:=frozen_of_row w1 w.heap.size 3 _ _ hr;have m0:w1.cell? ⟨w.heap.size,0,none⟩=some (.int .i64 0):=(by rw [cell_of_row _ _ _ _ _ _ hr];rfl);have m1:w1.cell? ⟨w.heap.size,1,none⟩=some (.slice none 0 0):=(by rw [cell_of_row _ _ _ _ _ _ hr];rfl);have m2:w1.cell? ⟨w.heap.size,2,none⟩=some (.int .i64 0):=(by rw [cell_of_row _ _ _ _ _ _ hr];rfl);have m3:w1.cell? ⟨w.heap.size,3,none⟩=some (.int .i64 0):=(by rw [cell_of_row _ _ _ _ _ _ hr];rfl)) | fail)
 refine bodyPost_ret (v:=.tuple #[.agg #[.int .i64 0,.slice none 0 0,.int .i64 0,.int .i64 0],.iface et eu]) (by simp [results,Tryz.results97,go_sem,m0,m1,m2,m3,World.cell?_setCell_other]) rfl ?_
 have hA:Only [] w w1:=(Only.new _ _).q hq
 have hS:∀ u0 u1 u2 u3,Only [w.heap.size] w1 ((((w1.setCell ⟨w.heap.size,0,none⟩ u0).setCell ⟨w.heap.size,1,none⟩ u1).setCell ⟨w.heap.size,2,none⟩ u2).setCell ⟨w.heap.size,3,none⟩ u3):=fun _ _ _ _=>((((Only.refl _ _).setCell (by simp) _).setCell (by simp) _).setCell (by simp) _).setCell (by simp) _
 refine ⟨_,rfl,(ErrV.only hev (hS _ _ _ _) (by simp)).mono (by simp) (hS _ _ _ _).size,hA.trans (hS _ _ _ _) (by simp) (by simp)⟩
theorem getD_drop {l:List Int} {a i:Nat}:(l.drop a).getD i 0=l.getD (a+i) 0:=by simp [List.getD_eq_getElem?_getD]
theorem NextP.bad {w w':World} {r:Except Err UnitD} {er:Err} {e:Ending} {ev:Value} (hr:r=.error er) (o:Only [] w w') (he:e=.returned (.tuple #[.agg #[.int .i64 0,.slice none 0 0,.int .i64 0,.int .i64 0],ev])) (h:ErrV w.heap.size w'.heap.size w' ev er):NextP w r e w':=by
 unfold NextP;rw [hr];exact ⟨o,ev,he,h⟩
theorem i64_or16 {x y:Int} (h0:0≤x) (h1:x<256) (h2:0≤y) (h3:y<256):bits .or .i64 (x*65536) (y*256)=x*65536+y*256 :=
 bits_join .i64 63 (by decide) wraps_i64 16 (x*65536) (y*256) (by omega) (by omega) (by omega) (by omega) (by omega) (by omega)
theorem i64_or24 {x y z:Int} (h0:0≤x) (h1:x<256) (h2:0≤y) (h3:y<256) (h4:0≤z) (h5:z<256):bits .or .i64 (x*65536+y*256) z=x*65536+y*256+z :=
 bits_join .i64 63 (by decide) wraps_i64 8 (x*65536+y*256) z (by omega) (by omega) (by omega) (by omega) (by omega) (by omega)
theorem wraps_u32 (n:Int) (h₀:0≤n) (h₁:n<2 ^ 32):IntKind.u32.wrap n=n:=by simp [IntKind.wrap,IntKind.bits,IntKind.signed];omega
theorem u32_j1 {x y:Int} (h0:0≤x) (h1:x<256) (h2:0≤y) (h3:y<256):bits .or .u32 (x*16777216) (y*65536)=x*16777216+y*65536 :=
 bits_join .u32 32 (by decide) wraps_u32 24 _ _ (by omega) (by omega) (by omega) (by omega) (by omega) (by omega)
theorem u32_j2 {x y z:Int} (h0:0≤x) (h1:x<256) (h2:0≤y) (h3:y<256) (h4:0≤z) (h5:z<256):bits .or .u32 (x*16777216+y*65536) (z*256)=x*16777216+y*65536+z*256 :=
 bits_join .u32 32 (by decide) wraps_u32 16 _ _ (by omega) (by omega) (by omega) (by omega) (by omega) (by omega)
theorem u32_j3 {x y z t:Int} (h0:0≤x) (h1:x<256) (h2:0≤y) (h3:y<256) (h4:0≤z) (h5:z<256) (h6:0≤t) (h7:t<256):bits .or .u32 (x*16777216+y*65536+z*256) t=x*16777216+y*65536+z*256+t :=
 bits_join .u32 32 (by decide) wraps_u32 8 _ _ (by omega) (by omega) (by omega) (by omega) (by omega) (by omega)
theorem qNext0 {p:Prop} (h:p:=by
 clear hr
 go_enter Tryz.func71,Tryz.ntmps71
 go_wp2_with fail
 go_quiet (fail)
 generalize hW3:World.drewN _ _=W3
 have hqD:Only [] ((w.alloc (.cells #[.int .i64 p] 3)).alloc (.cells #[.int .i64 0,.slice none 0 0,.int .i64 0,.int .i64 0] 105)) W3:=by rw [← hW3];exact (Only.refl _ _).drewN _
 have cP3:=hqD.cell cP (by simp)
 have n03:=hqD.cell n0 (by simp)
 have n13:=hqD.cell n1 (by simp)
 have n23:=hqD.cell n2 (by simp)
 have n33:=hqD.cell n3 (by simp)
 have z03:=(hqD.frozen hzN (by simp)).trans z0
 have z13:=(hqD.frozen hzN (by simp)).trans z1
 have z23:=(hqD.frozen hzN (by simp)).trans z2
 have z33:=(hqD.frozen hzN (by simp)).trans z3
 have hzN3:w.heap.size+1<W3.heap.size:=by have:=hqD.size;omega
 have cb03:=hqD.cell cb (by simp)
 have hqE:=HO.out.q hqD
 clear hW3 cP n0 n1 n2 n3 z0 z1 z2 z3 cb cb1 cb2 cb3
 go_wp2_with (first | (go_at_call 97;refine (next1_any _ _ p _ cP3).mono ?_;rintro e w3 ⟨ev,rfl,hev,hq3⟩;obtain ⟨et,eu,rfl⟩:=hev.held;have m0:=hq3.cell n03 (by simp);have m1:=hq3.cell n13 (by simp);have m2:=hq3.cell n23 (by simp);have m3:=hq3.cell n33 (by simp);have k0:=(hq3.frozen hzN3 (by simp)).trans z03;have k1:=(hq3.frozen hzN3 (by simp)).trans z13;have k2:=(hq3.frozen hzN3 (by simp)).trans z23;have k3:=(hq3.frozen hzN3 (by simp)).trans z33) | fail)
 refine bodyPost_ret (v:=.tuple #[.agg #[.int .i64 0,.slice none 0 0,.int .i64 0,.int .i64 0],.iface et eu]) (by simp [results,Tryz.results71,go_sem,m0,m1,m2,m3,World.cell?_setCell_other]) rfl ?_
 have hS:∀ u0 u1 u2 u3,Only [w.heap.size+1] w3 ((((w3.setCell ⟨w.heap.size+1,0,none⟩ u0).setCell ⟨w.heap.size+1,1,none⟩ u1).setCell ⟨w.heap.size+1,2,none⟩ u2).setCell ⟨w.heap.size+1,3,none⟩ u3):=fun _ _ _ _=>((((Only.refl _ _).setCell (by simp) _).setCell (by simp) _).setCell (by simp) _).setCell (by simp) _
 exact NextP.bad Hr.out ((hqE.q hq3).trans (hS _ _ _ _) (by simp) (by simp)) rfl ((ErrV.only hev (hS _ _ _ _) (by simp;omega)).mono hqE.size (hS _ _ _ _).size)):p:=h
theorem next_any {lo hi:Nat} {v:Value} {l:List Int} (p:Nat) {w:World} (h:Ints .u8 lo hi w v l) (hp:p<l.length) :
  Calls Tryz.prog 71 #[v,.int .i64 p] w (NextP w (nextD (l.drop p) p)):=by
 have hlen:=h.1.len_le
 unfold maxLen at hlen
 obtain ⟨a,cap,rfl,hcap,hmax,hat,hcell⟩:=h.open
 obtain ⟨b,off,rfl,hb1,hb2⟩:=hat 0 (by omega)
 have Hh:=lh h
 have Hcell:=lh (hcell b off rfl)
 have hpi:(p:Int)<(l.length:Int):=by omega
 have hp0:(0:Int)≤(p:Int):=by omega
 have hbw:b<w.heap.size:=block_lt_of_cell (hcell b off rfl 0 (by omega))
 clear hat hcell h hmax
 have c0:=Hcell.out p hp
 have hO:Only [] w ((w.alloc (.cells #[.int .i64 p] 3)).alloc (.cells #[.int .i64 0,.slice none 0 0,.int .i64 0,.int .i64 0] 105)):=(Only.new _ _).q (Only.new _ _)
 have rB:((w.alloc (.cells #[.int .i64 p] 3)).alloc (.cells #[.int .i64 0,.slice none 0 0,.int .i64 0,.int .i64 0] 105)).heap[w.heap.size+1]?=some (.cells #[.int .i64 0,.slice none 0 0,.int .i64 0,.int .i64 0] 105 (0,0)):=heap_alloc_new' (by simp)
 have rA:((w.alloc (.cells #[.int .i64 p] 3)).alloc (.cells #[.int .i64 0,.slice none 0 0,.int .i64 0,.int .i64 0] 105)).heap[w.heap.size]?=some (.cells #[.int .i64 p] 3 (0,0)):=(Below.heap_alloc _ _ _ (by simp)).trans (heap_alloc_new _ _)
 have cP:((w.alloc (.cells #[.int .i64 p] 3)).alloc (.cells #[.int .i64 0,.slice none 0 0,.int .i64 0,.int .i64 0] 105)).cell? ⟨w.heap.size,0,none⟩=some (.int .i64 p):=by rw [cell_of_row _ _ _ _ _ _ rA];rfl
 have n0:((w.alloc (.cells #[.int .i64 p] 3)).alloc (.cells #[.int .i64 0,.slice none 0 0,.int .i64 0,.int .i64 0] 105)).cell? ⟨w.heap.size+1,0,none⟩=some (.int .i64 0):=by rw [cell_of_row _ _ _ _ _ _ rB];rfl
 have n1:((w.alloc (.cells #[.int .i64 p] 3)).alloc (.cells #[.int .i64 0,.slice none 0 0,.int .i64 0,.int .i64 0] 105)).cell? ⟨w.heap.size+1,1,none⟩=some (.slice none 0 0):=by rw [cell_of_row _ _ _ _ _ _ rB];rfl
 have n2:((w.alloc (.cells #[.int .i64 p] 3)).alloc (.cells #[.int .i64 0,.slice none 0 0,.int .i64 0,.int .i64 0] 105)).cell? ⟨w.heap.size+1,2,none⟩=some (.int .i64 0):=by rw [cell_of_row _ _ _ _ _ _ rB];rfl
 have n3:((w.alloc (.cells #[.int .i64 p] 3)).alloc (.cells #[.int .i64 0,.slice none 0 0,.int .i64 0,.int .i64 0] 105)).cell? ⟨w.heap.size+1,3,none⟩=some (.int .i64 0):=by rw [cell_of_row _ _ _ _ _ _ rB];rfl
 have z0:=frozen_of_row ((w.alloc (.cells #[.int .i64 p] 3)).alloc (.cells #[.int .i64 0,.slice none 0 0,.int .i64 0,.int .i64 0] 105)) (w.heap.size+1) 0 _ _ rB
 have z1:=frozen_of_row ((w.alloc (.cells #[.int .i64 p] 3)).alloc (.cells #[.int .i64 0,.slice none 0 0,.int .i64 0,.int .i64 0] 105)) (w.heap.size+1) 1 _ _ rB
 have z2:=frozen_of_row ((w.alloc (.cells #[.int .i64 p] 3)).alloc (.cells #[.int .i64 0,.slice none 0 0,.int .i64 0,.int .i64 0] 105)) (w.heap.size+1) 2 _ _ rB
 have z3:=frozen_of_row ((w.alloc (.cells #[.int .i64 p] 3)).alloc (.cells #[.int .i64 0,.slice none 0 0,.int .i64 0,.int .i64 0] 105)) (w.heap.size+1) 3 _ _ rB
 have hzW:((w.alloc (.cells #[.int .i64 p] 3)).alloc (.cells #[.int .i64 0,.slice none 0 0,.int .i64 0,.int .i64 0] 105)).heap.size=w.heap.size+2:=by simp
 have hzN:w.heap.size+1<((w.alloc (.cells #[.int .i64 p] 3)).alloc (.cells #[.int .i64 0,.slice none 0 0,.int .i64 0,.int .i64 0] 105)).heap.size:=by omega
 have HO:=lh hO
 have cb:=hO.cell c0 (by simp)
 have hpc:p<cap:=by omega
 have hcz:¬ cap-p=0:=by omega
 have hpl:p≤l.length:=by omega
 have hlp:((l.length-p:Nat):Int)=(l.length:Int)-p:=by omega
 have hdl:(l.drop p).length=l.length-p:=List.length_drop
 clear c0 rA rB hO
 by_cases hz:l.getD p 0=0
 ·have hr:nextD (l.drop p) p=.ok ⟨0,[],p,p+1⟩:=by
   unfold nextD
   rw [if_pos (by rw [getD_drop];simpa using hz)]
  have Hr:=lh hr
  clear hr hlp hdl
  rw [hz] at cb
  go_enter Tryz.func71,Tryz.ntmps71
  go_wp2_with fail
  refine bodyPost_ret (v:=.tuple #[.agg #[.int .i64 0,.slice none 0 0,.int .i64 p,.int .i64 (p+1)],.nilIface]) (by simp [results,Tryz.results71,go_sem]) rfl ?_
  unfold NextP
  rw [Hr.out]
  exact ⟨(Only.new _ _).q (Only.new _ _),_,rfl,Ints.nil _ _ _ _⟩
 ·have hzb:(l.getD p 0 == 0)=false:=by simpa using hz
  have hzd:¬ (l.drop p).getD 0 0=0:=by rw [getD_drop];simpa using hz
  by_cases h4:l.length-p<4
  ·have hr:nextD (l.drop p) p=.error ⟨[(sUnit,p)],1⟩:=by
    unfold nextD
    rw [if_neg hzd,if_pos (by rw [hdl];exact h4)]
   have h4i:(l.length:Int)-p<4:=by omega
   have Hr:=lh hr
   clear hr hdl hzd
   generalize l.getD p 0=x0 at *
   have Hz:=lh hz
   clear hz
   go_enter Tryz.func71,Tryz.ntmps71
   go_wp2_with (first | (go_at_call 97;refine (next1_any _ _ p _ cP).mono ?_;rintro e w3 ⟨ev,rfl,hev,hq3⟩;obtain ⟨et,eu,rfl⟩:=hev.held;have m0:=hq3.cell n0 (by simp);have m1:=hq3.cell n1 (by simp);have m2:=hq3.cell n2 (by simp);have m3:=hq3.cell n3 (by simp);have k0:=(hq3.frozen hzN (by simp)).trans z0;have k1:=(hq3.frozen hzN (by simp)).trans z1;have k2:=(hq3.frozen hzN (by simp)).trans z2;have k3:=(hq3.frozen hzN (by simp)).trans z3) | fail)
   refine bodyPost_ret (v:=.tuple #[.agg #[.int .i64 0,.slice none 0 0,.int .i64 0,.int .i64 0],.iface et eu]) (by simp [results,Tryz.results71,go_sem,m0,m1,m2,m3,World.cell?_setCell_other]) rfl ?_
   have hS:∀ u0 u1 u2 u3,Only [w.heap.size+1] w3 ((((w3.setCell ⟨w.heap.size+1,0,none⟩ u0).setCell ⟨w.heap.size+1,1,none⟩ u1).setCell ⟨w.heap.size+1,2,none⟩ u2).setCell ⟨w.heap.size+1,3,none⟩ u3):=fun _ _ _ _=>((((Only.refl _ _).setCell (by simp) _).setCell (by simp) _).setCell (by simp) _).setCell (by simp) _
   exact NextP.bad Hr.out ((HO.out.q hq3).trans (hS _ _ _ _) (by simp) (by simp)) rfl ((ErrV.only hev (hS _ _ _ _) (by simp)).mono (by simp;omega) (hS _ _ _ _).size)
  ·have h4i:¬ (l.length:Int)-p<4:=by omega
   have cb1:((w.alloc (.cells #[.int .i64 p] 3)).alloc (.cells #[.int .i64 0,.slice none 0 0,.int .i64 0,.int .i64 0] 105)).cell? ⟨b,off+p+1,none⟩=some (.int .u8 (l.getD (p+1) 0)):=by rw [Nat.add_assoc];exact HO.out.cell (Hcell.out (p+1) (by omega)) (by simp)
   have cb2:((w.alloc (.cells #[.int .i64 p] 3)).alloc (.cells #[.int .i64 0,.slice none 0 0,.int .i64 0,.int .i64 0] 105)).cell? ⟨b,off+p+2,none⟩=some (.int .u8 (l.getD (p+2) 0)):=by rw [Nat.add_assoc];exact HO.out.cell (Hcell.out (p+2) (by omega)) (by simp)
   have cb3:((w.alloc (.cells #[.int .i64 p] 3)).alloc (.cells #[.int .i64 0,.slice none 0 0,.int .i64 0,.int .i64 0] 105)).cell? ⟨b,off+p+3,none⟩=some (.int .u8 (l.getD (p+3) 0)):=by rw [Nat.add_assoc];exact HO.out.cell (Hcell.out (p+3) (by omega)) (by simp)
   have hx0:=Hh.out.range (i:=p) (by omega)
   have hx1:=Hh.out.range (i:=p+1) (by omega)
   have hx2:=Hh.out.range (i:=p+2) (by omega)
   have hx3:=Hh.out.range (i:=p+3) (by omega)
   have hN:lenU (l.drop p)=l.getD (p+1) 0*65536+l.getD (p+2) 0*256+l.getD (p+3) 0:=by simp only [lenU,getD_drop]
   have hK:(l.drop p).getD 0 0=l.getD p 0:=by rw [getD_drop,Nat.add_zero]
   have hd4:¬ (l.drop p).length<4:=by rw [hdl];exact h4
   generalize l.getD p 0=x0 at *
   generalize l.getD (p+1) 0=x1 at *
   generalize l.getD (p+2) 0=x2 at *
   generalize l.getD (p+3) 0=x3 at *
   unfold InK at hx0 hx1 hx2 hx3
   have hor1:=i64_or16 hx1.1 (by omega:x1<256) hx2.1 (by omega:x2<256)
   have hor2:=i64_or24 hx1.1 (by omega:x1<256) hx2.1 (by omega:x2<256) hx3.1 (by omega:x3<256)
   obtain ⟨N,hNN⟩:=Int.eq_ofNat_of_zero_le (by omega:0≤x1*65536+x2*256+x3)
   have hNb:N≤16777215:=by omega
   rw [hNN] at hor2 hN
   have hw1:IntKind.i64.wrap x1=x1:=wraps_i64 _ hx1.1 (by omega)
   have hw2:IntKind.i64.wrap x2=x2:=wraps_i64 _ hx2.1 (by omega)
   have hw3:IntKind.i64.wrap x3=x3:=wraps_i64 _ hx3.1 (by omega)
   have HN:=lh hN
   have Hdl:=lh hdl
   have Hz:=lh hz
   have Hzd:=lh hzd
   have HK:=lh hK
   have Hd4:=lh hd4
   clear hN hNN hdl hz hzd hK hd4
   by_cases h5:65536<N
   ·have hr:nextD (l.drop p) p=.error ⟨[(sUnit,p)],5⟩:=by
     unfold nextD
     rw [if_neg Hzd.out,if_neg Hd4.out,if_pos (by rw [HN.out];omega)]
    have Hr:=lh hr
    have h5i:(65536:Int)<(N:Int):=by omega
    exact qNext0
   ·have h5i:¬ (65536:Int)<(N:Int):=by omega
    by_cases h8:(l.length:Int)-p-8<N
    ·have hr:nextD (l.drop p) p=.error ⟨[(sUnit,p)],1⟩:=by
      unfold nextD
      rw [if_neg Hzd.out,if_neg Hd4.out,if_neg (by rw [HN.out];omega),if_pos (by rw [HN.out,Hdl.out];omega)]
     have Hr:=lh hr
     exact qNext0
    ·have hcapN:p+(8+N)≤l.length:=by omega
     have hsub1:=Hh.out.sub (i:=p) (j:=p+(4+N)) (by omega) (by omega) (cap-p) (by omega) (by omega)
     rw [show p+(4+N)-p=4+N by omega,show (l.take (p+(4+N))).drop p=(l.drop p).take (4+N) by rw [List.drop_take];congr 1;omega] at hsub1
     have hsub2:=Hh.out.sub (i:=p+4) (j:=p+(4+N)) (by omega) (by omega) (cap-p-4) (by omega) (by omega)
     rw [show p+(4+N)-(p+4)=N by omega,show (l.take (p+(4+N))).drop (p+4)=((l.drop p).drop 4).take N by rw [List.drop_take,List.drop_drop];congr 1;omega] at hsub2
     have ce0:((w.alloc (.cells #[.int .i64 p] 3)).alloc (.cells #[.int .i64 0,.slice none 0 0,.int .i64 0,.int .i64 0] 105)).cell? ⟨b,off+p+(4+N),none⟩=some (.int .u8 (l.getD (p+(4+N)) 0)):=by rw [Nat.add_assoc];exact HO.out.cell (Hcell.out (p+(4+N)) (by omega)) (by simp)
     have ce1:((w.alloc (.cells #[.int .i64 p] 3)).alloc (.cells #[.int .i64 0,.slice none 0 0,.int .i64 0,.int .i64 0] 105)).cell? ⟨b,off+p+(4+N)+1,none⟩=some (.int .u8 (l.getD (p+(5+N)) 0)):=by rw [show off+p+(4+N)+1=off+(p+(5+N)) by omega];exact HO.out.cell (Hcell.out (p+(5+N)) (by omega)) (by simp)
     have ce2:((w.alloc (.cells #[.int .i64 p] 3)).alloc (.cells #[.int .i64 0,.slice none 0 0,.int .i64 0,.int .i64 0] 105)).cell? ⟨b,off+p+(4+N)+2,none⟩=some (.int .u8 (l.getD (p+(6+N)) 0)):=by rw [show off+p+(4+N)+2=off+(p+(6+N)) by omega];exact HO.out.cell (Hcell.out (p+(6+N)) (by omega)) (by simp)
     have ce3:((w.alloc (.cells #[.int .i64 p] 3)).alloc (.cells #[.int .i64 0,.slice none 0 0,.int .i64 0,.int .i64 0] 105)).cell? ⟨b,off+p+(4+N)+3,none⟩=some (.int .u8 (l.getD (p+(7+N)) 0)):=by rw [show off+p+(4+N)+3=off+(p+(7+N)) by omega];exact HO.out.cell (Hcell.out (p+(7+N)) (by omega)) (by simp)
     have hy0:=Hh.out.range (i:=p+(4+N)) (by omega)
     have hy1:=Hh.out.range (i:=p+(5+N)) (by omega)
     have hy2:=Hh.out.range (i:=p+(6+N)) (by omega)
     have hy3:=Hh.out.range (i:=p+(7+N)) (by omega)
     have hSum:sumU (l.drop p) N=l.getD (p+(4+N)) 0*16777216+l.getD (p+(5+N)) 0*65536+l.getD (p+(6+N)) 0*256+l.getD (p+(7+N)) 0:=by simp only [sumU,getD_drop]
     have hcl:=crc_lt _ hsub1.2
     generalize l.getD (p+(4+N)) 0=y0 at *
     generalize l.getD (p+(5+N)) 0=y1 at *
     generalize l.getD (p+(6+N)) 0=y2 at *
     generalize l.getD (p+(7+N)) 0=y3 at *
     unfold InK at hy0 hy1 hy2 hy3
     have hcs:((crc ((l.drop p).take (4+N)):Nat):Int)=crc ((l.drop p).take (4+N)):=rfl
     generalize hcq:crc ((l.drop p).take (4+N))=C at *
     have Hcq:=lh hcq
     have HSum:=lh hSum
     have Hsub1:=lh hsub1
     have Hsub2:=lh hsub2
     have H8:=lh h8
     clear hcs hcq hSum hsub1 hsub2
     have hi1:((4+N:Nat):Int)=4+(N:Int):=by omega
     have hj1:(0:Int)≤4+(N:Int):=by omega
     go_enter Tryz.func71,Tryz.ntmps71
     go_wp2_with fail
     go_quiet (fail)
     generalize hW3:World.drewN _ _=W3
     have hqD:Only [] ((w.alloc (.cells #[.int .i64 p] 3)).alloc (.cells #[.int .i64 0,.slice none 0 0,.int .i64 0,.int .i64 0] 105)) W3:=by rw [← hW3];exact (Only.refl _ _).drewN _
     have cP3:=hqD.cell cP (by simp)
     have n03:=hqD.cell n0 (by simp)
     have n13:=hqD.cell n1 (by simp)
     have n23:=hqD.cell n2 (by simp)
     have n33:=hqD.cell n3 (by simp)
     have z03:=(hqD.frozen hzN (by simp)).trans z0
     have z13:=(hqD.frozen hzN (by simp)).trans z1
     have z23:=(hqD.frozen hzN (by simp)).trans z2
     have z33:=(hqD.frozen hzN (by simp)).trans z3
     have hzN3:w.heap.size+1<W3.heap.size:=by have:=hqD.size;omega
     have cb03:=hqD.cell cb (by simp)
     have hqE:=HO.out.q hqD
     clear hW3 cP n0 n1 n2 n3 z0 z1 z2 z3 cb cb1 cb2 cb3
     have e03:=hqD.cell ce0 (by simp)
     have e13:=hqD.cell ce1 (by simp)
     have e23:=hqD.cell ce2 (by simp)
     have e33:=hqD.cell ce3 (by simp)
     clear ce0 ce1 ce2 ce3
     have hl4:8+N-(4+N)=4:=by omega
     have hwr:IntKind.i64.wrap (4+(N:Int))=4+(N:Int):=wraps_i64 _ (by omega) (by omega)
     have hcp1:(4:Int)+(N:Int)≤((cap-p:Nat):Int):=by omega
     have hcp3:(4+(N:Int)).toNat=4+N:=by omega
     have hl5:4+N-4=N:=by omega
     have hcp6:¬ cap-p-4=0:=by omega
     have hcp7:¬ cap-p=4:=by omega
     have hcp8:(4:Int)≤4+(N:Int):=by omega
     have hu0:IntKind.u32.wrap y0=y0:=wraps_u32 _ (by omega) (by omega)
     have hu1:IntKind.u32.wrap y1=y1:=wraps_u32 _ (by omega) (by omega)
     have hu2:IntKind.u32.wrap y2=y2:=wraps_u32 _ (by omega) (by omega)
     have hu3:IntKind.u32.wrap y3=y3:=wraps_u32 _ (by omega) (by omega)
     have hs0:IntKind.u32.wrap (y0*16777216)=y0*16777216:=wraps_u32 _ (by omega) (by omega)
     have hs1:IntKind.u32.wrap (y1*65536)=y1*65536:=wraps_u32 _ (by omega) (by omega)
     have hs2:IntKind.u32.wrap (y2*256)=y2*256:=wraps_u32 _ (by omega) (by omega)
     have ho1:=u32_j1 hy0.1 (by omega:y0<256) hy1.1 (by omega:y1<256)
     have ho2:=u32_j2 hy0.1 (by omega:y0<256) hy1.1 (by omega:y1<256) hy2.1 (by omega:y2<256)
     have ho3:=u32_j3 hy0.1 (by omega:y0<256) hy1.1 (by omega:y1<256) hy2.1 (by omega:y2<256) hy3.1 (by omega:y3<256)
     have HSum2:=HSum
     clear HSum
     generalize hY:y0*16777216+y1*65536+y2*256+y3=Y at *
     clear hY
     go_wp2_with fail
     by_cases hC:(C:Int)=Y
     ·subst hC
      have hr:nextD (l.drop p) p=.ok ⟨x0,((l.drop p).drop 4).take N,p,p+(8+N)⟩:=by
       unfold nextD
       rw [if_neg Hzd.out,if_neg Hd4.out,if_neg (by rw [HN.out];omega),if_neg (by rw [HN.out,Hdl.out];omega),HN.out,if_neg (by simp only [Int.toNat_natCast];rw [Hcq.out,HSum2.out];simp),HK.out]
       simp
      have Hr:=lh hr
      clear hr
      go_region_held3 (fun w'=>w'.cell? ⟨b,off+p+(4+N),none⟩=some (.int .u8 y0)∧w'.cell? ⟨b,off+p+(4+N)+1,none⟩=some (.int .u8 y1)∧w'.cell? ⟨b,off+p+(4+N)+2,none⟩=some (.int .u8 y2)∧w'.cell? ⟨b,off+p+(4+N)+3,none⟩=some (.int .u8 y3))
       (first | (simp [*,World.cell?_alloc_some,World.cell?_setCell_far,frozen?_alloc_cells,frozen_drew,World.frozen?_setCell]) | fail)
       (first
        | (go_at_call 68;refine (sum_any (Hsub1.out.quiet hqE.drew)).mono ?_;rintro e w' ⟨rfl,rfl⟩;rw [Hcq.out])
        | fail)
      generalize hW4:World.drew _=W4
      have hqF:Only [] W3 W4:=by rw [← hW4];exact (Only.refl _ _).drew
      clear hW4
      go_wp2_with fail
      have hcA:=hqF.cell cP3 (by simp)
      have hcB:=hqF.cell cb03 (by simp)
      have l0:=hqF.cell n03 (by simp)
      have l1:=hqF.cell n13 (by simp)
      have l2:=hqF.cell n23 (by simp)
      have l3:=hqF.cell n33 (by simp)
      have g0:=(hqF.frozen hzN3 (by simp)).trans z03
      have g1:=(hqF.frozen hzN3 (by simp)).trans z13
      have g2:=(hqF.frozen hzN3 (by simp)).trans z23
      have g3:=(hqF.frozen hzN3 (by simp)).trans z33
      have hz4:w.heap.size+1<W4.heap.size:=by have:=hqF.size;omega
      have hqG:=hqE.q hqF
      clear cP3 cb03 n03 n13 n23 n33 z03 z13 z23 z33 e03 e13 e23 e33 hqF hqE hqD
      have hO2:Only [] W4 (W4.alloc (.cells #[] 5)).drew:=(Only.new W4 (.cells #[] 5)).drew
      have hown0:Own .u8 5 W4.heap.size (W4.alloc (.cells #[] 5)).drew (.slice (some ⟨W4.heap.size,0,none⟩) 0 0) []:=(own_newG rfl (Nat.zero_le _) (by simp) 0 rfl rfl:Own .u8 5 W4.heap.size (W4.alloc (.cells #[] 5)) (.slice (some ⟨W4.heap.size,0,none⟩) 0 0) [])
      have hsrc0:=Hsub2.out.quiet (hqG.q hO2)
      have hb0:W4.heap.size≤((W4.alloc (.cells #[] 5)).drew).heap.size:=by simp
      have l0:=hO2.cell l0 (by simp)
      have l1:=hO2.cell l1 (by simp)
      have l2:=hO2.cell l2 (by simp)
      have l3:=hO2.cell l3 (by simp)
      have g0:=(hO2.frozen hz4 (by simp)).trans g0
      have g1:=(hO2.frozen hz4 (by simp)).trans g1
      have g2:=(hO2.frozen hz4 (by simp)).trans g2
      have g3:=(hO2.frozen hz4 (by simp)).trans g3
      have hfr:From W4.heap.size (.slice (some ⟨W4.heap.size,0,none⟩) 0 0):=From.lit (Nat.le_refl _)
      have hdl:(([]:List Int).length+(((l.drop p).drop 4).take N).length)*1≤140737488355328:=by rw [List.length_take];simp only [List.length_nil];omega
      have hz5:w.heap.size<W4.heap.size:=by omega
      have hz6:b<W4.heap.size:=by omega
      have hwx:IntKind.i64.wrap x0=x0:=wraps_i64 _ hx0.1 (by omega)
      have hbn:¬ b=w.heap.size+1:=by omega
      have hbn':¬ w.heap.size+1=b:=by omega
      have hwe:IntKind.i64.wrap ((p:Int)+8)=(p:Int)+8:=wraps_i64 _ (by omega) (by omega)
      have hwf:IntKind.i64.wrap ((p:Int)+8+(N:Int))=(p:Int)+8+(N:Int):=wraps_i64 _ (by omega) (by omega)
      go_region_held3 (fun w'=>w'.cell? ⟨w.heap.size,0,none⟩=some (.int .i64 p)∧w'.cell? ⟨b,off+p,none⟩=some (.int .u8 x0))
       (first
        | (go_split_ands;refine ⟨hacc1.cell hfr (by assumption) hz5,hacc1.cell hfr (by assumption) hz6⟩)
        | (simp [*,World.cell?_alloc_some,World.cell?_setCell_far,frozen?_alloc_cells,frozen_drew,World.frozen?_setCell])
        | fail)
       (first | (refine step_append_ints rfl (.tmp 115) (.tmp 119) 30 rfl E8 hown0 rfl hsrc0 rfl hdl hb0 (fun v1 w1 hown1 hacc1=>?_);obtain ⟨a1,cap1,rfl,_⟩:=hown1.ints.open;(have m0:=hacc1.cell hfr l0 hz4);(have m1:=hacc1.cell hfr l1 hz4);(have m2:=hacc1.cell hfr l2 hz4);(have m3:=hacc1.cell hfr l3 hz4);(have k0:=(hacc1.frz (p:=⟨w.heap.size+1,0,none⟩) hfr hz4 hb0).trans g0);(have k1:=(hacc1.frz (p:=⟨w.heap.size+1,1,none⟩) hfr hz4 hb0).trans g1);(have k2:=(hacc1.frz (p:=⟨w.heap.size+1,2,none⟩) hfr hz4 hb0).trans g2);(have k3:=(hacc1.frz (p:=⟨w.heap.size+1,3,none⟩) hfr hz4 hb0).trans g3)) | fail)
      go_wp2_with fail
      refine bodyPost_ret (v:=.tuple #[.agg #[.int .i64 x0,.slice a1 (min N (l.length-(p+4))) cap1,.int .i64 p,.int .i64 ((p:Int)+8+(N:Int))],.nilIface]) (by simp [results,Tryz.results71,go_sem,m0,m1,m2,m3,hwe,hwf,World.cell?_setCell_other]) rfl ?_
      have hS:∀ u0 u1 u2 u3,Only [w.heap.size+1] w1 ((((w1.setCell ⟨w.heap.size+1,0,none⟩ u0).setCell ⟨w.heap.size+1,1,none⟩ u1).setCell ⟨w.heap.size+1,2,none⟩ u2).setCell ⟨w.heap.size+1,3,none⟩ u3):=fun _ _ _ _=>((((Only.refl _ _).setCell (by simp) _).setCell (by simp) _).setCell (by simp) _).setCell (by simp) _
      have hs0:Only [] w w1:=(hqG.q hO2).acc hacc1 (From.lit (by omega))
      have hmin:min N (l.length-(p+4))=(((l.drop p).drop 4).take N).length:=by rw [List.length_take,List.length_drop,List.length_drop];congr 1
      unfold NextP
      rw [Hr.out]
      refine ⟨hs0.trans (hS _ _ _ _) (by simp) (by simp),_,?_,(hown1.ints.only (hS _ _ _ _) (fun g hg=>by rw [mSg] at hg;omega)).mono (by omega) (hS _ _ _ _).size⟩
      have e:((p+(8+N):Nat):Int)=(p:Int)+8+(N:Int):=by omega
      rw [e,hmin]
      rfl
     ·have hr:nextD (l.drop p) p=.error ⟨[(sUnit,p)],4⟩:=by
       unfold nextD
       rw [if_neg Hzd.out,if_neg Hd4.out,if_neg (by rw [HN.out];omega),if_neg (by rw [HN.out,Hdl.out];omega),HN.out,if_pos (by simp only [Int.toNat_natCast];rw [Hcq.out,HSum2.out];exact hC)]
      have Hr:=lh hr
      clear hr
      go_region_held3 (fun w'=>w'.cell? ⟨b,off+p+(4+N),none⟩=some (.int .u8 y0)∧w'.cell? ⟨b,off+p+(4+N)+1,none⟩=some (.int .u8 y1)∧w'.cell? ⟨b,off+p+(4+N)+2,none⟩=some (.int .u8 y2)∧w'.cell? ⟨b,off+p+(4+N)+3,none⟩=some (.int .u8 y3))
       (first | (simp [*,World.cell?_alloc_some,World.cell?_setCell_far,frozen?_alloc_cells,frozen_drew,World.frozen?_setCell]) | fail)
       (first
        | (go_at_call 68;refine (sum_any (Hsub1.out.quiet hqE.drew)).mono ?_;rintro e w' ⟨rfl,rfl⟩;rw [Hcq.out])
        | fail)
      generalize hW4:World.drew _=W4
      have hqF:Only [] W3 W4:=by rw [← hW4];exact (Only.refl _ _).drew
      clear hW4
      go_wp2_with (first | (go_at_call 97;refine (next1_any _ _ p _ (hqF.cell cP3 (by simp))).mono ?_;rintro e w3 ⟨ev,rfl,hev,hq3⟩;obtain ⟨et,eu,rfl⟩:=hev.held;have hq3:=hqF.q hq3;have m0:=hq3.cell n03 (by simp);have m1:=hq3.cell n13 (by simp);have m2:=hq3.cell n23 (by simp);have m3:=hq3.cell n33 (by simp);have k0:=(hq3.frozen hzN3 (by simp)).trans z03;have k1:=(hq3.frozen hzN3 (by simp)).trans z13;have k2:=(hq3.frozen hzN3 (by simp)).trans z23;have k3:=(hq3.frozen hzN3 (by simp)).trans z33) | fail)
      refine bodyPost_ret (v:=.tuple #[.agg #[.int .i64 0,.slice none 0 0,.int .i64 0,.int .i64 0],.iface et eu]) (by simp [results,Tryz.results71,go_sem,m0,m1,m2,m3,World.cell?_setCell_other]) rfl ?_
      have hS:∀ u0 u1 u2 u3,Only [w.heap.size+1] w3 ((((w3.setCell ⟨w.heap.size+1,0,none⟩ u0).setCell ⟨w.heap.size+1,1,none⟩ u1).setCell ⟨w.heap.size+1,2,none⟩ u2).setCell ⟨w.heap.size+1,3,none⟩ u3):=fun _ _ _ _=>((((Only.refl _ _).setCell (by simp) _).setCell (by simp) _).setCell (by simp) _).setCell (by simp) _
      exact NextP.bad Hr.out ((hqE.q hq3).trans (hS _ _ _ _) (by simp) (by simp)) rfl ((ErrV.only hev (hS _ _ _ _) (by have:=hqF.size;simp;omega)).mono (by have:=hqE.size;have:=hqF.size;omega) (hS _ _ _ _).size)
def peekR (l:List Int) (p:Nat):Except Err UnitD:=if p=l.length then .error ⟨[],1⟩ else nextD (l.drop p) p
/-- what a block made first holds behind calls that keep it -/
theorem row4 {w:World} {g:Nat} {a b c d v0 v1 v2 v3:Value} {t:TypeId} (h:w.heap[g]?=some (.cells #[a,b,c,d] t (0,0))) :
  ((((w.setCell ⟨g,0,none⟩ v0).setCell ⟨g,1,none⟩ v1).setCell ⟨g,2,none⟩ v2).setCell ⟨g,3,none⟩ v3).heap[g]?=some (.cells #[v0,v1,v2,v3] t (0,0)) :=
 heap_setCell_same _ g 3 _ _ v3 (heap_setCell_same _ g 2 _ _ v2 (heap_setCell_same _ g 1 _ _ v1 (heap_setCell_same w g 0 _ _ v0 h)))
theorem row4_cells {w:World} {g:Nat} {v0 v1 v2 v3:Value} {t:TypeId} (h:w.heap[g]?=some (.cells #[v0,v1,v2,v3] t (0,0))) :
  w.cell? ⟨g,0,none⟩=some v0∧w.cell? ⟨g,1,none⟩=some v1∧w.cell? ⟨g,2,none⟩=some v2∧w.cell? ⟨g,3,none⟩=some v3 :=
 ⟨by rw [cell_of_row _ _ _ _ _ _ h];rfl,by rw [cell_of_row _ _ _ _ _ _ h];rfl,by rw [cell_of_row _ _ _ _ _ _ h];rfl,by rw [cell_of_row _ _ _ _ _ _ h];rfl⟩
def HeadK (w:World) (c:Coded) (e:Ending) (w':World):Prop :=
 Only [] w w'∧match readB c with
  | some k=>e=.returned (.tuple #[.agg #[.int .i64 0,.int .i64 0,.slice none 0 0],.agg #[.int .i64 k,.slice none 0 0]])
  | none=>∃ dv,e=.returned (.tuple #[.agg #[.int .i64 c.kind,.int .i64 (c.data.getD 0 0),dv],.agg #[.int .i64 0,.slice none 0 0]])∧Ints .u8 w.heap.size w'.heap.size w' dv (c.data.drop 1)
theorem HeadK.err {w w':World} {c:Coded} {k:Int} {e:Ending} (hk:readB c=some k) (ho:Only [] w w') (he:e=.returned (.tuple #[.agg #[.int .i64 0,.int .i64 0,.slice none 0 0],.agg #[.int .i64 k,.slice none 0 0]])):HeadK w c e w':=by
 unfold HeadK;rw [hk];exact ⟨ho,he⟩
theorem readB_13 {k:Int} {l:List Int} (h:k<1∨4<k):readB ⟨k,l⟩=some 13:=by
 have:kindB k=false:=by unfold kindB;rw [decide_eq_false_iff_not];omega
 simp [readB,this]
theorem kindB_of {k:Int} (h1:¬ k<1) (h2:¬ 4<k):kindB k=true:=by unfold kindB;rw [decide_eq_true_eq];omega
theorem bareB_of {k:Int} (h2:¬ 4<k) (h3:2<k):bareB k=true:=by unfold bareB;rw [decide_eq_true_eq];omega
theorem bareB_no {k:Int} (h3:¬ 2<k):bareB k=false:=by unfold bareB;rw [decide_eq_false_iff_not];omega
theorem fail_eq (c:Int) (w:World):Calls Tryz.prog 40 #[.int .i64 c] w fun e w'=>e=.returned (.agg #[.int .i64 c,.slice none 0 0])∧w.alloc (.cells #[.int .i64 c,.slice none 0 0] 38)=w':=by
 go_enter Tryz.func40,Tryz.ntmps40
 go_wp2
 refine bodyPost_ret (v:=.agg #[.int .i64 c,.slice none 0 0]) (by simp [results,Tryz.results40,go_sem]) rfl ⟨rfl,rfl⟩
theorem Ints.open' {k:IntKind} {lo hi b off n cap:Nat} {w:World} {l:List Int} (h:Ints k lo hi w (.slice (some ⟨b,off,none⟩) n cap) l) (hp:0<l.length):lo≤b∧w.cell? ⟨b,off,none⟩=some (.int k (l.getD 0 0)):=by
 obtain ⟨b',off',cap',e,x,y,hc⟩:=h.at hp
 cases e
 exact ⟨x,by simpa using hc⟩
theorem kread_good {lo hi b off cap:Nat} {k q:Int} {l:List Int} {w:World} (h:Ints .u8 lo hi w (.slice (some ⟨b,off,none⟩) l.length cap) l) (hcap:l.length≤cap) (hcm:(cap:Int)≤9223372036854775807) (hlen:l.length≤140737488355328)
  (hk1:¬ k<1) (hk4:¬ 4<k) (hk2:¬ 2<k) (hpos:0<l.length) (hq:l.getD 0 0=q) (h15:¬ 15<q) (h5:¬ 65536<l.length) (hr:readB ⟨k,l⟩=none) :
  Calls Tryz.prog 46 #[.agg #[.int .i64 k,.slice (some ⟨b,off,none⟩) l.length cap]] w (HeadK w ⟨k,l⟩):=by
 have HQ:=lh (fun o o' o''=>(((Only.new w o).q (Only.new _ o')).q (Only.new _ o'')))
 have c0:=(h.open' hpos).2
 have hx:=h.range hpos
 rw [hq] at c0 hx
 unfold InK at hx
 have Hh:=lh h
 have Hq:=lh hq
 obtain ⟨a1,hsl,hI1⟩:=slice_from h hcap (i:=1) hpos (z:=1) rfl
 have HI1:=lh hI1
 have Hl1:Hid ((l.drop 1).length=l.length-1):=lh (by simp)
 have h0b:(((l.length:Nat):Int) == 0)=false:=by rw [beq_eq_false_iff_ne];omega
 have hpi:(0:Int)<(l.length:Int):=by omega
 have c1:∀ o o' o'',(((w.alloc o).alloc o').alloc o'').cell? ⟨b,off,none⟩=some (.int .u8 q):=fun o o' o''=>(HQ.out o o' o'').cell c0 (by simp)
 clear h hI1 hq
 have Hr:=lh hr
 refine hidQ fun Q HPost=>?_
 go_enter Tryz.func46,Tryz.ntmps46
 go_wp2_with fail
 clear c1
 generalize hW:((w.alloc _).alloc _).alloc _=W3
 have hO:Only [] w W3:=by rw [← hW];exact HQ.out _ _ _
 have hz3:W3.heap.size=w.heap.size+3:=by rw [← hW];simp
 have rA:W3.heap[w.heap.size]?=some (.cells #[.int .i64 k,.slice (some ⟨b,off,none⟩) l.length cap] 69 (0,0)):=by
  rw [← hW,Below.heap_alloc _ _ _ (by simp;omega),Below.heap_alloc _ _ _ (by simp)];exact heap_alloc_new _ _
 have rB:W3.heap[w.heap.size+1]?=some (.cells #[.int .i64 0,.int .i64 0,.slice none 0 0] 91 (0,0)):=by
  rw [← hW,Below.heap_alloc _ _ _ (by simp)];exact heap_alloc_new' (by simp)
 have rC:W3.heap[w.heap.size+1+1]?=some (.cells #[.int .i64 0,.slice none 0 0] 38 (0,0)):=by
  rw [← hW];exact heap_alloc_new' (by simp)
 clear hW
 have f0:W3.cell? ⟨w.heap.size,0,none⟩=some (.int .i64 k):=by rw [cell_of_row _ _ _ _ _ _ rA];rfl
 have f1:W3.cell? ⟨w.heap.size,1,none⟩=some (.slice (some ⟨b,off,none⟩) l.length cap):=by rw [cell_of_row _ _ _ _ _ _ rA];rfl
 have f2:W3.cell? ⟨b,off,none⟩=some (.int .u8 q):=hO.cell c0 (by simp)
 have hwq:IntKind.i64.wrap q=q:=by simp [IntKind.wrap,IntKind.bits,IntKind.signed];omega
 have hI3:=HI1.out.quiet hO
 have hB:∀ w1,Only [] W3.drew w1→(w1.cell? ⟨w.heap.size+1,0,none⟩=some (.int .i64 0)∧w1.cell? ⟨w.heap.size+1,1,none⟩=some (.int .i64 0)∧w1.cell? ⟨w.heap.size+1,2,none⟩=some (.slice none 0 0)) ∧
   (w1.frozen? ⟨w.heap.size+1,0,none⟩=false∧w1.frozen? ⟨w.heap.size+1,1,none⟩=false∧w1.frozen? ⟨w.heap.size+1,2,none⟩=false) ∧
   (w1.cell? ⟨w.heap.size+1+1,0,none⟩=some (.int .i64 0)∧w1.cell? ⟨w.heap.size+1+1,1,none⟩=some (.slice none 0 0))∧(w1.frozen? ⟨w.heap.size+1+1,0,none⟩=false∧w1.frozen? ⟨w.heap.size+1+1,1,none⟩=false):=by
  intro w1 o
  have r1:=((Only.refl [] W3).drew.q o).row rB
  have r2:=((Only.refl [] W3).drew.q o).row rC
  refine ⟨⟨?_,?_,?_⟩,⟨?_,?_,?_⟩,⟨?_,?_⟩,?_,?_⟩
  ·rw [cell_of_row _ _ _ _ _ _ r1];rfl
  ·rw [cell_of_row _ _ _ _ _ _ r1];rfl
  ·rw [cell_of_row _ _ _ _ _ _ r1];rfl
  ·exact frozen_of_row _ _ _ _ _ r1
  ·exact frozen_of_row _ _ _ _ _ r1
  ·exact frozen_of_row _ _ _ _ _ r1
  ·rw [cell_of_row _ _ _ _ _ _ r2];rfl
  ·rw [cell_of_row _ _ _ _ _ _ r2];rfl
  ·exact frozen_of_row _ _ _ _ _ r2
  ·exact frozen_of_row _ _ _ _ _ r2
 have HB:=lh hB
 have hbw:b<w.heap.size:=block_lt_of_cell c0
 have hbA1:(w.heap.size+1=w.heap.size)=False:=by simp
 have hbA2:(w.heap.size+1+1=w.heap.size)=False:=eq_false (by omega)
 have hbn2:(w.heap.size+1=b)=False:=eq_false (by omega)
 have hbn4:(w.heap.size+1+1=b)=False:=eq_false (by omega)
 have hcp:Calls Tryz.prog 26 #[.slice a1 (l.length-1) (cap-1)] W3.drew (fun e w'=>∃ a2 cap2,e=.returned (.slice a2 (l.length-1) cap2)∧Own .u8 5 W3.drew.heap.size w' (.slice a2 (l.length-1) cap2) (l.drop 1)∧Only [] W3.drew w'):=by
  refine (copyb_any (w:=W3.drew) (hI3.quiet (Only.refl [] W3).drew) (by rw [Hl1.out];omega)).mono ?_
  rintro e w1 ⟨v1,rfl,ho,hq⟩
  obtain ⟨a2,cap2,hv,_⟩:=ho.ints.open
  rw [Hl1.out] at hv
  subst hv
  exact ⟨a2,cap2,rfl,ho,hq⟩
 have Hc:=lh hcp
 clear hcp
 clear rA rB rC hB hI3 c0
 go_region_held3 (fun w'=>w'.cell? ⟨w.heap.size,0,none⟩=some (.int .i64 k)∧w'.cell? ⟨w.heap.size,1,none⟩=some (.slice (some ⟨b,off,none⟩) l.length cap)∧w'.cell? ⟨b,off,none⟩=some (.int .u8 q))
  (first
   | (simp only [World.cell?_setCell_far,ne_eq,hbA1,hbA2,hbn2,hbn4,not_false_eq_true];go_split_ands;refine ⟨?_,?_,?_⟩ <;> assumption)
   | (go_split_ands;with_reducible refine ⟨hq1.cell (by assumption) (by simp),hq1.cell (by assumption) (by simp),hq1.cell (by assumption) (by simp)⟩)
   | (simp [*,World.cell?_alloc_some,World.cell?_setCell_far,frozen?_alloc_cells,frozen_drew,World.frozen?_setCell])
   | fail)
  (first
   | (go_at_call 26;refine Hc.out.mono ?_;rintro e w1 ⟨a2,cap2,rfl,hown1,hq1⟩;obtain ⟨⟨m0,m1,m2⟩,⟨n0,n1,n2⟩,⟨p0,p1⟩,⟨r0,r1⟩⟩:=HB.out w1 hq1)
   | fail)
 go_wp2_with fail
 refine bodyPost_ret (v:=.tuple #[.agg #[.int .i64 k,.int .i64 q,.slice a2 (l.length-1) cap2],.agg #[.int .i64 0,.slice none 0 0]]) (by simp [results,Tryz.results46,go_sem,hwq,m0,m1,m2,p0,p1,World.cell?_setCell_other]) rfl ?_
 apply HPost.out
 unfold HeadK
 rw [Hr.out]
 generalize hWf:World.setCell _ _ _=Wf
 have hs:Only [w.heap.size+1,w.heap.size+1+1] w1 Wf:=by
  rw [← hWf]
  exact (((((Only.refl _ _).setCell (by simp) _).setCell (by simp) _).setCell (by simp) _).setCell (by simp) _).setCell (by simp) _
 refine ⟨(hO.drew.q hq1).trans hs (by simp) (fun g hg hlt=>?_),_,?_,(hown1.ints.only hs (fun g hg=>?_)).mono ?_ hs.size⟩
 ·simp only [List.mem_cons,List.not_mem_nil,or_false] at hg;omega
 ·rw [← Hq.out]
 ·simp only [List.mem_cons,List.not_mem_nil,or_false] at hg
  left;show g<W3.heap.size;omega
 ·show w.heap.size≤W3.heap.size;omega
def zeros:List Int→Nat
 | []=>0
 | x :: l=>if x=0 then zeros l+1 else 0
def endR (l:List Int) (p:Nat):Option Err :=
 if p<l.length then (match peekR l p with | .error e=>some e | .ok _=>some ⟨[],5⟩) else none
theorem getD_nn {d:List Int} (hr:∀ x∈d,InK .u8 x) (i:Nat):0≤d.getD i 0:=by
 by_cases h:i<d.length
 ·have:InK .u8 (d.getD i 0):=by refine hr _ ?_;simp [h]
  exact this.1
 ·simp [List.getD_eq_getElem?_getD,List.getElem?_eq_none (Nat.le_of_not_lt h)]
theorem lenU_nn (d:List Int) (hr:∀ x∈d,InK .u8 x):0≤lenU d:=by
 have:=getD_nn hr 1;have:=getD_nn hr 2;have:=getD_nn hr 3
 unfold lenU;omega
theorem nextD_ok {d:List Int} {p:Nat} {u:UnitD} (h:nextD d p=.ok u) (hd:0<d.length) (hr:∀ x∈d,InK .u8 x):u.at_=p∧p<u.end_∧u.end_≤p+d.length∧0≤u.kind∧u.kind≤255∧u.data.length+p≤u.end_:=by
 have h0:InK .u8 (d.getD 0 0):=by refine hr _ ?_;simp [hd]
 unfold nextD at h
 split at h
 ·cases h;exact ⟨rfl,by simp,by simp;omega,by simp,by simp,by simp⟩
 split at h
 ·cases h
 split at h
 ·cases h
 split at h
 ·cases h
 split at h
 ·cases h
 cases h
 unfold InK at h0
 refine ⟨rfl,by simp;omega,by simp;have:=lenU_nn d hr;omega,h0.1,h0.2,?_⟩
 simp only [List.length_take]
 omega
theorem peekR_ok {l:List Int} {p:Nat} {u:UnitD} (h:peekR l p=.ok u) (hp:p≤l.length) (hr:∀ x∈l,InK .u8 x):u.at_=p∧p<u.end_∧u.end_≤l.length∧0≤u.kind∧u.kind≤255∧u.data.length+p≤u.end_:=by
 unfold peekR at h
 split at h
 ·cases h
 have:=nextD_ok h (by rw [List.length_drop];omega) (fun x hx=>hr x (List.mem_of_mem_drop hx))
 rw [List.length_drop] at this
 omega
end Go.Proofs.YtkigikallkpbcaaGreatDoor
