/- Joined texts: ESqE, DRkE, DRkX. Conditions: each part names its own. -/
import Derived.Test.YtmgbbgffkakcaaaGreatDoorT1
import Derived.Test.YtmgbbgffkakcaaaGreatDoorW8
import Derived.Test.YtmgbbgffkakcaaaGreatDoorW4
import Derived.Test.YtmgbbgffkakcaaaGreatDoorR2
import Derived.StillTailTactics
import Derived.BigRegion
import Derived.Deep.RegionWith
import Derived.Deep.DeepCutAuto
import Derived.Test.YtmgbbgffkakcaaaGreatDoorA1
import Derived.Test.YtmgbbgffkakcaaaGreatDoorC1
import Derived.Test.YtmgbbgffkakcaaaGreatDoorC4
/- encode.Square, kinref21.Square: what both answer. Conditions: none. -/
set_option maxRecDepth 100000
set_option maxHeartbeats 16000000
namespace Go.Proofs.YtmgbbgffkakcaaaGreatDoor
def placeB (W H x y:Int):Bool:=decide (x.tmod 8=0) && decide (y.tmod 8=0) && liesD W H x y 8
/-- a square coded by itself, or why not -/
def squareE (src cur prev:FrameD) (key:Bool) (x y q r:Int):Except Int SqD :=
 if (mayF src && mayF cur)=false then .error 2
 else if (decide (cur.W=src.W) && decide (cur.H=src.H))=false then .error 14
 else match checkE src prev key q r with
  | some c=>.error c
  | none=>if placeB src.W src.H x y=false then .error 3 else .ok (chooseE src prev key q.toNat r.toNat cur x y)
theorem askE_none {src prev:FrameD} {key:Bool} {q r:Int} (h:checkE src prev key q r=none):(key=false→FrOk prev∧prev.W=src.W∧prev.H=src.H)∧(0≤q∧q≤15)∧0≤r∧r≤7:=by
 unfold checkE at h
 by_cases h1:mayF src=false
 ·rw [if_pos h1] at h;exact absurd h (by simp)
 rw [if_neg h1] at h
 by_cases h2:(!key && !matesB prev src.W src.H)=true
 ·rw [if_pos h2] at h;exact absurd h (by simp)
 rw [if_neg h2] at h
 by_cases h3:q<0∨15<q∨r<0∨7<r
 ·rw [if_pos h3] at h;exact absurd h (by simp)
 refine ⟨fun hk=>?_,by omega,by omega⟩
 subst hk
 have hm:matesB prev src.W src.H=true:=by simpa using h2
 simp only [matesB,Bool.and_eq_true,decide_eq_true_eq] at hm
 exact ⟨mayF_iff.1 hm.1.1,hm.1.2,hm.2⟩
theorem askE_ne {src prev:FrameD} {key:Bool} {q r c:Int} (h:checkE src prev key q r=some c):c≠0:=by
 unfold checkE at h
 split at h
 ·injection h with h;omega
 ·split at h
  ·injection h with h;omega
  ·split at h
   ·injection h with h;omega
   ·exact absurd h (by simp)
theorem placeB_in {W H x y:Int} (h:placeB W H x y=true):(0≤x∧x+8≤W)∧0≤y∧y+8≤H:=by
 simp only [placeB,liesD,Bool.and_eq_true,decide_eq_true_eq] at h
 omega
end Go.Proofs.YtmgbbgffkakcaaaGreatDoor
namespace Go.Proofs.YtmgbbgffkakcaaaGreatDoor
open Go.RowKit
set_option linter.unusedVariables false
set_option linter.unusedSimpArgs false
/-- the document's encoder in block E, its bytes an own row from base on -/
structure KEnc (base E:Nat) (w:World) (ov:Value) (m:Wrt):Prop where
 row:w.heap[E]?=some (.cells #[ov,.int .i64 m.r] 179 (0,0))
 own:Own .u8 5 base w ov (bytesBE m.n m.lo)
 hE:base≤E
 ne:∀ g,ov.ownBlock=some g→g≠E
section
variable {base E:Nat} {w w':World} {ov:Value} {m:Wrt} {S:List Nat}
end
section
section
variable {base R E:Nat} {w w':World} {ov:Value} {m:Wrt} {S:List Nat}
end
end
section
theorem qDRkX1 {p:Prop} (h:p:=by
 go_wp2_with fail
 go_at_call 120
 refine (copyb_any HIn.out (by have:=HIn.out.1.len_le;obtain ⟨a,c,e,h1,h2,-⟩:=HIn.out.open;injection e with e1 e2 e3;omega)).mono ?_
 rintro e w2 ⟨v',rfl,hown,hq⟩
 have HX:=lh (And.intro hown hq)
 clear hown hq
 go_wp2_with fail
 refine HPost.out _ _ ⟨v',rfl,?_,HX.out.2⟩
 rw [HEW.out];exact HX.out.1):p:=h
theorem kend_any {base E:Nat} {ov:Value} {m:Wrt} {w:World} (h:KEnc base E w ov m) (h4:4≤m.n) (hn:m.n≤1000000000) :
  Calls Tryz.prog 53 #[.pointer (some ⟨E,0,none⟩)] w fun e w'=>∃ v',e=.returned v'∧Own .u8 5 w.heap.size w' v' (endW m)∧Only [] w w':=by
 refine hidQ fun Q HPost=>?_
 have HEW:Hid (endW m=stripZ (bytesBE m.n m.lo)):=lh rfl
 have HLN:Hid ((bytesBE m.n m.lo).length=m.n):=lh (bytesBE_len _ _)
 obtain ⟨g,cap,rfl,-,-⟩:=h.own.form (by rw [bytesBE_len];omega)
 have HO:=lh h.own
 rw [bytesBE_len] at HO
 have hrow:=h.row
 rw [bytesBE_len] at hrow
 have hcap:(bytesBE m.n m.lo).length≤cap∧cap≤maxLen:=by obtain ⟨a,c,e,h1,h2,-⟩:=h.own.ints.open;injection e with e1 e2 e3;rw [e3];exact ⟨h1,h2⟩
 rw [bytesBE_len] at hcap
 generalize bytesBE m.n m.lo=L at *
 generalize m.n=N at *
 have HCap:=lh hcap
 have HRow:=lh hrow
 have hNi:(N:Int)≤1000000000:=by omega
 obtain ⟨c0,c1,-⟩:=row2 hrow
 clear h hrow hcap h4
 go_enter Tryz.func53,Tryz.ntmps53
 go_wp2_with fail
 clear c0 c1
 go_loopw [3] (fun v wr=>∃ k:Nat,k≤N∧v=.int .i64 k∧Hid (stripZ (L.take k)=stripZ L)∧w=wr) (fun v _=>(intOf v).toNat)
 case atStart=>exact ⟨N,Nat.le_refl _,rfl,lh (by rw [List.take_of_length_le (by rw [HLN.out];exact Nat.le_refl _)]),by first | rfl | skip⟩
 case round =>
  obtain ⟨k,hk,rfl,Hk,rfl⟩:=hrel
  obtain ⟨c0,c1,-⟩:=row2 HRow.out
  have HTail:Hid (∀ (j:Nat) (z:Int),z=(j:Int)→j≤N→stripZ L=L.take j→(∀ W:World,(Instr.slice 29 (.slice (some ⟨g,0,none⟩) N cap) none (some (.int .i64 z)) none).run Tryz.prog W=.ok (.slice (some ⟨g,0,none⟩) j cap) W)∧Ints .u8 base w.heap.size w (.slice (some ⟨g,0,none⟩) j cap) (stripZ L)):=lh (fun j z hz hj he=>by
   refine ⟨fun W=>slice_to j hz (by have:=HCap.out.1;omega) W,?_⟩
   rw [he]
   have hI:=HO.out.ints
   rw [← HLN.out] at hI
   have hi:=hI.sub (Nat.zero_le j) (by rw [HLN.out];exact hj) cap (Nat.le_refl _) (by have:=HCap.out.1;omega)
   simpa using hi)
  cases k with
  | zero =>
   have he:stripZ L=L.take 0:=by rw [← Hk.out];simp [stripZ]
   obtain ⟨hsl,hin⟩:=HTail.out 0 0 rfl (Nat.zero_le _) he
   have HIn:=lh hin
   clear hin he
   exact qDRkX1
  | succ k =>
   have hkl:k<L.length:=by rw [HLN.out];omega
   have cx:=HO.out.cellS HLN.out.symm hkl
   have hki:(k:Int)<(N:Int):=by omega
   have hk0:(0:Int)≤(k:Int):=by omega
   have e1:IntKind.i64.wrap (((k+1:Nat):Int)-1)=(k:Int):=by rw [IntKind.wrap_i64];omega
   have e2:(0:Int)<((k+1:Nat):Int):=by omega
   have e3:(((k+1:Nat):Int)-1)=(k:Int):=by omega
   have Hz:=lh (fun h=>stripZ_zero hkl h)
   have Hl:=lh (fun h=>stripZ_last hkl h)
   generalize L.getD k 0=z at *
   by_cases hz:z=0
   ·subst hz
    have Hn:Hid (stripZ (L.take k)=stripZ L):=lh (by rw [← Hk.out,Hz.out rfl])
    clear Hz Hl
    go_wp2_with fail
    exact ⟨⟨k,by omega,by go_num,Hn,by first | rfl | trivial⟩,by simp [intOf]⟩
   ·have he:stripZ L=L.take (k+1):=by rw [← Hl.out hz,Hk.out]
    obtain ⟨hsl,hin⟩:=HTail.out (k+1) ((k:Int)+1) (by omega) hk he
    have HIn:=lh hin
    clear hin he Hz Hl
    exact qDRkX1
/-- an error as the document tells it -/
def kerrV:Option Int→Value
 | none=>.agg #[.int .i64 0,.slice none 0 0]
 | some k=>.agg #[.int .i64 k,.slice none 0 0]
theorem qDRkX0 {p:Prop} (h:p:=by
 clear hr3
 go_wp2_with fail
 go_at_call 35
 refine (fail_any 3 _).mono ?_
 rintro e w5 ⟨rfl,hq5⟩
 have HX5:=lh (HX4.out.q hq5)
 have hr:=HX5.out.row HE1.out
 have HF:=lh (HEnd.out w5 3 (HQ1.out.q HX5.out) hr)
 obtain ⟨z0,z1,y0,y1,-⟩:=row2 hr
 clear hq5 hr
 go_wp2_with fail
 refine bodyPost_ret (v:=.agg #[.int .i64 3,.slice none 0 0]) (results_cell_row Tryz.results45 _ _ (w.heap.size+1+1) _ _ _ _ rfl HF.out.1 Tryz.underlying39 rfl (err_info _ rfl)) rfl (HPost.out _ _ ⟨?_,HF.out.2⟩)
 rw [HC3.out,if_pos HB3.out];rfl):p:=h
theorem kasks_any {lo hi lo' hi':Nat} {sv pv:Value} {src prev:FrameD} {w:World} (key:Bool) (qp reach:Int) (hs:Ints .i64 lo hi w sv src.pix) (hp:Ints .i64 lo' hi' w pv prev.pix) :
  Calls Tryz.prog 45 #[.agg #[.int .i64 src.W,.int .i64 src.H,sv],.agg #[.int .i64 prev.W,.int .i64 prev.H,pv],.bool key,.int .i64 qp,.int .i64 reach] w fun e w'=>e=.returned (kerrV (checkE src prev key qp reach))∧Only [] w w':=by
 refine hidQ fun Q HPost=>?_
 have HMs:=lh (fun (W:World) (o:Only [] w W)=>kmay_any src.W src.H (hs.quiet o))
 have HLe:=lh (fun (W:World) (o:Only [] w W)=>leans_any prev.W prev.H src.W src.H sv (hp.quiet o))
 have HC:Hid (checkE src prev key qp reach=if mayF src=false then some 2 else if (!key && !matesB prev src.W src.H)=true then some 12 else if qp<0∨15<qp∨reach<0∨7<reach then some 3 else none):=lh rfl
 rw [show (⟨src.W,src.H,src.pix⟩:FrameD)=src from rfl] at HMs
 rw [show (⟨prev.W,prev.H,prev.pix⟩:FrameD)=prev from rfl] at HLe
 obtain ⟨sa,sc,rfl,-⟩:=hs.open
 obtain ⟨pa,pc,rfl,-⟩:=hp.open
 generalize checkE src prev key qp reach=CK at *
 generalize mayF src=MF at *
 generalize matesB prev src.W src.H=MA at *
 obtain ⟨hb1,HS1,HP1,HE1,-⟩:=boxes3 w (.cells #[.int .i64 src.W,.int .i64 src.H,.slice sa src.pix.length sc] 24) (.cells #[.int .i64 prev.W,.int .i64 prev.H,.slice pa prev.pix.length pc] 24) (.cells #[.int .i64 0,.slice none 0 0] 39)
 have HQ1:=lh hb1
 have HEnd:Hid (∀ (W:World) (k:Int) (o:Only [] w W) (hr:W.heap[w.heap.size+1+1]?=some (.cells #[.int .i64 0,.slice none 0 0] 39 (0,0))),((W.setCell ⟨w.heap.size+1+1,0,none⟩ (.int .i64 k)).setCell ⟨w.heap.size+1+1,1,none⟩ (.slice none 0 0)).heap[w.heap.size+1+1]?=some (.cells #[.int .i64 k,.slice none 0 0] 39 (0,0))∧Only [] w ((W.setCell ⟨w.heap.size+1+1,0,none⟩ (.int .i64 k)).setCell ⟨w.heap.size+1+1,1,none⟩ (.slice none 0 0))):=lh (fun W k o hr=>by
  obtain ⟨h1,h2⟩:=row2_set (x:=.int .i64 k) (y:=.slice none 0 0) hr
  exact ⟨h1,o.trans h2 (by simp) (fun g hg hlt=>by rw [mSg] at hg;omega)⟩)
 clear hs hp hb1
 obtain ⟨s0,s1,s2⟩:=frame_cells HS1.out
 go_enter Tryz.func45,Tryz.ntmps45
 go_wp2_with fail
 generalize hW1:World.alloc (World.alloc (World.alloc w _) _) _=W1 at *
 clear hW1 s0 s1 s2
 go_at_call 66
 refine (HMs.out _ HQ1.out).mono ?_
 rintro e w2 ⟨rfl,hq2⟩
 have HX2:=lh hq2
 clear hq2
 cases MF with
 | false =>
  go_wp2_with fail
  go_at_call 35
  refine (fail_any 2 _).mono ?_
  rintro e w3 ⟨rfl,hq3⟩
  have HX3:=lh (HX2.out.q hq3)
  have hr:=HX3.out.row HE1.out
  have HF:=lh (HEnd.out w3 2 (HQ1.out.q HX3.out) hr)
  obtain ⟨z0,z1,y0,y1,-⟩:=row2 hr
  clear hq3 hr
  go_wp2_with fail
  refine bodyPost_ret (v:=.agg #[.int .i64 2,.slice none 0 0]) (results_cell_row Tryz.results45 _ _ (w.heap.size+1+1) _ _ _ _ rfl HF.out.1 Tryz.underlying39 rfl (err_info _ rfl)) rfl (HPost.out _ _ ⟨?_,HF.out.2⟩)
  rw [HC.out];rfl
 | true =>
  have HC2:Hid (CK=if (!key && !MA)=true then some 12 else if qp<0∨15<qp∨reach<0∨7<reach then some 3 else none):=lh (by rw [HC.out];rfl)
  go_upto_region 3 with (fail)
  go_cut [22] (fun s22 wx=>s22=.bool (!key && !MA)∧Hid (Only [] W1 wx))
  case first =>
   cases key with
   | true =>
    go_wp2_with fail
    go_meet
    exact ⟨rfl,HX2⟩
   | false =>
    obtain ⟨s0,s1,s2⟩:=frame_cells (HX2.out.row HS1.out)
    obtain ⟨p0,p1,p2⟩:=frame_cells (HX2.out.row HP1.out)
    go_wp2_with fail
    go_at_call 96
    refine (HLe.out _ (HQ1.out.q HX2.out)).mono ?_
    rintro e w3 ⟨rfl,hq3⟩
    have HX3:=lh (HX2.out.q hq3)
    clear hq3
    go_wp2_with fail
    go_meet
    exact ⟨rfl,HX3⟩
  case rest =>
   obtain ⟨rfl,HX4'⟩:=hcut
   obtain ⟨w4,hw4⟩:∃ z,z=wc:=⟨_,rfl⟩
   subst hw4
   have HX4:=HX4'
   clear HX2 HX4'
   cases hkm:(!key && !MA) with
   | true =>
    rw [hkm] at HC2
    go_wp2_with fail
    go_at_call 35
    refine (fail_any 12 _).mono ?_
    rintro e w5 ⟨rfl,hq5⟩
    have HX5:=lh (HX4.out.q hq5)
    have hr:=HX5.out.row HE1.out
    have HF:=lh (HEnd.out w5 12 (HQ1.out.q HX5.out) hr)
    obtain ⟨z0,z1,y0,y1,-⟩:=row2 hr
    clear hq5 hr
    go_wp2_with fail
    refine bodyPost_ret (v:=.agg #[.int .i64 12,.slice none 0 0]) (results_cell_row Tryz.results45 _ _ (w.heap.size+1+1) _ _ _ _ rfl HF.out.1 Tryz.underlying39 rfl (err_info _ rfl)) rfl (HPost.out _ _ ⟨?_,HF.out.2⟩)
    rw [HC2.out];rfl
   | false =>
    rw [hkm] at HC2
    have HC3:Hid (CK=if qp<0∨15<qp∨reach<0∨7<reach then some 3 else none):=lh (by rw [HC2.out];rfl)
    clear hkm
    by_cases hr3:qp<0∨15<qp∨reach<0∨7<reach
    ·have HB3:=lh hr3
     by_cases h1:qp<0
     ·exact qDRkX0
     ·by_cases h2:15<qp
      ·exact qDRkX0
      ·by_cases h3:reach<0
       ·exact qDRkX0
       ·have h4:7<reach:=by omega
        exact qDRkX0
    ·have hb:¬ (qp<0∨15<qp∨reach<0∨7<reach):=hr3
     have h1:¬ qp<0:=by omega
     have h2:¬ 15<qp:=by omega
     have h3:¬ reach<0:=by omega
     have h4:¬ 7<reach:=by omega
     have hrr:=HX4.out.row HE1.out
     have HF:=lh (HEnd.out w4 0 (HQ1.out.q HX4.out) hrr)
     obtain ⟨z0,z1,y0,y1,-⟩:=row2 hrr
     clear hrr hb hr3
     go_wp2_with fail
     refine bodyPost_ret (v:=.agg #[.int .i64 0,.slice none 0 0]) (results_cell_row Tryz.results45 _ _ (w.heap.size+1+1) _ _ _ _ rfl HF.out.1 Tryz.underlying39 rfl (err_info _ rfl)) rfl (HPost.out _ _ ⟨?_,HF.out.2⟩)
     rw [HC3.out,if_neg (by omega)];rfl
end
end Go.Proofs.YtmgbbgffkakcaaaGreatDoor
