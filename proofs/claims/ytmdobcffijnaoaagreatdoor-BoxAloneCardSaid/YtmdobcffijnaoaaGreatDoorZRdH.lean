/- The reader of box: head. Conditions: the reader lies in a block behind its bytes. -/
import Derived.Test.YtmdobcffijnaoaaGreatDoorB1
import Derived.Test.YtmdobcffijnaoaaGreatDoorC3
import Derived.Test.YtmdobcffijnaoaaGreatDoorBH
import Derived.Deep.CutRange
namespace Go.Proofs.YtmdobcffijnaoaaGreatDoor
open Go.RowKit
set_option linter.unusedVariables false
set_option linter.unusedSimpArgs false
set_option maxRecDepth 100000
set_option maxHeartbeats 16000000
structure HeadD where
 W:Int
 H:Int
 F:Int
 c:Cfg
 parts:Int
def headD (d:List Int):HeadD :=
 ⟨8*d.getD 0 0,8*d.getD 1 0,d.getD 2 0,
  ⟨d.getD 4 0,d.getD 5 0,d.getD 6 0,getB ((d.take 10).drop 8),d.getD 7 0,getB ((d.take 14).drop 10),getB ((d.take 18).drop 14),getB ((d.take 22).drop 18)⟩,d.getD 3 0⟩
def headOk (h:HeadD):Prop:=newB h.W h.H 0=true∧1≤h.F∧h.F≤16∧1≤h.parts∧h.parts≤h.F∧mayB h.c=true
instance (h:HeadD):Decidable (headOk h):=by unfold headOk;infer_instance
def headR (l:List Int) (p n:Nat):(Except Err HeadD)×Nat×Nat :=
 match nextR l p 16 22 with
 | .error e=>(.error e,p,n)
 | .ok u=>if headOk (headD u.data) then (.ok (headD u.data),u.end_,n+1) else (.error ⟨[],2⟩,p,n)
def cfg0:Cfg:=⟨0,0,0,0,0,0,0,0⟩
def HeadP (R:Nat) (bv:Value) (w:World) (r:(Except Err HeadD)×Nat×Nat) (e:Ending) (w':World):Prop :=
 Only [R] w w'∧Rd R bv w' r.2.1 r.2.2∧match r.1 with
  | .ok h=>e=.returned (.tuple #[infoV h.W h.H h.F h.c (.slice none 0 0),.int .i64 h.parts,.nilIface])
  | .error er=>∃ ev,e=.returned (.tuple #[infoV 0 0 0 cfg0 (.slice none 0 0),.int .i64 0,ev])∧ErrV w.heap.size w'.heap.size w' ev er
abbrev set12 (w:World) (g:Nat) (v0 v1 v2 v3 v4 v5 v6 v7 v8 v9 v10 v11:Value):World :=
 ((((((((((((w.setCell ⟨g,0,none⟩ v0).setCell ⟨g,1,none⟩ v1).setCell ⟨g,2,none⟩ v2).setCell ⟨g,3,none⟩ v3).setCell ⟨g,4,none⟩ v4).setCell ⟨g,5,none⟩ v5).setCell ⟨g,6,none⟩ v6).setCell ⟨g,7,none⟩ v7).setCell ⟨g,8,none⟩ v8).setCell ⟨g,9,none⟩ v9).setCell ⟨g,10,none⟩ v10).setCell ⟨g,11,none⟩ v11)
section
variable {w w1 Wf:World} {g:Nat} {a0 a1 a2 a3 a4 a5 a6 a7 a8 a9 a10 a11 v0 v1 v2 v3 v4 v5 v6 v7 v8 v9 v10 v11:Value} {t:TypeId}
theorem step12_0 (h:w.heap[g]?=some (.cells #[a0,a1,a2,a3,a4,a5,a6,a7,a8,a9,a10,a11] t (0,0))):(w.setCell ⟨g,0,none⟩ v0).heap[g]?=some (.cells #[v0,a1,a2,a3,a4,a5,a6,a7,a8,a9,a10,a11] t (0,0)):=heap_setCell_same w g 0 _ _ v0 h
theorem step12_1 (h:w.heap[g]?=some (.cells #[a0,a1,a2,a3,a4,a5,a6,a7,a8,a9,a10,a11] t (0,0))):(w.setCell ⟨g,1,none⟩ v1).heap[g]?=some (.cells #[a0,v1,a2,a3,a4,a5,a6,a7,a8,a9,a10,a11] t (0,0)):=heap_setCell_same w g 1 _ _ v1 h
theorem step12_2 (h:w.heap[g]?=some (.cells #[a0,a1,a2,a3,a4,a5,a6,a7,a8,a9,a10,a11] t (0,0))):(w.setCell ⟨g,2,none⟩ v2).heap[g]?=some (.cells #[a0,a1,v2,a3,a4,a5,a6,a7,a8,a9,a10,a11] t (0,0)):=heap_setCell_same w g 2 _ _ v2 h
theorem step12_3 (h:w.heap[g]?=some (.cells #[a0,a1,a2,a3,a4,a5,a6,a7,a8,a9,a10,a11] t (0,0))):(w.setCell ⟨g,3,none⟩ v3).heap[g]?=some (.cells #[a0,a1,a2,v3,a4,a5,a6,a7,a8,a9,a10,a11] t (0,0)):=heap_setCell_same w g 3 _ _ v3 h
theorem step12_4 (h:w.heap[g]?=some (.cells #[a0,a1,a2,a3,a4,a5,a6,a7,a8,a9,a10,a11] t (0,0))):(w.setCell ⟨g,4,none⟩ v4).heap[g]?=some (.cells #[a0,a1,a2,a3,v4,a5,a6,a7,a8,a9,a10,a11] t (0,0)):=heap_setCell_same w g 4 _ _ v4 h
theorem step12_5 (h:w.heap[g]?=some (.cells #[a0,a1,a2,a3,a4,a5,a6,a7,a8,a9,a10,a11] t (0,0))):(w.setCell ⟨g,5,none⟩ v5).heap[g]?=some (.cells #[a0,a1,a2,a3,a4,v5,a6,a7,a8,a9,a10,a11] t (0,0)):=heap_setCell_same w g 5 _ _ v5 h
theorem step12_6 (h:w.heap[g]?=some (.cells #[a0,a1,a2,a3,a4,a5,a6,a7,a8,a9,a10,a11] t (0,0))):(w.setCell ⟨g,6,none⟩ v6).heap[g]?=some (.cells #[a0,a1,a2,a3,a4,a5,v6,a7,a8,a9,a10,a11] t (0,0)):=heap_setCell_same w g 6 _ _ v6 h
theorem step12_7 (h:w.heap[g]?=some (.cells #[a0,a1,a2,a3,a4,a5,a6,a7,a8,a9,a10,a11] t (0,0))):(w.setCell ⟨g,7,none⟩ v7).heap[g]?=some (.cells #[a0,a1,a2,a3,a4,a5,a6,v7,a8,a9,a10,a11] t (0,0)):=heap_setCell_same w g 7 _ _ v7 h
theorem step12_8 (h:w.heap[g]?=some (.cells #[a0,a1,a2,a3,a4,a5,a6,a7,a8,a9,a10,a11] t (0,0))):(w.setCell ⟨g,8,none⟩ v8).heap[g]?=some (.cells #[a0,a1,a2,a3,a4,a5,a6,a7,v8,a9,a10,a11] t (0,0)):=heap_setCell_same w g 8 _ _ v8 h
theorem step12_9 (h:w.heap[g]?=some (.cells #[a0,a1,a2,a3,a4,a5,a6,a7,a8,a9,a10,a11] t (0,0))):(w.setCell ⟨g,9,none⟩ v9).heap[g]?=some (.cells #[a0,a1,a2,a3,a4,a5,a6,a7,a8,v9,a10,a11] t (0,0)):=heap_setCell_same w g 9 _ _ v9 h
theorem step12_10 (h:w.heap[g]?=some (.cells #[a0,a1,a2,a3,a4,a5,a6,a7,a8,a9,a10,a11] t (0,0))):(w.setCell ⟨g,10,none⟩ v10).heap[g]?=some (.cells #[a0,a1,a2,a3,a4,a5,a6,a7,a8,a9,v10,a11] t (0,0)):=heap_setCell_same w g 10 _ _ v10 h
theorem step12_11 (h:w.heap[g]?=some (.cells #[a0,a1,a2,a3,a4,a5,a6,a7,a8,a9,a10,a11] t (0,0))):(w.setCell ⟨g,11,none⟩ v11).heap[g]?=some (.cells #[a0,a1,a2,a3,a4,a5,a6,a7,a8,a9,a10,v11] t (0,0)):=heap_setCell_same w g 11 _ _ v11 h
theorem row12 (h:w.heap[g]?=some (.cells #[a0,a1,a2,a3,a4,a5,a6,a7,a8,a9,a10,a11] t (0,0))):(set12 w g v0 v1 v2 v3 v4 v5 v6 v7 v8 v9 v10 v11).heap[g]?=some (.cells #[v0,v1,v2,v3,v4,v5,v6,v7,v8,v9,v10,v11] t (0,0)):=by
 unfold set12
 have h0:=step12_0 (v0:=v0) h
 have h1:=step12_1 (v1:=v1) h0
 have h2:=step12_2 (v2:=v2) h1
 have h3:=step12_3 (v3:=v3) h2
 have h4:=step12_4 (v4:=v4) h3
 have h5:=step12_5 (v5:=v5) h4
 have h6:=step12_6 (v6:=v6) h5
 have h7:=step12_7 (v7:=v7) h6
 have h8:=step12_8 (v8:=v8) h7
 have h9:=step12_9 (v9:=v9) h8
 have h10:=step12_10 (v10:=v10) h9
 have h11:=step12_11 (v11:=v11) h10
 exact h11
theorem only12:Only [g] w (set12 w g v0 v1 v2 v3 v4 v5 v6 v7 v8 v9 v10 v11):=(Only.setCell (Only.setCell (Only.setCell (Only.setCell (Only.setCell (Only.setCell (Only.setCell (Only.setCell (Only.setCell (Only.setCell (Only.setCell (Only.setCell (Only.refl _ _) (by simp) _) (by simp) _) (by simp) _) (by simp) _) (by simp) _) (by simp) _) (by simp) _) (by simp) _) (by simp) _) (by simp) _) (by simp) _) (by simp) _)
theorem cells12 (h:Wf.heap[g]?=some (.cells #[v0,v1,v2,v3,v4,v5,v6,v7,v8,v9,v10,v11] t (0,0))):(Wf.cell? ⟨g,0,none⟩=some v0∧Wf.cell? ⟨g,1,none⟩=some v1∧Wf.cell? ⟨g,2,none⟩=some v2∧Wf.cell? ⟨g,3,none⟩=some v3∧Wf.cell? ⟨g,4,none⟩=some v4∧Wf.cell? ⟨g,5,none⟩=some v5)∧(Wf.cell? ⟨g,6,none⟩=some v6∧Wf.cell? ⟨g,7,none⟩=some v7∧Wf.cell? ⟨g,8,none⟩=some v8∧Wf.cell? ⟨g,9,none⟩=some v9∧Wf.cell? ⟨g,10,none⟩=some v10∧Wf.cell? ⟨g,11,none⟩=some v11):=by
 refine ⟨⟨?_,?_,?_,?_,?_,?_⟩,⟨?_,?_,?_,?_,?_,?_⟩⟩ <;> (rw [cell_of_row _ _ _ _ _ _ h];rfl)
theorem frz12 (h:Wf.heap[g]?=some (.cells #[v0,v1,v2,v3,v4,v5,v6,v7,v8,v9,v10,v11] t (0,0))):(Wf.frozen? ⟨g,0,none⟩=false∧Wf.frozen? ⟨g,1,none⟩=false∧Wf.frozen? ⟨g,2,none⟩=false∧Wf.frozen? ⟨g,3,none⟩=false∧Wf.frozen? ⟨g,4,none⟩=false∧Wf.frozen? ⟨g,5,none⟩=false)∧(Wf.frozen? ⟨g,6,none⟩=false∧Wf.frozen? ⟨g,7,none⟩=false∧Wf.frozen? ⟨g,8,none⟩=false∧Wf.frozen? ⟨g,9,none⟩=false∧Wf.frozen? ⟨g,10,none⟩=false∧Wf.frozen? ⟨g,11,none⟩=false):=by
 refine ⟨⟨?_,?_,?_,?_,?_,?_⟩,⟨?_,?_,?_,?_,?_,?_⟩⟩ <;> exact frozen_of_row _ _ _ _ _ h
theorem end12 {U:Obj} {b0 b1 b2 b3 b4 b5 b6 b7 b8 b9 b10 b11:Value} (h:w1.heap[g]?=some (.cells #[b0,b1,b2,b3,b4,b5,b6,b7,b8,b9,b10,b11] t (0,0))) (hW:(set12 w1 g v0 v1 v2 v3 v4 v5 v6 v7 v8 v9 v10 v11).alloc U=Wf) :
  Wf.heap[g]?=some (.cells #[v0,v1,v2,v3,v4,v5,v6,v7,v8,v9,v10,v11] t (0,0))∧Only [g] w1 Wf:=by
 have r:=(Only.new (set12 w1 g v0 v1 v2 v3 v4 v5 v6 v7 v8 v9 v10 v11) U).rowAt (row12 h) (by simp)
 have o:Only [g] w1 ((set12 w1 g v0 v1 v2 v3 v4 v5 v6 v7 v8 v9 v10 v11).alloc U):=only12.alloc _
 rw [hW] at r o
 exact ⟨r,o⟩
theorem end12' {b0 b1 b2 b3 b4 b5 b6 b7 b8 b9 b10 b11:Value} (h:w1.heap[g]?=some (.cells #[b0,b1,b2,b3,b4,b5,b6,b7,b8,b9,b10,b11] t (0,0))) (hW:set12 w1 g v0 v1 v2 v3 v4 v5 v6 v7 v8 v9 v10 v11=Wf) :
  Wf.heap[g]?=some (.cells #[v0,v1,v2,v3,v4,v5,v6,v7,v8,v9,v10,v11] t (0,0))∧Only [g] w1 Wf:=by
 have r:=row12 (v0:=v0) (v1:=v1) (v2:=v2) (v3:=v3) (v4:=v4) (v5:=v5) (v6:=v6) (v7:=v7) (v8:=v8) (v9:=v9) (v10:=v10) (v11:=v11) h
 have o:Only [g] w1 (set12 w1 g v0 v1 v2 v3 v4 v5 v6 v7 v8 v9 v10 v11):=only12
 rw [hW] at r o
 exact ⟨r,o⟩
end
theorem rhead_any {lo hi R p n:Nat} {bv:Value} {l:List Int} {w:World} (hr:Rd R bv w p n) (h:Ints .u8 lo hi w bv l) (hR:hi≤R) (hp:p≤l.length) (hn:n≤p) (hl:l.length≤1000000000000) :
  Calls Tryz.prog 65 #[.pointer (some ⟨R,0,none⟩)] w (HeadP R bv w (headR l p n)):=by
 have hRl:=hr.lt
 have H:=lh (fun w' (o:Only [] w w')=>rnext_any 16 22 (hr.quiet o) (h.quiet o) hp)
 have HR:=lh hr
 have Hh:=lh h
 have Hl:=lh hl
 have hr8:=h.2
 clear hr h
 have hF:∀ (W:World),Only [] (w.alloc (.cells #[.int .i64 0,.int .i64 0,.int .i64 0,.int .i64 0,.int .i64 0,.int .i64 0,.int .i64 0,.int .i64 0,.int .i64 0,.int .i64 0,.int .i64 0,.slice none 0 0] 42)) W→W.heap[w.heap.size]?=some (.cells #[.int .i64 0,.int .i64 0,.int .i64 0,.int .i64 0,.int .i64 0,.int .i64 0,.int .i64 0,.int .i64 0,.int .i64 0,.int .i64 0,.int .i64 0,.slice none 0 0] 42 (0,0)):=fun W o=>o.fresh
 have HF:=lh hF
 clear hF
 cases hres:nextR l p 16 22 with
 | error er =>
  have hfin:headR l p n=(.error er,p,n):=by unfold headR;rw [hres]
  have Hfin:=lh hfin
  have Hres:=lh hres
  clear hfin hres hr8
  go_enter Tryz.func65,Tryz.ntmps65
  go_wp2_with (first
   | (go_at_call 45;refine (H.out _ (Only.new _ _)).mono ?_;rintro e w1 hP;rw [Hres.out] at hP;obtain ⟨hq,ev,rfl,hev⟩:=hP;obtain ⟨et,eu,rfl⟩:=hev.held;obtain ⟨⟨m0,m1,m2,m3,m4,m5⟩,⟨m6,m7,m8,m9,m10,m11⟩⟩:=cells12 (HF.out w1 hq);obtain ⟨⟨k0,k1,k2,k3,k4,k5⟩,⟨k6,k7,k8,k9,k10,k11⟩⟩:=frz12 (HF.out w1 hq);have hwl:w.heap.size<w1.heap.size:=(Array.getElem?_eq_some_iff.1 (HF.out w1 hq)).1)
   | fail)
  generalize hWf:World.alloc _ _=Wf
  obtain ⟨hrow,hO2⟩:=end12 (HF.out w1 hq) hWf
  obtain ⟨⟨t0,t1,t2,t3,t4,t5⟩,⟨t6,t7,t8,t9,t10,t11⟩⟩:=cells12 hrow
  refine bodyPost_ret (v:=.tuple #[infoV 0 0 0 cfg0 (.slice none 0 0),.int .i64 0,.iface et eu]) (by simp [results,Tryz.results65,go_sem,t0,t1,t2,t3,t4,t5,t6,t7,t8,t9,t10,t11,infoV,cfg0]) rfl ?_
  unfold HeadP
  rw [Hfin.out]
  have hA:Only [] w Wf:=((Only.new _ _).q hq).trans hO2 (by simp) (by simp)
  exact ⟨hA.mono (by simp),HR.out.quiet hA,_,rfl,(hev.only hO2 (by simp)).mono (by simp) hO2.size⟩
 | ok u =>
  obtain ⟨hpk,huk,hul⟩:=nextR_peek hres
  have hpe:=peekR_ok hpk hp hr8
  have hdr:=peekR_in hpk hr8
  obtain ⟨uk,ud,ua,ue⟩:=u
  simp only at huk hul hpe hdr
  subst huk
  have hul3:ud.length=22:=by omega
  obtain ⟨hua,hue1,hue2,hk0,hk1,hud⟩:=hpe
  have hua2:=hua.symm
  subst hua2
  clear hua
  have hA:headR l p n=(if headOk (headD ud) then (.ok (headD ud),ue,n+1) else (.error ⟨[],2⟩,p,n)):=by unfold headR;rw [hres]
  have HA:=lh hA
  have Hres:=lh hres
  have Hul:=lh hul3
  have Hr8:=lh hr8
  have Hdr:=lh hdr
  clear hA hres hpk hul hdr hr8 hul3
  have hrng:∀ i,i<22→(0≤ud.getD i 0∧ud.getD i 0≤255):=fun i hi=>ints_range Hdr.out (by rw [Hul.out];exact hi)
  have hx0:=hrng 0 (by omega)
  have hx1:=hrng 1 (by omega)
  have hx2:=hrng 2 (by omega)
  have hx3:=hrng 3 (by omega)
  have hx4:=hrng 4 (by omega)
  have hx5:=hrng 5 (by omega)
  have hx6:=hrng 6 (by omega)
  have hx7:=hrng 7 (by omega)
  have HD:Hid (headD ud=⟨8*ud.getD 0 0,8*ud.getD 1 0,ud.getD 2 0,⟨ud.getD 4 0,ud.getD 5 0,ud.getD 6 0,getB ((ud.take 10).drop 8),ud.getD 7 0,getB ((ud.take 14).drop 10),getB ((ud.take 18).drop 14),getB ((ud.take 22).drop 18)⟩,ud.getD 3 0⟩):=lh rfl
  have HC:∀ (w1:World) (db doff:Nat),(∀ i,i<ud.length→w1.cell? ⟨db,doff+i,none⟩=some (.int .u8 (ud.getD i 0)))→Hid (w1.cell? ⟨db,doff,none⟩=some (.int .u8 (ud.getD 0 0))∧w1.cell? ⟨db,doff+1,none⟩=some (.int .u8 (ud.getD 1 0))∧w1.cell? ⟨db,doff+2,none⟩=some (.int .u8 (ud.getD 2 0))∧w1.cell? ⟨db,doff+3,none⟩=some (.int .u8 (ud.getD 3 0))∧w1.cell? ⟨db,doff+4,none⟩=some (.int .u8 (ud.getD 4 0))∧w1.cell? ⟨db,doff+5,none⟩=some (.int .u8 (ud.getD 5 0))∧w1.cell? ⟨db,doff+6,none⟩=some (.int .u8 (ud.getD 6 0))∧w1.cell? ⟨db,doff+7,none⟩=some (.int .u8 (ud.getD 7 0))):=fun w1 db doff h =>
   lh ⟨h 0 (by have:=Hul.out;omega),h 1 (by have:=Hul.out;omega),h 2 (by have:=Hul.out;omega),h 3 (by have:=Hul.out;omega),h 4 (by have:=Hul.out;omega),h 5 (by have:=Hul.out;omega),h 6 (by have:=Hul.out;omega),h 7 (by have:=Hul.out;omega)⟩
  have HCC:=lh HC
  clear HC hrng
  generalize ud.getD 0 0=x0 at *
  generalize ud.getD 1 0=x1 at *
  generalize ud.getD 2 0=x2 at *
  generalize ud.getD 3 0=x3 at *
  generalize ud.getD 4 0=x4 at *
  generalize ud.getD 5 0=x5 at *
  generalize ud.getD 6 0=x6 at *
  generalize ud.getD 7 0=x7 at *
  have hw0:IntKind.i64.wrap x0=x0:=wraps_i64 _ hx0.1 (by omega)
  have hw1:IntKind.i64.wrap x1=x1:=wraps_i64 _ hx1.1 (by omega)
  have hw2:IntKind.i64.wrap x2=x2:=wraps_i64 _ hx2.1 (by omega)
  have hw3:IntKind.i64.wrap x3=x3:=wraps_i64 _ hx3.1 (by omega)
  have hw4:IntKind.i64.wrap x4=x4:=wraps_i64 _ hx4.1 (by omega)
  have hw5:IntKind.i64.wrap x5=x5:=wraps_i64 _ hx5.1 (by omega)
  have hw6:IntKind.i64.wrap x6=x6:=wraps_i64 _ hx6.1 (by omega)
  have hw7:IntKind.i64.wrap x7=x7:=wraps_i64 _ hx7.1 (by omega)
  have hm0:IntKind.i64.wrap (8*x0)=8*x0:=wraps_i64 _ (by omega) (by omega)
  have hm1:IntKind.i64.wrap (8*x1)=8*x1:=wraps_i64 _ (by omega) (by omega)
  go_enter Tryz.func65,Tryz.ntmps65
  go_wp2_with (first
   | (go_at_call 45;refine (H.out _ (Only.new _ _)).mono ?_;rintro e w1 hP;rw [Hres.out] at hP;obtain ⟨hq,dv,rfl,hdv⟩:=hP;have hdv:Ints .u8 (w.heap.size+1) w1.heap.size w1 dv ud:=(by simpa using hdv);obtain ⟨da,dcap,rfl,hdc,_,hat,hcl⟩:=hdv.open;simp only;obtain ⟨db,doff,rfl,hdb1,hdb2⟩:=hat 0 (by have:=Hul.out;omega);have hcl:=hcl db doff rfl;rw [Hul.out] at hdc;have Hdv:=lh hdv;have Hcl:=lh hcl;rw [Hul.out];clear hdv hat hcl)
   | fail)
  generalize hW3:World.alloc w1 _=W3
  have hqU:Only [] w1 W3:=by rw [← hW3];exact Only.new _ _
  have rU:W3.heap[w1.heap.size]?=some (.cells #[.int .i64 16,.slice (some ⟨db,doff,none⟩) 22 dcap,.int .i64 p,.int .i64 ue] 119 (0,0)):=by rw [← hW3];exact heap_alloc_new _ _
  obtain ⟨c0,c1,c2,c3,c4,c5,c6,c7⟩:=(HCC.out W3 db doff (fun i hi=>hqU.cell (Hcl.out i hi) (by simp))).out
  have rI:=hqU.rowAt (HF.out w1 hq) (by simp)
  have hdvU:Ints .u8 (w.heap.size+1) w1.heap.size W3 (.slice (some ⟨db,doff,none⟩) ud.length dcap) ud:=Hdv.out.quiet hqU
  have s1:=hdvU.sub (i:=8) (j:=10) (by omega) (by rw [Hul.out];omega) (dcap-8) (by omega) (by omega)
  have s2:=hdvU.sub (i:=10) (j:=14) (by omega) (by rw [Hul.out];omega) (dcap-10) (by omega) (by omega)
  have s3:=hdvU.sub (i:=14) (j:=18) (by omega) (by rw [Hul.out];omega) (dcap-14) (by omega) (by omega)
  have s4:=hdvU.sub (i:=18) (j:=22) (by omega) (by rw [Hul.out];omega) (dcap-18) (by omega) (by omega)
  have Hs1:=lh s1
  have Hs2:=lh s2
  have Hs3:=lh s3
  have Hs4:=lh s4
  have RU:=lh rU
  have RI:=lh rI
  have HqU:=lh hqU
  have HW3:Hid (W3.heap.size=w1.heap.size+1):=lh (by rw [← hW3];simp)
  have hl1:((ud.take 10).drop 8).length≤7:=by rw [List.length_drop,List.length_take];omega
  have hl2:((ud.take 14).drop 10).length≤7:=by rw [List.length_drop,List.length_take];omega
  have hl3:((ud.take 18).drop 14).length≤7:=by rw [List.length_drop,List.length_take];omega
  have hl4:((ud.take 22).drop 18).length≤7:=by rw [List.length_drop,List.length_take];omega
  have Hl1:=lh hl1
  have Hl2:=lh hl2
  have Hl3:=lh hl3
  have Hl4:=lh hl4
  have hz1:¬ dcap-8=0:=by omega
  have hz2:¬ dcap-10=0:=by omega
  have hz3:¬ dcap-14=0:=by omega
  have hz4:¬ dcap-18=0:=by omega
  have hy1:¬ dcap=8:=by omega
  have hy2:¬ dcap=10:=by omega
  have hy3:¬ dcap=14:=by omega
  have hy4:¬ dcap=18:=by omega
  have hk1:(10:Int)≤(dcap:Int):=by omega
  have hk2:(14:Int)≤(dcap:Int):=by omega
  have hk3:(18:Int)≤(dcap:Int):=by omega
  have hk4:(22:Int)≤(dcap:Int):=by omega
  clear hW3 hqU rU rI hdvU s1 s2 s3 s4 hl1 hl2 hl3 hl4 HCC Hcl hdc
  generalize hg1:getB ((ud.take 10).drop 8)=g1 at *
  generalize hg2:getB ((ud.take 14).drop 10)=g2 at *
  generalize hg3:getB ((ud.take 18).drop 14)=g3 at *
  generalize hg4:getB ((ud.take 22).drop 18)=g4 at *
  have Hg1:=lh hg1
  have Hg2:=lh hg2
  have Hg3:=lh hg3
  have Hg4:=lh hg4
  clear hg1 hg2 hg3 hg4
  go_cut [8] from 22 to 50 (fun s8 wx=>s8=.pointer (some ⟨W3.heap.size,0,none⟩)∧wx=(W3.alloc (.cells #[.int .i64 x4,.int .i64 x5,.int .i64 x6,.int .i64 g1,.int .i64 x7,.int .i64 g2,.int .i64 g3,.int .i64 g4] 39)).drew)
  case first =>
   go_region_held3 (fun w'=>w'.cell? ⟨db,doff+4,none⟩=some (.int .u8 x4)∧w'.cell? ⟨db,doff+5,none⟩=some (.int .u8 x5)∧w'.cell? ⟨db,doff+6,none⟩=some (.int .u8 x6)∧w'.cell? ⟨db,doff+7,none⟩=some (.int .u8 x7))
    (first | (simp [*,World.cell?_alloc_some,World.cell?_setCell_far,frozen?_alloc_cells,frozen_drew,World.frozen?_setCell]) | fail)
    (first
     | (go_at_call 108;refine (get_any (Hs1.out.quiet (by first | exact (Only.refl [] _).drew | exact (Only.new _ _).drew)) Hl1.out).mono ?_;rintro e w' ⟨rfl,rfl⟩;rw [Hg1.out];clear Hs1)
     | (go_at_call 108;refine (get_any (Hs2.out.quiet (by first | exact (Only.refl [] _).drew | exact (Only.new _ _).drew)) Hl2.out).mono ?_;rintro e w' ⟨rfl,rfl⟩;rw [Hg2.out];clear Hs2)
     | (go_at_call 108;refine (get_any (Hs3.out.quiet (by first | exact (Only.refl [] _).drew | exact (Only.new _ _).drew)) Hl3.out).mono ?_;rintro e w' ⟨rfl,rfl⟩;rw [Hg3.out];clear Hs3)
     | (go_at_call 108;refine (get_any (Hs4.out.quiet (by first | exact (Only.refl [] _).drew | exact (Only.new _ _).drew)) Hl4.out).mono ?_;rintro e w' ⟨rfl,rfl⟩;rw [Hg4.out];clear Hs4)
     | fail)
   all_goals (go_wp2_with fail;go_meet;exact ⟨rfl,rfl⟩)
  case rest =>
   obtain ⟨rfl,rfl⟩:=hcut
   generalize hW4:World.drew _=W4
   have hqC:Only [] W3 W4:=by rw [← hW4];exact (Only.new _ _).drew
   have rC:W4.heap[W3.heap.size]?=some (.cells #[.int .i64 x4,.int .i64 x5,.int .i64 x6,.int .i64 g1,.int .i64 x7,.int .i64 g2,.int .i64 g3,.int .i64 g4] 39 (0,0)):=by rw [← hW4];exact heap_alloc_new' rfl
   have e0:W4.cell? ⟨W3.heap.size,0,none⟩=some (.int .i64 x4):=by rw [cell_of_row _ _ _ _ _ _ rC];rfl
   have e1:W4.cell? ⟨W3.heap.size,1,none⟩=some (.int .i64 x5):=by rw [cell_of_row _ _ _ _ _ _ rC];rfl
   have e2:W4.cell? ⟨W3.heap.size,2,none⟩=some (.int .i64 x6):=by rw [cell_of_row _ _ _ _ _ _ rC];rfl
   have e3:W4.cell? ⟨W3.heap.size,3,none⟩=some (.int .i64 g1):=by rw [cell_of_row _ _ _ _ _ _ rC];rfl
   have e4:W4.cell? ⟨W3.heap.size,4,none⟩=some (.int .i64 x7):=by rw [cell_of_row _ _ _ _ _ _ rC];rfl
   have e5:W4.cell? ⟨W3.heap.size,5,none⟩=some (.int .i64 g2):=by rw [cell_of_row _ _ _ _ _ _ rC];rfl
   have e6:W4.cell? ⟨W3.heap.size,6,none⟩=some (.int .i64 g3):=by rw [cell_of_row _ _ _ _ _ _ rC];rfl
   have e7:W4.cell? ⟨W3.heap.size,7,none⟩=some (.int .i64 g4):=by rw [cell_of_row _ _ _ _ _ _ rC];rfl
   have d0:=hqC.cell c0 (by simp)
   have d1:=hqC.cell c1 (by simp)
   have d2:=hqC.cell c2 (by simp)
   have d3:=hqC.cell c3 (by simp)
   have HqC:=lh hqC
   have RC:=lh rC
   clear hqC rC hW4 c0 c1 c2 c3 c4 c5 c6 c7 hz1 hz2 hz3 hz4 hy1 hy2 hy3 hy4 hk1 hk2 hk3 hk4 Hs1 Hs2 Hs3 Hs4
   go_wp2_with fail
   go_region_held3 (fun w'=>(w'.cell? ⟨db,doff,none⟩=some (.int .u8 x0)∧w'.cell? ⟨db,doff+1,none⟩=some (.int .u8 x1)∧w'.cell? ⟨db,doff+2,none⟩=some (.int .u8 x2))∧(w'.cell? ⟨W3.heap.size,0,none⟩=some (.int .i64 x4)∧w'.cell? ⟨W3.heap.size,1,none⟩=some (.int .i64 x5)∧w'.cell? ⟨W3.heap.size,2,none⟩=some (.int .i64 x6)∧w'.cell? ⟨W3.heap.size,3,none⟩=some (.int .i64 g1)∧w'.cell? ⟨W3.heap.size,4,none⟩=some (.int .i64 x7)∧w'.cell? ⟨W3.heap.size,5,none⟩=some (.int .i64 g2)∧w'.cell? ⟨W3.heap.size,6,none⟩=some (.int .i64 g3)∧w'.cell? ⟨W3.heap.size,7,none⟩=some (.int .i64 g4)))
    (first | (simp [*,World.cell?_alloc_some,World.cell?_setCell_far,frozen?_alloc_cells,frozen_drew,World.frozen?_setCell]) | fail)
    (fail)
   generalize hW5:World.drew _=W5
   have hqI:Only [] W4 W5:=by rw [← hW5];exact (Only.new _ _).drew
   have rN:W5.heap[W4.heap.size]?=some (.cells #[.int .i64 (8*x0),.int .i64 (8*x1),.int .i64 x2,.int .i64 x4,.int .i64 x5,.int .i64 x6,.int .i64 g1,.int .i64 x7,.int .i64 g2,.int .i64 g3,.int .i64 g4,.slice none 0 0] 42 (0,0)):=by rw [← hW5];exact heap_alloc_new' rfl
   have RN5:=lh rN
   have RI5:=lh (hqI.rowAt (HqC.out.rowAt RI.out (by simp)) (by simp))
   have RU5:=lh (hqI.rowAt (HqC.out.rowAt RU.out (by simp)) (by simp))
   have RC5:=lh (hqI.rowAt RC.out (by simp))
   have hO5:Only [] w W5:=((Only.new _ _).q hq).q (HqU.out.q (HqC.out.q hqI))
   have HO5:=lh hO5
   obtain ⟨⟨i0,i1,i2,i3,i4,i5⟩,⟨i6,i7,i8,i9,i10,i11⟩⟩:=cells12 rN
   have d3:=hqI.cell d3 (by simp)
   clear hqI rN hW5 hO5 d0 d1 d2 e0 e1 e2 e3 e4 e5 e6 e7
   go_wp2_with fail
   have hDD:=HD.out
   have hnbad:(headOk (headD ud)∨¬ headOk (headD ud)):=Decidable.em _
   rcases hnbad with hgood | hbad
   ·have hfin:headR l p n=(.ok (headD ud),ue,n+1):=by rw [HA.out,if_pos hgood]
    rw [hDD] at hfin
    rw [hDD] at hgood
    obtain ⟨hnb,hg1,hg2,hg3,hg4,hm⟩:=hgood
    have hnb:newB (8*x0) (8*x1) 0=true:=hnb
    have hg1:1≤x2:=hg1
    have hg2:x2≤16:=hg2
    have hg3:1≤x3:=hg3
    have hg4:x3≤x2:=hg4
    have hm:mayB ⟨x4,x5,x6,g1,x7,g2,g3,g4⟩=true:=hm
    have h1:¬ x2<1:=by omega
    have h2:¬ 16<x2:=by omega
    have h3:¬ x3<1:=by omega
    have h4:¬ x2<x3:=by omega
    have Hfin:=lh hfin
    clear hfin hDD hg1 hg2 hg3 hg4
    go_wp2_with (first
     | (go_at_call 29;refine (pnew_any _ _ _ _).mono ?_;rintro e w6 hP;unfold NewP at hP;rw [hnb] at hP;obtain ⟨hq6,fa,fn,fc,rfl⟩:=hP;have rI6:=hq6.rowAt RI5.out (by simp);have rN6:=hq6.rowAt RN5.out (by simp);obtain ⟨⟨m0,m1,m2,m3,m4,m5⟩,⟨m6,m7,m8,m9,m10,m11⟩⟩:=cells12 rI6;obtain ⟨⟨k0,k1,k2,k3,k4,k5⟩,⟨k6,k7,k8,k9,k10,k11⟩⟩:=frz12 rI6;obtain ⟨⟨j0,j1,j2,j3,j4,j5⟩,⟨j6,j7,j8,j9,j10,j11⟩⟩:=cells12 rN6;have rC6:=hq6.rowAt RC5.out (by simp);have b0:w6.cell? ⟨W3.heap.size,0,none⟩=some (.int .i64 x4):=(by rw [cell_of_row _ _ _ _ _ _ rC6];rfl);have b1:w6.cell? ⟨W3.heap.size,1,none⟩=some (.int .i64 x5):=(by rw [cell_of_row _ _ _ _ _ _ rC6];rfl);have b2:w6.cell? ⟨W3.heap.size,2,none⟩=some (.int .i64 x6):=(by rw [cell_of_row _ _ _ _ _ _ rC6];rfl);have b3:w6.cell? ⟨W3.heap.size,3,none⟩=some (.int .i64 g1):=(by rw [cell_of_row _ _ _ _ _ _ rC6];rfl);have b4:w6.cell? ⟨W3.heap.size,4,none⟩=some (.int .i64 x7):=(by rw [cell_of_row _ _ _ _ _ _ rC6];rfl);have b5:w6.cell? ⟨W3.heap.size,5,none⟩=some (.int .i64 g2):=(by rw [cell_of_row _ _ _ _ _ _ rC6];rfl);have b6:w6.cell? ⟨W3.heap.size,6,none⟩=some (.int .i64 g3):=(by rw [cell_of_row _ _ _ _ _ _ rC6];rfl);have b7:w6.cell? ⟨W3.heap.size,7,none⟩=some (.int .i64 g4):=(by rw [cell_of_row _ _ _ _ _ _ rC6];rfl);have HI6:=lh rI6;have HN6:=lh rN6;clear rI6 rN6 rC6)
     | (go_at_call 54;refine (may_any ⟨x4,x5,x6,g1,x7,g2,g3,g4⟩ _).mono ?_;rintro e w7 ⟨rfl,hq7⟩;rw [hm];have HI7:=lh (hq7.rowAt HI6.out (by simp));obtain ⟨⟨p0,p1,p2,p3,p4,p5⟩,⟨p6,p7,p8,p9,p10,p11⟩⟩:=cells12 HI7.out;obtain ⟨⟨q0,q1,q2,q3,q4,q5⟩,⟨q6,q7,q8,q9,q10,q11⟩⟩:=frz12 HI7.out;obtain ⟨u0,u1,u2,u3⟩:=row4_cells ((hq6.q hq7).rowAt RU5.out (by simp)))
     | (go_at_call 46;refine (pass_any _ _ _ _ _ (n:=n) (e_:=ue) (HR.out.quiet (HO5.out.q (hq6.q hq7))) (by omega)).mono ?_;rintro e w8 ⟨rfl,hr8,hq8⟩;have hz7:=(HO5.out.q (hq6.q hq7)).size;have rI8:=hq8.rowAt HI7.out (by simp;omega);have rN8:=hq8.rowAt (hq7.rowAt HN6.out (by simp)) (by simp;have:=HqC.out.size;have:=HqU.out.size;have:=hq.size;simp at *;omega);obtain ⟨⟨n0,n1,n2,n3,n4,n5⟩,⟨n6,n7,n8,n9,n10,n11⟩⟩:=cells12 rI8;obtain ⟨⟨y0,y1,y2,y3,y4,y5⟩,⟨y6,y7,y8,y9,y10,y11⟩⟩:=frz12 rI8;obtain ⟨⟨z0,z1,z2,z3,z4,z5⟩,⟨z6,z7,z8,z9,z10,z11⟩⟩:=cells12 rN8;have HI8:=lh rI8;clear rI8 rN8)
     | fail)
    generalize hWf:World.setCell _ _ _=Wf
    obtain ⟨hrow,hO2⟩:=end12' HI8.out hWf
    obtain ⟨⟨t0,t1,t2,t3,t4,t5⟩,⟨t6,t7,t8,t9,t10,t11⟩⟩:=cells12 hrow
    refine bodyPost_ret (v:=.tuple #[infoV (8*x0) (8*x1) x2 ⟨x4,x5,x6,g1,x7,g2,g3,g4⟩ (.slice none 0 0),.int .i64 x3,.nilIface]) (by simp [results,Tryz.results65,go_sem,t0,t1,t2,t3,t4,t5,t6,t7,t8,t9,t10,t11,infoV]) rfl ?_
    unfold HeadP
    rw [Hfin.out]
    have hA:Only [R] w w8:=((HO5.out.q (hq6.q hq7)).mono (U:=[R]) (by simp)).trans hq8 (fun g h _=>h) (fun g h _=>h)
    exact ⟨hA.trans hO2 (fun g h _=>h) (fun g hg hlt=>absurd (mSg.1 hg) (by omega)),hr8.only hO2 (by simp;omega),rfl⟩
   ·have hfin:headR l p n=(.error ⟨[],2⟩,p,n):=by rw [HA.out,if_neg hbad]
    have Hfin:=lh hfin
    have hcase:newB (8*x0) (8*x1) 0=false∨(newB (8*x0) (8*x1) 0=true∧(x2<1∨(¬ x2<1∧16<x2)∨(¬ x2<1∧¬ 16<x2∧x3<1)∨(¬ x2<1∧¬ 16<x2∧¬ x3<1∧x2<x3)∨(¬ x2<1∧¬ 16<x2∧¬ x3<1∧¬ x2<x3∧mayB ⟨x4,x5,x6,g1,x7,g2,g3,g4⟩=false))):=by
     cases hnb:newB (8*x0) (8*x1) 0 with
     | false=>exact .inl rfl
     | true =>
      refine .inr ⟨rfl,?_⟩
      by_cases h1:x2<1
      ·exact .inl h1
      by_cases h2:16<x2
      ·exact .inr (.inl ⟨h1,h2⟩)
      by_cases h3:x3<1
      ·exact .inr (.inr (.inl ⟨h1,h2,h3⟩))
      by_cases h4:x2<x3
      ·exact .inr (.inr (.inr (.inl ⟨h1,h2,h3,h4⟩)))
      refine .inr (.inr (.inr (.inr ⟨h1,h2,h3,h4,?_⟩)))
      cases hm:mayB ⟨x4,x5,x6,g1,x7,g2,g3,g4⟩ with
      | false=>rfl
      | true=>exact absurd (by rw [hDD];exact ⟨hnb,(by show 1≤x2;omega),(by show x2≤16;omega),(by show 1≤x3;omega),(by show x3≤x2;omega),hm⟩) hbad
    clear hfin hDD hbad
    rcases hcase with hnb | ⟨hnb,hc⟩
    ·go_wp2_with (first
      | (go_at_call 29;refine (pnew_any _ _ _ _).mono ?_;rintro e w6 hP;unfold NewP at hP;rw [hnb] at hP;obtain ⟨hq6,rfl⟩:=hP;have rI6:=hq6.rowAt RI5.out (by simp);have rN6:=hq6.rowAt RN5.out (by simp);obtain ⟨⟨m0,m1,m2,m3,m4,m5⟩,⟨m6,m7,m8,m9,m10,m11⟩⟩:=cells12 rI6;obtain ⟨⟨k0,k1,k2,k3,k4,k5⟩,⟨k6,k7,k8,k9,k10,k11⟩⟩:=frz12 rI6;obtain ⟨⟨j0,j1,j2,j3,j4,j5⟩,⟨j6,j7,j8,j9,j10,j11⟩⟩:=cells12 rN6;have rC6:=hq6.rowAt RC5.out (by simp);have b0:w6.cell? ⟨W3.heap.size,0,none⟩=some (.int .i64 x4):=(by rw [cell_of_row _ _ _ _ _ _ rC6];rfl);have b1:w6.cell? ⟨W3.heap.size,1,none⟩=some (.int .i64 x5):=(by rw [cell_of_row _ _ _ _ _ _ rC6];rfl);have b2:w6.cell? ⟨W3.heap.size,2,none⟩=some (.int .i64 x6):=(by rw [cell_of_row _ _ _ _ _ _ rC6];rfl);have b3:w6.cell? ⟨W3.heap.size,3,none⟩=some (.int .i64 g1):=(by rw [cell_of_row _ _ _ _ _ _ rC6];rfl);have b4:w6.cell? ⟨W3.heap.size,4,none⟩=some (.int .i64 x7):=(by rw [cell_of_row _ _ _ _ _ _ rC6];rfl);have b5:w6.cell? ⟨W3.heap.size,5,none⟩=some (.int .i64 g2):=(by rw [cell_of_row _ _ _ _ _ _ rC6];rfl);have b6:w6.cell? ⟨W3.heap.size,6,none⟩=some (.int .i64 g3):=(by rw [cell_of_row _ _ _ _ _ _ rC6];rfl);have b7:w6.cell? ⟨W3.heap.size,7,none⟩=some (.int .i64 g4):=(by rw [cell_of_row _ _ _ _ _ _ rC6];rfl);have HI6:=lh rI6;have HN6:=lh rN6;clear rI6 rN6 rC6)
      | fail)
     generalize hWf:World.setCell _ _ _=Wf
     obtain ⟨hrow,hO2⟩:=end12' HI6.out hWf
     obtain ⟨⟨t0,t1,t2,t3,t4,t5⟩,⟨t6,t7,t8,t9,t10,t11⟩⟩:=cells12 hrow
     refine bodyPost_ret (v:=.tuple #[infoV 0 0 0 cfg0 (.slice none 0 0),.int .i64 0,.iface 29 (.int .i64 2)]) (by simp [results,Tryz.results65,go_sem,t0,t1,t2,t3,t4,t5,t6,t7,t8,t9,t10,t11,infoV,cfg0]) rfl ?_
     unfold HeadP
     rw [Hfin.out]
     have hA:Only [] w Wf:=(HO5.out.q hq6).trans hO2 (by simp) (by simp)
     exact ⟨hA.mono (by simp),HR.out.quiet hA,_,rfl,rfl⟩
    ·rcases hc with h1 | ⟨h1,h2⟩ | ⟨h1,h2,h3⟩ | ⟨h1,h2,h3,h4⟩ | ⟨h1,h2,h3,h4,hm⟩
     all_goals
      go_wp2_with (first
       | (go_at_call 29;refine (pnew_any _ _ _ _).mono ?_;rintro e w6 hP;unfold NewP at hP;rw [hnb] at hP;obtain ⟨hq6,fa,fn,fc,rfl⟩:=hP;have rI6:=hq6.rowAt RI5.out (by simp);have rN6:=hq6.rowAt RN5.out (by simp);obtain ⟨⟨m0,m1,m2,m3,m4,m5⟩,⟨m6,m7,m8,m9,m10,m11⟩⟩:=cells12 rI6;obtain ⟨⟨k0,k1,k2,k3,k4,k5⟩,⟨k6,k7,k8,k9,k10,k11⟩⟩:=frz12 rI6;obtain ⟨⟨j0,j1,j2,j3,j4,j5⟩,⟨j6,j7,j8,j9,j10,j11⟩⟩:=cells12 rN6;have rC6:=hq6.rowAt RC5.out (by simp);have b0:w6.cell? ⟨W3.heap.size,0,none⟩=some (.int .i64 x4):=(by rw [cell_of_row _ _ _ _ _ _ rC6];rfl);have b1:w6.cell? ⟨W3.heap.size,1,none⟩=some (.int .i64 x5):=(by rw [cell_of_row _ _ _ _ _ _ rC6];rfl);have b2:w6.cell? ⟨W3.heap.size,2,none⟩=some (.int .i64 x6):=(by rw [cell_of_row _ _ _ _ _ _ rC6];rfl);have b3:w6.cell? ⟨W3.heap.size,3,none⟩=some (.int .i64 g1):=(by rw [cell_of_row _ _ _ _ _ _ rC6];rfl);have b4:w6.cell? ⟨W3.heap.size,4,none⟩=some (.int .i64 x7):=(by rw [cell_of_row _ _ _ _ _ _ rC6];rfl);have b5:w6.cell? ⟨W3.heap.size,5,none⟩=some (.int .i64 g2):=(by rw [cell_of_row _ _ _ _ _ _ rC6];rfl);have b6:w6.cell? ⟨W3.heap.size,6,none⟩=some (.int .i64 g3):=(by rw [cell_of_row _ _ _ _ _ _ rC6];rfl);have b7:w6.cell? ⟨W3.heap.size,7,none⟩=some (.int .i64 g4):=(by rw [cell_of_row _ _ _ _ _ _ rC6];rfl);have HI6:=lh rI6;have HN6:=lh rN6;clear rI6 rN6 rC6)
       | (go_at_call 54;refine (may_any ⟨x4,x5,x6,g1,x7,g2,g3,g4⟩ _).mono ?_;rintro e w7 ⟨rfl,hq7⟩;rw [hm];have HI7:=lh (hq7.rowAt HI6.out (by simp));obtain ⟨⟨p0,p1,p2,p3,p4,p5⟩,⟨p6,p7,p8,p9,p10,p11⟩⟩:=cells12 HI7.out;obtain ⟨⟨q0,q1,q2,q3,q4,q5⟩,⟨q6,q7,q8,q9,q10,q11⟩⟩:=frz12 HI7.out;obtain ⟨u0,u1,u2,u3⟩:=row4_cells ((hq6.q hq7).rowAt RU5.out (by simp)))
       | fail)
      first
       | (have hq7':=hq6.q hq7;generalize hWf:World.setCell _ _ _=Wf;obtain ⟨hrow,hO2⟩:=end12' HI7.out hWf;obtain ⟨⟨t0,t1,t2,t3,t4,t5⟩,⟨t6,t7,t8,t9,t10,t11⟩⟩:=cells12 hrow;refine bodyPost_ret (v:=.tuple #[infoV 0 0 0 cfg0 (.slice none 0 0),.int .i64 0,.iface 29 (.int .i64 2)]) (by simp [results,Tryz.results65,go_sem,t0,t1,t2,t3,t4,t5,t6,t7,t8,t9,t10,t11,infoV,cfg0]) rfl ?_;unfold HeadP;rw [Hfin.out];have hA:Only [] w Wf:=(HO5.out.q hq7').trans hO2 (by simp) (by simp);exact ⟨hA.mono (by simp),HR.out.quiet hA,_,rfl,rfl⟩)
       | (generalize hWf:World.setCell _ _ _=Wf;obtain ⟨hrow,hO2⟩:=end12' HI6.out hWf;obtain ⟨⟨t0,t1,t2,t3,t4,t5⟩,⟨t6,t7,t8,t9,t10,t11⟩⟩:=cells12 hrow;refine bodyPost_ret (v:=.tuple #[infoV 0 0 0 cfg0 (.slice none 0 0),.int .i64 0,.iface 29 (.int .i64 2)]) (by simp [results,Tryz.results65,go_sem,t0,t1,t2,t3,t4,t5,t6,t7,t8,t9,t10,t11,infoV,cfg0]) rfl ?_;unfold HeadP;rw [Hfin.out];have hA:Only [] w Wf:=(HO5.out.q hq6).trans hO2 (by simp) (by simp);exact ⟨hA.mono (by simp),HR.out.quiet hA,_,rfl,rfl⟩)
end Go.Proofs.YtmdobcffijnaoaaGreatDoor
