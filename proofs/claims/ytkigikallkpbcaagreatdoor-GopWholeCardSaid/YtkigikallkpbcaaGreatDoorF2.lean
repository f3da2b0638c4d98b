/- Joined texts: ELgt, GLight. Conditions: each part names its own. -/
import Derived.Test.YtkigikallkpbcaaGreatDoorT1
import Derived.Test.YtkigikallkpbcaaGreatDoorC1
import Derived.Test.YtkigikallkpbcaaGreatDoorG6
import Derived.Test.YtkigikallkpbcaaGreatDoorF1
import Derived.Deep.DeepCutAuto
namespace Go.Proofs.YtkigikallkpbcaaGreatDoor
open Go.RowKit
set_option linter.unusedVariables false
set_option linter.unusedSimpArgs false
set_option maxRecDepth 100000
set_option maxHeartbeats 16000000
section
theorem light_any (c:Cfg) (W H n:Int) (w:World) :
  Calls Tryz.prog 58 #[c.v,.int .i64 W,.int .i64 H,.int .i64 n] w fun e w'=>(∃ b,e=.returned (.bool b))∧Only [] w w':=by
 refine hidQ fun Q HPost=>?_
 obtain ⟨a0,a1,a2,a3,a4,a5,a6,a7⟩:=c
 unfold Cfg.v
 have hq:=Only.new w (.cells #[.int .i64 a0,.int .i64 a1,.int .i64 a2,.int .i64 a3,.int .i64 a4,.int .i64 a5,.int .i64 a6,.int .i64 a7] 60)
 have HQ:=lh hq
 clear hq
 go_enter Tryz.func58,Tryz.ntmps58
 go_wp2_with fail
 all_goals
  exact HPost.out _ _ ⟨⟨_,rfl⟩,HQ.out⟩
end
theorem qGLightt0 {p:Prop} (h:p:=by intro wz hSw;obtain ⟨hS0,h0,h1⟩:=hSw;obtain ⟨k0,k1,k2,k3,k4,k5,k6,k7⟩:=cfg_cells hS0;go_simp;try with_reducible rfl):p:=h
section
theorem qGLight0 {p:Prop} (h:p:=by
 refine tk 20 25 ?_
 refine tk 21 4 ?_
 refine wpAnyH_done (by kernel_rfl) ?_ _
 go_wp2_with fail
 exact HPost.out _ _ ⟨⟨_,rfl,by simp⟩,by first | exact HQ1.out.q HQ3.out | exact HQ1.out.q HQ3.out.drew⟩):p:=h
theorem glight_any {lo hi:Nat} {v:Value} {l:List FrameD} {a0 a1 a2 a3 a4 a5 a6 a7:Int} {w:World} (h:FramesAt lo hi w v l) :
  Calls Tryz.prog 27 #[.agg #[.int .i64 a0,.int .i64 a1,.int .i64 a2,.int .i64 a3,.int .i64 a4,.int .i64 a5,.int .i64 a6,.int .i64 a7],v] w fun e w'=>(∃ b,e=.returned (.bool b)∧(b=true→pixB l=true))∧Only [] w w':=by
 refine hidQ fun Q HPost=>?_
 have HP:=lh (fun (W:World) (o:Only [] w W)=>pix_any (h.quiet o))
 have hq1:=Only.new w (.cells #[.int .i64 a0,.int .i64 a1,.int .i64 a2,.int .i64 a3,.int .i64 a4,.int .i64 a5,.int .i64 a6,.int .i64 a7] 60)
 have HQ1:=lh hq1
 have HR1:=lh (heap_alloc_new w (.cells #[.int .i64 a0,.int .i64 a1,.int .i64 a2,.int .i64 a3,.int .i64 a4,.int .i64 a5,.int .i64 a6,.int .i64 a7] 60))
 obtain ⟨a,cap,rfl,hcap,hmax,hel⟩:=h.open
 have hll:(l.length:Int)≤9223372036854775807:=by unfold maxLen at hmax;omega
 clear h hcap hmax
 generalize hP:pixB l=P at *
 clear hP
 cases P with
 | false =>
  clear hel
  go_enter Tryz.func27,Tryz.ntmps27
  go_upto_region 1 with (fail)
  generalize hW1:World.alloc w _=W1 at *
  clear hW1
  refine wp_region_held_drew (S:=(fun _=>True)) (by kernel_rfl) ?_ (fun hHeld=>?_)
  ·trivial
  refine tk 0 5 ?_
  refine rdy (rdc 1 6 (fun K hK=>?_) .nil)
  go_simp
  go_at_call 57
  refine (HP.out _ (by first | exact HQ1.out | exact HQ1.out.drew)).mono ?_
  rintro e w3 ⟨rfl,hw3⟩
  have HQ3:Hid (Only [] W1 w3):=lh (by rw [← hw3];first | exact Only.refl _ _ | exact (Only.refl _ _).drew)
  clear hw3
  refine hK.out _ _ ?_ (fun hHeld=>?_)
  ·trivial
  clear hK K
  try simp only [Act.put,List.setIfInBounds_toArray,List.set_cons_zero,List.set_cons_succ]
  refine tk 2 7 ?_
  refine tkn 3 8 ?_
  refine tkn 4 9 ?_
  refine tkn 5 10 ?_
  refine tkn 6 11 ?_
  refine tkn 7 12 ?_
  refine tkn 8 13 ?_
  refine tkn 9 14 ?_
  refine tkn 10 15 ?_
  refine tkn 11 16 ?_
  refine tkn 12 17 ?_
  refine tkn 13 18 ?_
  refine tkn 14 19 ?_
  refine tkn 15 20 ?_
  refine tkn 16 21 ?_
  refine tkn 17 22 ?_
  refine tkn 18 23 ?_
  refine tkn 19 24 ?_
  exact qGLight0
 | true =>
  by_cases hl:l.length=0
  ·obtain rfl:l=[]:=List.eq_nil_of_length_eq_zero hl
   clear hel hl
   go_enter Tryz.func27,Tryz.ntmps27
   go_upto_region 1 with (fail)
   generalize hW1:World.alloc w _=W1 at *
   clear hW1
   refine wp_region_held_drew (S:=(fun _=>True)) (by kernel_rfl) ?_ (fun hHeld=>?_)
   ·trivial
   refine tk 0 5 ?_
   refine rdy (rdc 1 6 (fun K hK=>?_) .nil)
   go_simp
   go_at_call 57
   refine (HP.out _ (by first | exact HQ1.out | exact HQ1.out.drew)).mono ?_
   rintro e w3 ⟨rfl,hw3⟩
   have HQ3:Hid (Only [] W1 w3):=lh (by rw [← hw3];first | exact Only.refl _ _ | exact (Only.refl _ _).drew)
   clear hw3
   refine hK.out _ _ ?_ (fun hHeld=>?_)
   ·trivial
   clear hK K
   try simp only [Act.put,List.setIfInBounds_toArray,List.set_cons_zero,List.set_cons_succ]
   refine tk 2 7 ?_
   refine tk 3 8 ?_
   refine tk 4 9 ?_
   refine tk 5 10 ?_
   refine tk 6 11 ?_
   refine tkn 7 12 ?_
   refine tkn 8 13 ?_
   refine tkn 9 14 ?_
   refine tkn 10 15 ?_
   refine tkn 11 16 ?_
   refine tkn 12 17 ?_
   refine tkn 13 18 ?_
   refine tkn 14 19 ?_
   refine tkn 15 20 ?_
   refine tkn 16 21 ?_
   refine tkn 17 22 ?_
   refine tkn 18 23 ?_
   refine tk 19 24 ?_
   exact qGLight0
  ·have hpos:0<l.length:=by omega
   have hposi:(0:Int)<(l.length:Int):=by omega
   have q0:((l.length:Int) == 0)=false:=by rw [beq_eq_false_iff_ne];omega
   obtain ⟨b0,off,dv,rfl,-,-,h0,h1,-,-⟩:=hel 0 hpos
   have HL:=lh (fun (W:World)=>light_any ⟨a0,a1,a2,a3,a4,a5,a6,a7⟩ (l.getD 0 default).W (l.getD 0 default).H l.length W)
   unfold Cfg.v at HL
   rw [Nat.zero_mul,Nat.add_zero] at h0 h1
   generalize (l.getD 0 default).W=W at *
   generalize (l.getD 0 default).H=H at *
   have h0:=hq1.cell h0 (by simp)
   have h1:=hq1.cell h1 (by simp)
   clear hel hl hq1
   go_enter Tryz.func27,Tryz.ntmps27
   go_upto_region 1 with (fail)
   generalize hW1:World.alloc w _=W1 at *
   clear hW1
   refine wp_region_held_drew (S:=(fun wz=>wz.heap[w.heap.size]?=some (.cells #[.int .i64 a0,.int .i64 a1,.int .i64 a2,.int .i64 a3,.int .i64 a4,.int .i64 a5,.int .i64 a6,.int .i64 a7] 60 (0,0))∧wz.cell? ⟨b0,off,none⟩=some (.int .i64 W)∧wz.cell? ⟨b0,off+1,none⟩=some (.int .i64 H))) (by kernel_rfl) ?_ (fun hHeld=>?_)
   ·first | exact ⟨HR1.out,h0,h1⟩ | exact ⟨(Only.refl [] W1).drew.row HR1.out,(Only.refl [] W1).drew.cell h0 (by simp),(Only.refl [] W1).drew.cell h1 (by simp)⟩
   refine tkw 0 5 ⟨rfl,qGLightt0⟩ ?_
   refine rdy (rdc 1 6 (fun K hK=>?_) .nil)
   go_simp
   go_at_call 57
   refine (HP.out _ (by first | exact HQ1.out | exact HQ1.out.drew)).mono ?_
   rintro e w3 ⟨rfl,hw3⟩
   have HQ3:Hid (Only [] W1 w3):=lh (by rw [← hw3];first | exact Only.refl _ _ | exact (Only.refl _ _).drew)
   clear hw3
   refine hK.out _ _ ?_ (fun hHeld=>?_)
   ·exact ⟨HQ3.out.row HR1.out,HQ3.out.cell h0 (by simp),HQ3.out.cell h1 (by simp)⟩
   clear hK K
   try simp only [Act.put,List.setIfInBounds_toArray,List.set_cons_zero,List.set_cons_succ]
   refine tkw 2 7 ⟨rfl,qGLightt0⟩ ?_
   refine tkw 3 8 ⟨rfl,qGLightt0⟩ ?_
   refine tkw 4 9 ⟨rfl,qGLightt0⟩ ?_
   refine tkw 5 10 ⟨rfl,qGLightt0⟩ ?_
   refine tkw 6 11 ⟨rfl,qGLightt0⟩ ?_
   refine tkw 7 12 ⟨rfl,qGLightt0⟩ ?_
   refine tkw 8 13 ⟨rfl,qGLightt0⟩ ?_
   refine tkw 9 14 ⟨rfl,qGLightt0⟩ ?_
   refine tkw 10 15 ⟨rfl,qGLightt0⟩ ?_
   refine tkw 11 16 ⟨rfl,qGLightt0⟩ ?_
   refine tkw 12 17 ⟨rfl,qGLightt0⟩ ?_
   refine tkw 13 18 ⟨rfl,qGLightt0⟩ ?_
   refine tkw 14 19 ⟨rfl,qGLightt0⟩ ?_
   refine tkw 15 20 ⟨rfl,qGLightt0⟩ ?_
   refine tkw 16 21 ⟨rfl,qGLightt0⟩ ?_
   refine tkw 17 22 ⟨rfl,qGLightt0⟩ ?_
   refine rdy (rdc 18 23 (fun K hK=>?_) .nil)
   go_simp
   go_at_call 58
   refine (HL.out _).mono ?_
   rintro e w4 ⟨⟨bb,rfl⟩,hq4⟩
   have HQ4:Hid (Only [] W1 w4):=lh (by first | exact HQ3.out.q hq4 | exact HQ3.out.drew.q hq4)
   clear hq4
   refine hK.out _ _ ?_ (fun hHeld=>?_)
   ·exact ⟨HQ4.out.row HR1.out,HQ4.out.cell h0 (by simp),HQ4.out.cell h1 (by simp)⟩
   clear hK K
   try simp only [Act.put,List.setIfInBounds_toArray,List.set_cons_zero,List.set_cons_succ]
   refine tkw 19 24 ⟨rfl,qGLightt0⟩ ?_
   refine tkw 20 25 ⟨rfl,qGLightt0⟩ ?_
   refine tkw 21 4 ⟨rfl,qGLightt0⟩ ?_
   refine wpAnyH_done (by kernel_rfl) ?_ _
   go_wp2_with fail
   exact HPost.out _ _ ⟨⟨_,rfl,by simp⟩,by first | exact HQ1.out.q HQ4.out | exact HQ1.out.q HQ4.out.drew⟩
end
end Go.Proofs.YtkigikallkpbcaaGreatDoor
